/- The row of BatchOnce: the walk, joined with the statement. -/
import Derived.Test.YtkcebmamohimoaaRows
import Derived.Test.YtkcebmamohimoaaTB
import Derived.WalkKit
import Derived.ProofKit
import Derived.OpenShut
import Derived.ShutString
import Derived.ChangeOld
import Derived.Below
import Derived.SizedLaws
namespace Go.Proofs.Ytkcebmamohimoaa
open Go.ChangeShapes Go.WideShapes Go.ChangeAt Go.RowKit
set_option linter.unusedVariables false
theorem own8 : ownKnob Try.prog.godebug = none := by kernel_rfl
theorem laidOut8 : laidOutB Try.prog = true := by kernel_rfl
set_option maxHeartbeats 2000000 in
set_option maxRecDepth 100000 in
theorem lifted8 (os : Os) (started : os.Started) (H : Type) (enc : TypeId × Value → H) :
    ReturnsInHanded {} Try.checked os 8 .any (Rows.batchOnceSpec.pre6 enc Try.prog Try.f8 Rows.batchOnceRow.domain false) (Rows.batchOnceSpec.post enc Try.prog Try.f8 false true false false) := by
  refine returnsInHanded_of_change_sized (C := Try.checked) own8 started (by kernel_rfl) Try.func8
    (ChangeSpec.witness6 (enc := enc) (C := Try.checked) false ⟨#[], #[.slice none 0 0], []⟩ 8 (by kernel_rfl) (by kernel_rfl) (by kernel_rfl) (by kernel_rfl)) ?_
  intro W base args ds gs before hval0 hW hcnd hsz0 _
  have hval : ∀ (j : Nat) t v, Try.f8.params[j]? = some t → args[j]? = some v → Value.okWide Try.prog W .any base t v := hval0
  have hW' := hW
  obtain ⟨p, q, hA0, hV, rfl, hfz, hnd⟩ := hW
  have hA : DataW.TrodAll enc Try.prog W 0 (fun _ => true) true Try.f8.params.toList args.toList ds p := hA0
  rw [Try.params8] at hA hval
  obtain ⟨v0, vs0, d0, ds0, p0, q0, hargs, rfl, rfl, h0, r0⟩ := trodAll_cons hA
  obtain ⟨rfl, rfl, rfl⟩ := trodAll_nil r0
  obtain rfl : args = #[v0] := by cases args; simp_all
  obtain ⟨rfl, rfl⟩ := trodVars_none hV
  have k0 := h0
  have lt0 : ∀ x ∈ p0, x.block < W.heap.size := by obtain ⟨m, hm⟩ := k0; exact DataW.trod_lt m _ _ _ hm
  obtain ⟨a0, n0, m0, rfl⟩ := okWide_slice Try.underlying84 (hval 0 84 v0 rfl rfl)
  obtain ⟨fuel, hf⟩ := h0
  obtain ⟨A, L, c, hcs, hC, _, hw⟩ := rd84 (⟨fuel, _, hf⟩ : Rd enc W 84 [.slice a0 n0 m0])
  simp only [List.cons.injEq, and_true] at hcs
  injection hcs with ea en em
  subst ea en em
  clear hA0 hval0 hsz0
  refine (once8 a0 m0 L W hC hw).mono fun e W' ⟨he, bel⟩ => ?_
  subst he
  exact ⟨_, rfl, _, _, _, [], _, [], hW', trodAll_mk1 (shut_bool Try.underlying4 _), (trodAll_cons_mk (Below.trod laidOut8 (by kernel_rfl) (of_decide_eq_true (by kernel_rfl)) k0 bel lt0) trodAll_mk0), rfl, bel.frame _, fun h => by cases h⟩
theorem named8 : Try.checked.prog.funcNamed Rows.batchOnceRow.func = some 8 := by kernel_rfl
theorem joined8 : joinedFacts Try.pinned.checked.prog 8 Try.f8 Rows.batchOnceSpec Rows.batchOnceRow = true := by kernel_rfl
theorem inst8 : Func.isInstance Try.pinned.checked.prog Try.f8 Rows.batchOnceRow.origin Rows.batchOnceRow.targs := of_decide_eq_true (by kernel_rfl)
theorem wrap8 : Func.isWrapper Try.pinned.checked.prog Try.f8 Rows.batchOnceRow.wrapper Rows.batchOnceRow.mainSum := by
  unfold Func.isWrapper
  first | (rw [if_pos (by decide +kernel)]; kernel_rfl) | (rw [if_neg (by decide +kernel)]; exact ⟨rfl, rfl⟩)
theorem batchOnce_over : Rows.batchOnceRow.holds Try.pinned (OpenSpec.ofChange Rows.batchOnceSpec) :=
  OpenClaim.holds_of_wide 8 Try.f8 rfl rfl rfl rfl rfl rfl rfl ⟨rfl, rfl, rfl, rfl, rfl⟩ rfl rfl rfl rfl rfl named8 Try.func8 joined8 inst8 wrap8
    (fun os started H enc _ => lifted8 os started H enc)
theorem batchOnce_holds : Rows.BatchOnceSaid := batchOnce_over
end Go.Proofs.Ytkcebmamohimoaa
