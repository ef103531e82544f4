/- The row of SessionTurns: the walk, joined with the statement. -/
import Derived.Test.YtkcebmamohimoaaRows
import Derived.Test.YtkcebmamohimoaaT3
import Derived.WalkKit
import Derived.ProofKit
import Derived.OpenShut
import Derived.ShutString
import Derived.ChangeOld
import Derived.Below
import Derived.SizedLaws
namespace Go.Proofs.Ytkcebmamohimoaa
open Go.ChangeShapes Go.WideShapes Go.ChangeAt Go.RowKit
set_option linter.unusedVariables false
theorem own3 : ownKnob Try.prog.godebug = none := by kernel_rfl
theorem laidOut3 : laidOutB Try.prog = true := by kernel_rfl
set_option maxRecDepth 100000 in
theorem lifted3 (os : Os) (started : os.Started) (H : Type) (enc : TypeId × Value → H) :
    ReturnsInHanded {} Try.checked os 3 .any (Rows.sessionTurnsSpec.pre6 enc Try.prog Try.f3 Rows.sessionTurnsRow.domain false) (Rows.sessionTurnsSpec.post enc Try.prog Try.f3 false true false false) := by
  refine returnsInHanded_of_change_sized (C := Try.checked) own3 started (by kernel_rfl) Try.func3
    (ChangeSpec.witness6 (enc := enc) (C := Try.checked) false ⟨#[], #[.agg #[.int .i64 0, .slice none 0 0, .slice none 0 0, .int .i64 0, .int .u64 0, .int .i64 0, .int .i64 0, .int .i64 0, .int .i64 0, .string ByteArray.empty, .int .i64 0, .string ByteArray.empty, .string ByteArray.empty, .string ByteArray.empty, .string ByteArray.empty, .int .i64 0, .int .i64 0, .int .i64 0, .string ByteArray.empty, .int .i64 0]], []⟩ 8 (by kernel_rfl) (by kernel_rfl) (by kernel_rfl) (by kernel_rfl)) ?_
  intro W base args ds gs before hval0 hW hcnd hsz0 _
  have hval : ∀ (j : Nat) t v, Try.f3.params[j]? = some t → args[j]? = some v → Value.okWide Try.prog W .any base t v := hval0
  have hW' := hW
  obtain ⟨p, q, hA0, hV, rfl, hfz, hnd⟩ := hW
  have hA : DataW.TrodAll enc Try.prog W 0 (fun _ => true) true Try.f3.params.toList args.toList ds p := hA0
  rw [Try.params3] at hA hval
  obtain ⟨v0, vs0, d0, ds0, p0, q0, hargs, rfl, rfl, h0, r0⟩ := trodAll_cons hA
  obtain ⟨rfl, rfl, rfl⟩ := trodAll_nil r0
  obtain rfl : args = #[v0] := by cases args; simp_all
  obtain ⟨rfl, rfl⟩ := trodVars_none hV
  have k0 := h0
  have lt0 : ∀ x ∈ p0, x.block < W.heap.size := by obtain ⟨m, hm⟩ := k0; exact DataW.trod_lt m _ _ _ hm
  obtain ⟨cs, rfl, hcsz⟩ := okWide_struct Try.underlying32 (hval 0 32 v0 rfl rfl)
  obtain ⟨fuel, hf⟩ := h0
  obtain ⟨l⟩ := cs
  obtain ⟨ep, A1, c1, L, A2, c2, M, nx, nw, qq, id, conn, last, txn, rfl, hin⟩ := rd32 (⟨fuel, _, hf⟩ : Rd enc W 32 l)
  clear hA0 hval0 hsz0
  refine (turns3 A1 A2 c1 c2 ⟨ep, L, M, nx, nw⟩ qq id conn last txn W hin).mono fun e W' ⟨he, bel⟩ => ?_
  subst he
  exact ⟨_, rfl, _, _, _, [], _, [], hW', trodAll_mk1 (shut_bool Try.underlying4 _), (trodAll_cons_mk (Below.trod laidOut3 (by kernel_rfl) (of_decide_eq_true (by kernel_rfl)) k0 bel lt0) trodAll_mk0), rfl, bel.frame _, fun h => by cases h⟩
theorem named3 : Try.checked.prog.funcNamed Rows.sessionTurnsRow.func = some 3 := by kernel_rfl
theorem joined3 : joinedFacts Try.pinned.checked.prog 3 Try.f3 Rows.sessionTurnsSpec Rows.sessionTurnsRow = true := by kernel_rfl
theorem inst3 : Func.isInstance Try.pinned.checked.prog Try.f3 Rows.sessionTurnsRow.origin Rows.sessionTurnsRow.targs := of_decide_eq_true (by kernel_rfl)
theorem wrap3 : Func.isWrapper Try.pinned.checked.prog Try.f3 Rows.sessionTurnsRow.wrapper Rows.sessionTurnsRow.mainSum := by
  unfold Func.isWrapper
  first | (rw [if_pos (by decide +kernel)]; kernel_rfl) | (rw [if_neg (by decide +kernel)]; exact ⟨rfl, rfl⟩)
theorem sessionTurns_over : Rows.sessionTurnsRow.holds Try.pinned (OpenSpec.ofChange Rows.sessionTurnsSpec) :=
  OpenClaim.holds_of_wide 3 Try.f3 rfl rfl rfl rfl rfl rfl rfl ⟨rfl, rfl, rfl, rfl, rfl⟩ rfl rfl rfl rfl rfl named3 Try.func3 joined3 inst3 wrap3
    (fun os started H enc _ => lifted3 os started H enc)
theorem sessionTurns_holds : Rows.SessionTurnsSaid := sessionTurns_over
end Go.Proofs.Ytkcebmamohimoaa
