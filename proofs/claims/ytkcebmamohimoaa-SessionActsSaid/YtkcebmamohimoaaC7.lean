/- The row of SessionActs: the walk, joined with the statement. -/
import Derived.Test.YtkcebmamohimoaaRows
import Derived.Test.YtkcebmamohimoaaT7
import Derived.WalkKit
import Derived.ProofKit
import Derived.OpenShut
import Derived.ShutString
import Derived.ChangeOld
import Derived.Below
import Derived.SizedLaws
namespace Go.Proofs.Ytkcebmamohimoaa
open Go.ChangeShapes Go.WideShapes Go.ChangeAt Go.RowKit
set_option linter.unusedVariables false
theorem own7 : ownKnob Try.prog.godebug = none := by kernel_rfl
theorem laidOut7 : laidOutB Try.prog = true := by kernel_rfl
set_option maxRecDepth 100000 in
theorem lifted7 (os : Os) (started : os.Started) (H : Type) (enc : TypeId × Value → H) :
    ReturnsInHanded {} Try.checked os 7 .any (Rows.sessionActsSpec.pre6 enc Try.prog Try.f7 Rows.sessionActsRow.domain false) (Rows.sessionActsSpec.post enc Try.prog Try.f7 false true false false) := by
  refine returnsInHanded_of_change_sized (C := Try.checked) own7 started (by kernel_rfl) Try.func7
    (ChangeSpec.witness6 (enc := enc) (C := Try.checked) false ⟨#[], #[.agg #[.int .i64 0, .slice none 0 0, .slice none 0 0, .int .i64 0, .int .u64 0, .int .i64 0, .int .i64 0, .int .u64 0, .int .i64 0, .int .i64 0, .slice none 0 0, .slice none 0 0, .int .i64 0, .int .u64 0]], []⟩ 8 (by kernel_rfl) (by kernel_rfl) (by kernel_rfl) (by kernel_rfl)) ?_
  intro W base args ds gs before hval0 hW hcnd hsz0 _
  have hval : ∀ (j : Nat) t v, Try.f7.params[j]? = some t → args[j]? = some v → Value.okWide Try.prog W .any base t v := hval0
  have hW' := hW
  obtain ⟨p, q, hA0, hV, rfl, hfz, hnd⟩ := hW
  have hA : DataW.TrodAll enc Try.prog W 0 (fun _ => true) true Try.f7.params.toList args.toList ds p := hA0
  rw [Try.params7] at hA hval
  obtain ⟨v0, vs0, d0, ds0, p0, q0, hargs, rfl, rfl, h0, r0⟩ := trodAll_cons hA
  obtain ⟨rfl, rfl, rfl⟩ := trodAll_nil r0
  obtain rfl : args = #[v0] := by cases args; simp_all
  obtain ⟨rfl, rfl⟩ := trodVars_none hV
  have k0 := h0
  have lt0 : ∀ x ∈ p0, x.block < W.heap.size := by obtain ⟨m, hm⟩ := k0; exact DataW.trod_lt m _ _ _ hm
  obtain ⟨cs, rfl, hcsz⟩ := okWide_struct Try.underlying68 (hval 0 68 v0 rfl rfl)
  obtain ⟨fuel, hf⟩ := h0
  obtain ⟨l⟩ := cs
  obtain ⟨s, o, A1, c1, A2, c2, A3, c3, A4, c4, id, conn, now, ep, rfl, hin, hin2⟩ := rd68 (⟨fuel, _, hf⟩ : Rd enc W 68 l)
  clear hA0 hval0 hsz0
  refine (acts7 s o A1 A2 A3 A4 c1 c2 c3 c4 id conn now ep W hin hin2).mono fun e W' ⟨he, bel⟩ => ?_
  subst he
  exact ⟨_, rfl, _, _, _, [], _, [], hW', trodAll_mk1 (shut_bool Try.underlying4 _), (trodAll_cons_mk (Below.trod laidOut7 (by kernel_rfl) (of_decide_eq_true (by kernel_rfl)) k0 bel lt0) trodAll_mk0), rfl, bel.frame _, fun h => by cases h⟩
theorem named7 : Try.checked.prog.funcNamed Rows.sessionActsRow.func = some 7 := by kernel_rfl
theorem joined7 : joinedFacts Try.pinned.checked.prog 7 Try.f7 Rows.sessionActsSpec Rows.sessionActsRow = true := by kernel_rfl
theorem inst7 : Func.isInstance Try.pinned.checked.prog Try.f7 Rows.sessionActsRow.origin Rows.sessionActsRow.targs := of_decide_eq_true (by kernel_rfl)
theorem wrap7 : Func.isWrapper Try.pinned.checked.prog Try.f7 Rows.sessionActsRow.wrapper Rows.sessionActsRow.mainSum := by
  unfold Func.isWrapper
  first | (rw [if_pos (by decide +kernel)]; kernel_rfl) | (rw [if_neg (by decide +kernel)]; exact ⟨rfl, rfl⟩)
theorem sessionActs_over : Rows.sessionActsRow.holds Try.pinned (OpenSpec.ofChange Rows.sessionActsSpec) :=
  OpenClaim.holds_of_wide 7 Try.f7 rfl rfl rfl rfl rfl rfl rfl ⟨rfl, rfl, rfl, rfl, rfl⟩ rfl rfl rfl rfl rfl named7 Try.func7 joined7 inst7 wrap7
    (fun os started H enc _ => lifted7 os started H enc)
theorem sessionActs_holds : Rows.SessionActsSaid := sessionActs_over
end Go.Proofs.Ytkcebmamohimoaa
