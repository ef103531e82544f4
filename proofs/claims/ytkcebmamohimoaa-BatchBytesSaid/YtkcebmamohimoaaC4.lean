/- The row of BatchBytes: the walk, joined with the statement. -/
import Derived.Test.YtkcebmamohimoaaRows
import Derived.Test.YtkcebmamohimoaaT4
import Derived.WalkKit
import Derived.ProofKit
import Derived.OpenShut
import Derived.ShutString
import Derived.ChangeOld
import Derived.Below
import Derived.SizedLaws
namespace Go.Proofs.Ytkcebmamohimoaa
open Go.ChangeShapes Go.WideShapes Go.ChangeAt Go.RowKit
set_option linter.unusedVariables false
theorem own4 : ownKnob Try.prog.godebug = none := by kernel_rfl
theorem laidOut4 : laidOutB Try.prog = true := by kernel_rfl
set_option maxRecDepth 100000 in
theorem lifted4 (os : Os) (started : os.Started) (H : Type) (enc : TypeId × Value → H) :
    ReturnsInHanded {} Try.checked os 4 .any (Rows.batchBytesSpec.pre6 enc Try.prog Try.f4 Rows.batchBytesRow.domain false) (Rows.batchBytesSpec.post enc Try.prog Try.f4 false true false false) := by
  refine returnsInHanded_of_change_sized (C := Try.checked) own4 started (by kernel_rfl) Try.func4
    (ChangeSpec.witness6 (enc := enc) (C := Try.checked) false ⟨#[], #[.agg #[.int .i64 0, .string ByteArray.empty, .slice none 0 0], .string ByteArray.empty], []⟩ 8 (by kernel_rfl) (by kernel_rfl) (by kernel_rfl) (by kernel_rfl)) ?_
  intro W base args ds gs before hval0 hW hcnd hsz0 _
  have hval : ∀ (j : Nat) t v, Try.f4.params[j]? = some t → args[j]? = some v → Value.okWide Try.prog W .any base t v := hval0
  have hW' := hW
  obtain ⟨p, q, hA0, hV, rfl, hfz, hnd⟩ := hW
  have hA : DataW.TrodAll enc Try.prog W 0 (fun _ => true) true Try.f4.params.toList args.toList ds p := hA0
  rw [Try.params4] at hA hval
  obtain ⟨v0, vs0, d0, ds0, p0, q0, hargs, rfl, rfl, h0, r0⟩ := trodAll_cons hA
  obtain ⟨v1, vs1, d1, ds1, p1, q1, rfl, rfl, rfl, h1, r1⟩ := trodAll_cons r0
  obtain ⟨rfl, rfl, rfl⟩ := trodAll_nil r1
  obtain rfl : args = #[v0, v1] := by cases args; simp_all
  obtain ⟨rfl, rfl⟩ := trodVars_none hV
  have k0 := h0
  have k1 := h1
  have lt0 : ∀ x ∈ p0, x.block < W.heap.size := by obtain ⟨m, hm⟩ := k0; exact DataW.trod_lt m _ _ _ hm
  have lt1 : ∀ x ∈ p1, x.block < W.heap.size := by obtain ⟨m, hm⟩ := k1; exact DataW.trod_lt m _ _ _ hm
  obtain ⟨cs, rfl, hcsz⟩ := okWide_struct Try.underlying50 (hval 0 50 v0 rfl rfl)
  obtain ⟨s2, rfl⟩ := okWide_string Try.underlying9 (hval 1 9 v1 rfl rfl)
  obtain ⟨fuel, hf⟩ := h0
  obtain ⟨l⟩ := cs
  obtain ⟨b, A, c, rfl, hC, _, _⟩ := rd50 (⟨fuel, _, hf⟩ : Rd enc W 50 l)
  obtain ⟨f1, hf1⟩ := h1
  obtain ⟨s', es, ed, _⟩ := DataW.trod_string Try.underlying9 hf1
  have hs2 : s2.size ≤ 4611686018427387904 := by
    have e1 : s2 = s' := by simpa [Value.cells] using es
    subst e1
    have hd1 : d1 = .lit (.string s2.data.toList) := congrArg Prod.fst ed
    have h7 := sized_string (t := 9) hsz0 (j := 1) (by kernel_rfl) (by rw [hd1]; rfl)
    unfold reachBytes at h7
    rw [size_len]
    omega
  clear hA0 hval0 hsz0
  refine (bytes4 A c b s2 W hC hs2).mono fun e W' ⟨he, bel⟩ => ?_
  subst he
  exact ⟨_, rfl, _, _, _, [], _, [], hW', trodAll_mk1 (shut_bool Try.underlying4 _), (trodAll_cons_mk (Below.trod laidOut4 (by kernel_rfl) (of_decide_eq_true (by kernel_rfl)) k0 bel lt0) (trodAll_cons_mk (Below.trod laidOut4 (by kernel_rfl) (of_decide_eq_true (by kernel_rfl)) k1 bel lt1) trodAll_mk0)), rfl, bel.frame _, fun h => by cases h⟩
theorem named4 : Try.checked.prog.funcNamed Rows.batchBytesRow.func = some 4 := by kernel_rfl
theorem joined4 : joinedFacts Try.pinned.checked.prog 4 Try.f4 Rows.batchBytesSpec Rows.batchBytesRow = true := by kernel_rfl
theorem inst4 : Func.isInstance Try.pinned.checked.prog Try.f4 Rows.batchBytesRow.origin Rows.batchBytesRow.targs := of_decide_eq_true (by kernel_rfl)
theorem wrap4 : Func.isWrapper Try.pinned.checked.prog Try.f4 Rows.batchBytesRow.wrapper Rows.batchBytesRow.mainSum := by
  unfold Func.isWrapper
  first | (rw [if_pos (by decide +kernel)]; kernel_rfl) | (rw [if_neg (by decide +kernel)]; exact ⟨rfl, rfl⟩)
theorem batchBytes_over : Rows.batchBytesRow.holds Try.pinned (OpenSpec.ofChange Rows.batchBytesSpec) :=
  OpenClaim.holds_of_wide 4 Try.f4 rfl rfl rfl rfl rfl rfl rfl ⟨rfl, rfl, rfl, rfl, rfl⟩ rfl rfl rfl rfl rfl named4 Try.func4 joined4 inst4 wrap4
    (fun os started H enc _ => lifted4 os started H enc)
theorem batchBytes_holds : Rows.BatchBytesSaid := batchBytes_over
end Go.Proofs.Ytkcebmamohimoaa
