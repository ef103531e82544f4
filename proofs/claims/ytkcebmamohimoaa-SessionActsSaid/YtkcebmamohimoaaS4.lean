/- The program's sessions: a renewal. -/
import Derived.Test.YtkcebmamohimoaaS3
import Derived.Test.YtkcebmamohimoaaA4
import Derived.Test.YtkcebmamohimoaaWLast
import Derived.Laws.Bits64
namespace Go.Proofs.Ytkcebmamohimoaa
open Go.RowKit Go.Proofs.YtkcebmamohimoaaW.PrintWords Go.Proofs.YtkcebmamohimoaaW.PrintLast
set_option linter.unusedVariables false
set_option linter.unusedSimpArgs false
attribute [local go_sem] bl_refl bl_alloc bl_drew bl_drewN
def due (n : Int) : Int := if n + 20 ≤ 18446744073709551615 then n + 20 else 18446744073709551615
theorem xmax (b : Nat) (h : b < 18446744073709551616) : 18446744073709551615 ^^^ b = 18446744073709551615 - b := by
  have e := congrArg BitVec.toNat (BitVec.allOnes_xor (x := BitVec.ofNat 64 b))
  rw [BitVec.toNat_xor, BitVec.toNat_not, BitVec.toNat_allOnes, BitVec.toNat_ofNat, Nat.mod_eq_of_lt (by simpa using h)] at e
  simpa using e
theorem due_eq (n : Int) (h : 0 ≤ n ∧ n < 18446744073709551616) : IntKind.u64.wrap (n + if bits BinOp.xor IntKind.u64 (if IntKind.u64.signed = true then -1 else IntKind.u64.max) n < 20 then bits BinOp.xor IntKind.u64 (if IntKind.u64.signed = true then -1 else IntKind.u64.max) n else 20) = due n := by
  obtain ⟨k, rfl⟩ := Int.eq_ofNat_of_zero_le h.1
  rw [show (if IntKind.u64.signed = true then -1 else IntKind.u64.max) = ((18446744073709551615 : Nat) : Int) from by decide, bits_xor_u64_nat _ _ (by omega) (by omega), xmax _ (by omega), IntKind.wrap_u64]
  unfold due
  split <;> split <;> omega
def SS.renew (s : SS) (id : Int) : SS := { s with H := aPut (aDrop s.H id) ⟨due s.now, id⟩ }
set_option maxHeartbeats 8000000 in
set_option maxRecDepth 100000 in
theorem renewed84 (ok : Nat → Prop) (v : Value) (s : SS) (id : Int) (w : World) (h : IsSS ok w v s) (hn : 0 ≤ s.now ∧ s.now < 18446744073709551616) (hsm : s.H.length ≤ 1000) :
    Calls Try.prog 84 #[v, .int .i64 id] w fun e w' => ∃ v', e = .returned v' ∧ IsSS (fun k => (ok k ∧ k < w.heap.size) ∨ w.heap.size ≤ k) w' v' (s.renew id) ∧ Below w.heap.size w w' := by
  obtain ⟨A1, c1, A2, c2, rfl, h1, l1, h2, l2⟩ := h
  have HC1 := Lib.hid h1
  have HC2 := Lib.hid h2
  have HL1 := Lib.hid l1
  have HL2 := Lib.hid l2
  obtain ⟨W, hW, K1, K2, HW, hs⟩ := boxes2 w #[.int .i64 s.epoch, .slice A1 s.L.length c1, .slice A2 s.H.length c2, .int .i64 s.next, .int .u64 s.now] 26 #[.int .i64 0, .slice none 0 0, .slice none 0 0, .int .i64 0, .int .u64 0] 26
  have HCW := Lib.hid (Kd.C_below (HC2.out.self) HW)
  have r1 := blk_cells K1
  have z1 := blk_frz K1
  have r2 := blk_cells K2
  have z2 := blk_frz K2
  have HK1 := Lib.hid K1
  have HK2 := Lib.hid K2
  have HWW := Lib.hid hW
  have HWB := Lib.hid HW
  have HS := Lib.hid hs
  have HN := Lib.hid hn
  have HSM := Lib.hid hsm
  have n12 : w.heap.size ≠ w.heap.size + 1 := by omega
  clear hW HW K1 K2 hs h1 h2 l1 l2 hn hsm
  go_enter Try.func84, Try.ntmps84
  go_wp2_with fail
  rw [HWW.out]
  have B0 : Below W.heap.size W W := bl_refl W
  have hdue := due_eq s.now HN.out
  obtain ⟨m, hm⟩ : ∃ m, (if bits BinOp.xor IntKind.u64 (if IntKind.u64.signed = true then -1 else IntKind.u64.max) s.now < 20 then bits BinOp.xor IntKind.u64 (if IntKind.u64.signed = true then -1 else IntKind.u64.max) s.now else 20) = m := ⟨_, rfl⟩
  rw [hm] at hdue
  refine start_ (n := 16) (S := fun w' => w'.cell? ⟨w.heap.size, 2, none⟩ = some (.slice A2 s.H.length c2) ∧ w'.cell? ⟨w.heap.size, 4, none⟩ = some (.int .u64 s.now)) (ds := [15]) #[false, false, false, false, false, false, false, false, false, false, false, false, false, false, false, false] (by kernel_rfl) rfl rfl ⟨(r1 _ 2 (bl_drew (bl_refl W))), (r1 _ 4 (bl_drew (bl_refl W)))⟩ (fun hHeld => ?_)
  refine pure_ (i := 0) (N := some 5) (v := ?_) (a' := ?_) #[true, false, false, false, false, false, false, false, false, false, false, false, false, false, false, false] rfl rfl (by kernel_rfl) (fun _ _ _ h => h) (Or.inl ⟨by rfl, ?_⟩) ?_ ?_
  rotate_left
  · intro w'
    go_simp
    with_reducible rfl
  rotate_left
  · simp only [Act.put, List.setIfInBounds_toArray, List.set_cons_zero, List.set_cons_succ, i64_w, i32_w]
    rfl
  refine pure_ (i := 2) (N := some 7) (v := ?_) (a' := ?_) #[true, false, true, false, false, false, false, false, false, false, false, false, false, false, false, false] rfl rfl (by kernel_rfl) (fun _ _ _ h => h) (Or.inl ⟨by rfl, ?_⟩) ?_ ?_
  rotate_left
  · intro w'
    go_simp
    with_reducible rfl
  rotate_left
  · simp only [Act.put, List.setIfInBounds_toArray, List.set_cons_zero, List.set_cons_succ, i64_w, i32_w]
    rfl
  refine pure_ (i := 4) (N := some 9) (v := ?_) (a' := ?_) #[true, false, true, false, true, false, false, false, false, false, false, false, false, false, false, false] rfl rfl (by kernel_rfl) (fun _ _ _ h => h) (Or.inl ⟨by rfl, ?_⟩) ?_ ?_
  rotate_left
  · intro w'
    go_simp
    with_reducible rfl
  rotate_left
  · simp only [Act.put, List.setIfInBounds_toArray, List.set_cons_zero, List.set_cons_succ, i64_w, i32_w]
    rfl
  refine pure_ (i := 6) (N := some 11) (v := ?_) (a' := ?_) #[true, false, true, false, true, false, true, false, false, false, false, false, false, false, false, false] rfl rfl (by kernel_rfl) (fun _ _ _ h => h) (Or.inl ⟨by rfl, ?_⟩) ?_ ?_
  rotate_left
  · intro w'
    go_simp
    with_reducible rfl
  rotate_left
  · simp only [Act.put, List.setIfInBounds_toArray, List.set_cons_zero, List.set_cons_succ, i64_w, i32_w]
    rfl
  refine pure_ (i := 11) (N := some 16) (v := ?_) (a' := ?_) #[true, false, true, false, true, false, true, false, false, false, false, true, false, false, false, false] rfl rfl (by kernel_rfl) (fun _ _ _ h => h) (Or.inl ⟨by rfl, ?_⟩) ?_ ?_
  rotate_left
  · intro w'
    go_simp
    with_reducible rfl
  rotate_left
  · simp only [Act.put, List.setIfInBounds_toArray, List.set_cons_zero, List.set_cons_succ, i64_w, i32_w]
    rfl
  refine take_ (i := 1) (N := some 6) (v := ?_) (a' := ?_) #[true, true, true, false, true, false, true, false, false, false, false, true, false, false, false, false] rfl rfl (by kernel_rfl) (fun _ _ _ h => h) (Or.inl ⟨by rfl, ?_⟩) hHeld ?_ ?_
  rotate_left
  · rintro w' ⟨s0, s1⟩
    go_simp
    with_reducible rfl
  rotate_left
  · simp only [Act.put, List.setIfInBounds_toArray, List.set_cons_zero, List.set_cons_succ, i64_w, i32_w]
    rfl
  refine take_ (i := 5) (N := some 10) (v := ?_) (a' := ?_) #[true, true, true, false, true, true, true, false, false, false, false, true, false, false, false, false] rfl rfl (by kernel_rfl) (fun _ _ _ h => h) (Or.inl ⟨by rfl, ?_⟩) hHeld ?_ ?_
  rotate_left
  · rintro w' ⟨s0, s1⟩
    go_simp
    with_reducible rfl
  rotate_left
  · simp only [Act.put, List.setIfInBounds_toArray, List.set_cons_zero, List.set_cons_succ, i64_w, i32_w]
    rfl
  refine take_ (i := 7) (N := some 12) (v := ?_) (a' := ?_) #[true, true, true, false, true, true, true, true, false, false, false, true, false, false, false, false] rfl rfl (by kernel_rfl) (fun _ _ _ h => h) (Or.inl ⟨by rfl, ?_⟩) hHeld ?_ ?_
  rotate_left
  · rintro w' ⟨s0, s1⟩
    go_simp
    with_reducible rfl
  rotate_left
  · simp only [Act.put, List.setIfInBounds_toArray, List.set_cons_zero, List.set_cons_succ, i64_w, i32_w]
    rfl
  refine pure_ (i := 8) (N := some 13) (v := ?_) (a' := ?_) #[true, true, true, false, true, true, true, true, true, false, false, true, false, false, false, false] rfl rfl (by kernel_rfl) (fun _ _ _ h => h) (Or.inl ⟨by rfl, ?_⟩) ?_ ?_
  rotate_left
  · intro w'
    go_simp
    with_reducible rfl
  rotate_left
  · simp only [Act.put, List.setIfInBounds_toArray, List.set_cons_zero, List.set_cons_succ, i64_w, i32_w]
    rfl
  refine pure_ (i := 9) (N := some 14) (v := ?_) (a' := ?_) #[true, true, true, false, true, true, true, true, true, true, false, true, false, false, false, false] rfl rfl (by kernel_rfl) (fun _ _ _ h => h) (Or.inl ⟨by rfl, ?_⟩) ?_ ?_
  rotate_left
  · intro w'
    go_simp
    with_reducible rfl
  rotate_left
  · simp only [Act.put, List.setIfInBounds_toArray, List.set_cons_zero, List.set_cons_succ, i64_w, i32_w]
    rfl
  refine pure_ (i := 10) (N := some 15) (v := ?_) (a' := ?_) #[true, true, true, false, true, true, true, true, true, true, true, true, false, false, false, false] rfl rfl (by kernel_rfl) (fun _ _ _ h => h) (Or.inl ⟨by rfl, ?_⟩) ?_ ?_
  rotate_left
  · intro w'
    go_simp
    with_reducible rfl
  rotate_left
  · simp only [Act.put, List.setIfInBounds_toArray, List.set_cons_zero, List.set_cons_succ, i64_w, i32_w]
    rfl
  refine pure_ (i := 12) (N := some 17) (v := ?_) (a' := ?_) #[true, true, true, false, true, true, true, true, true, true, true, true, true, false, false, false] rfl rfl (by kernel_rfl) (fun _ _ _ h => h) (Or.inl ⟨by rfl, ?_⟩) ?_ ?_
  rotate_left
  · intro w'
    go_simp
    with_reducible rfl
  rotate_left
  · simp only [Act.put, List.setIfInBounds_toArray, List.set_cons_zero, List.set_cons_succ, i64_w, i32_w]
    rfl
  refine one_ (i := 3) (N := some 8) #[true, true, true, true, true, true, true, true, true, true, true, true, true, false, false, false] rfl rfl (by kernel_rfl) (by decide) (fun K hK => ?_)
  refine goes_ Try.func112 (by kernel_rfl) rfl #[.slice A2 s.H.length c2, .int .i64 id] (by rfl) rfl rfl (by simp only [List.map_toArray, List.map_cons, List.map_nil]; rfl) ?_
  with_reducible refine (drop112 A2 c2 s.H id _ (Kd.C_below HCW.out (bl_drew (bl_refl W))) HL2.out (by have := HSM.out; omega)).mono ?_
  rintro e w1 ⟨v1, rfl, hR1, hb⟩
  refine ⟨_, rfl, ?_⟩
  obtain ⟨B4, d4, rfl⟩ := Kd.R_slice hR1
  have B1 : Below W.heap.size W w1 := bl_trans (bl_drew (bl_refl W)) hb
  have hrd := Kd.R_reads' hR1
  have HR1 := Lib.hid hrd
  clear hb hR1 hrd
  refine hK.out _ _ ⟨(r1 _ 2 B1), (r1 _ 4 B1)⟩ (fun hHeld => ?_)
  clear hK K
  refine norm_ (a' := ?_) ?_ ?_
  rotate_left
  · show Act.put _ (some 8) _ = _
    simp only [Act.put, List.setIfInBounds_toArray, List.set_cons_zero, List.set_cons_succ, i64_w, i32_w]
    rfl
  refine one_ (i := 13) (N := some 18) #[true, true, true, true, true, true, true, true, true, true, true, true, true, true, false, false] rfl rfl (by kernel_rfl) (by decide) (fun K hK => ?_)
  refine goes_ Try.func150 (by kernel_rfl) rfl #[.slice B4 (aDrop s.H id).length d4, .agg #[.int .u64 (due s.now), .int .i64 id]] (by rfl) rfl rfl (by simp only [List.map_toArray, List.map_cons, List.map_nil]; rfl) ?_
  with_reducible refine (put150 B4 d4 (aDrop s.H id) ⟨due s.now, id⟩ w1 HR1.out.2.2 HR1.out.2.1 (by have := HSM.out; have := aDrop_length s.H id; omega)).mono ?_
  rintro e w2 ⟨v2, rfl, hR2, hb⟩
  refine ⟨_, rfl, ?_⟩
  obtain ⟨B5, d5, rfl⟩ := Kd.R_slice hR2
  have B2 : Below W.heap.size W w2 := bl_trans B1 hb
  have HR2 := Lib.hid hR2
  clear hb hR2
  refine hK.out _ _ ⟨(r1 _ 2 B2), (r1 _ 4 B2)⟩ (fun hHeld => ?_)
  clear hK K
  refine norm_ (a' := ?_) ?_ ?_
  rotate_left
  · show Act.put _ (some 18) _ = _
    simp only [Act.put, List.setIfInBounds_toArray, List.set_cons_zero, List.set_cons_succ, i64_w, i32_w]
    rfl
  refine pure_ (i := 14) (N := some 19) (v := ?_) (a' := ?_) #[true, true, true, true, true, true, true, true, true, true, true, true, true, true, true, false] rfl rfl (by kernel_rfl) (fun _ _ _ h => h) (Or.inl ⟨by rfl, ?_⟩) ?_ ?_
  rotate_left
  · intro w'
    go_simp
    with_reducible rfl
  rotate_left
  · simp only [Act.put, List.setIfInBounds_toArray, List.set_cons_zero, List.set_cons_succ, i64_w, i32_w]
    rfl
  refine last_ (i := 15) (N := none) #[true, true, true, true, true, true, true, true, true, true, true, true, true, true, true, true] rfl rfl (by kernel_rfl) (by decide) (fun K hK => ?_)
  refine skip_ (w1 := ?_) (by rfl) rfl ?_ ?_
  rotate_left
  · go_simp
    rfl
  refine hK.out _ _ ?_
  clear hK K
  refine done_ (by kernel_rfl) ?_
  clear hm hdue
  go_wp2
  have hs1 := HS.out
  have HB2 : Below w.heap.size w w2 := bl_trans HWB.out B2
  refine bodyPost_ret (v := .agg #[.int .i64 s.epoch, .slice A1 s.L.length c1, .slice B5 (aPut (aDrop s.H id) ⟨due s.now, id⟩).length d5, .int .i64 s.next, .int .u64 s.now]) (by simp [results, Try.results84, go_sem, r2, z2, B2]) rfl ⟨_, rfl, ⟨A1, c1, B5, d5, rfl, ?_, HL1.out, ?_, (Kd.R_reads' HR2.out).2.1⟩, ?_⟩
  · have hf := HC1.out.cut.belowB HB2 (fun k hk _ => hk.2)
    refine Ft.mono (ok := fun k => ok k ∧ k < w.heap.size) ?_ (fun k hk _ => .inl hk)
    repeat refine Ft.set ?_ (fun h => by have := h.2; omega)
    exact hf
  · refine (R_ft (e := 175) (base := w1.heap.size) (ok := fun _ => True) (m := (aPut (aDrop s.H id) ⟨due s.now, id⟩).length) (c := d5) ?_).mono (fun k hk _ => .inr (by have := B1.size; omega))
    have hs2 := B1.size
    repeat refine R_farB ?_ (by omega) _ _
    exact HR2.out
  · repeat refine bl_set ?_ (by omega)
    exact HB2
end Go.Proofs.Ytkcebmamohimoaa
