/- Sessions: all but one, the program's; Close, the program's and the reference's. -/
import Derived.Test.YtkcebmamohimoaaS14
import Derived.Test.YtkcebmamohimoaaS11
namespace Go.Proofs.Ytkcebmamohimoaa
open Go.RowKit Go.Proofs.YtkcebmamohimoaaW.PrintWords
set_option linter.unusedVariables false
set_option linter.unusedSimpArgs false
attribute [local go_sem] bl_refl bl_alloc bl_drew bl_drewN
set_option maxHeartbeats 1000000 in
set_option maxRecDepth 100000 in
theorem pred161 (B : Nat) (id : Int) (w : World) (hB : B < w.heap.size) (hc : w.cell? ⟨B, 0, none⟩ = some (.int .i64 id)) :
    PredB 161 #[.pointer (some ⟨B, 0, none⟩)] Ses.cells (fun x => x.id == id) w := by
  intro x W hb
  have hc' := (hb.cell (p := ⟨B, 0, none⟩) hB).trans hc
  have hB' : B < W.heap.size := Nat.lt_of_lt_of_le hB hb.size
  clear hb hc hB
  show Calls Try.prog 161 #[.agg #[.int .i64 x.id, .int .i64 x.seq, .bool x.busy, .string x.last, .int .i64 x.txn, .int .i64 x.conn], .pointer (some ⟨B, 0, none⟩)] W _
  go_enter Try.func161, Try.ntmps161
  go_wp2
  go_ret
  exact ⟨rfl, (Below.refl _ _).alloc (Nat.le_refl _) _⟩
theorem enters161 : ∀ args w, (callFunc 161 args).run Try.prog w = .ok (.enter 161 args) w := enters_of Try.func161 (by kernel_rfl) rfl
set_option maxHeartbeats 8000000 in
set_option maxRecDepth 100000 in
theorem without111 (ok : Nat → Prop) (v : Value) (s : SS) (id : Int) (w : World) (h : IsSS ok w v s) (hsm : s.L.length ≤ 1000) :
    Calls Try.prog 111 #[v, .int .i64 id] w fun e w' => ∃ v', e = .returned v' ∧ IsSS (fun k => (ok k ∧ k < w.heap.size) ∨ w.heap.size ≤ k) w' v' (s.but id) ∧ Below w.heap.size w w' := by
  obtain ⟨A1, c1, A2, c2, rfl, h1, l1, h2, l2⟩ := h
  have HC2 := Lib.hid h2
  have HL1 := Lib.hid l1
  have HL2 := Lib.hid l2
  obtain ⟨W, hW, K1, K2, K3, HW, hs⟩ := boxes3 w #[.int .i64 s.epoch, .slice A1 s.L.length c1, .slice A2 s.H.length c2, .int .i64 s.next, .int .u64 s.now] 26 #[.int .i64 id] 3 #[.int .i64 0, .slice none 0 0, .slice none 0 0, .int .i64 0, .int .u64 0] 26
  have HC := Lib.hid (Kd.C_below h1.self HW)
  have HP := Lib.hid (pred161 (w.heap.size + 1) id W (by omega) ((blk_cell K2 0).trans rfl))
  have r1 := blk_cells K1
  have z1 := blk_frz K1
  have r3 := blk_cells K3
  have z3 := blk_frz K3
  have HWW := Lib.hid hW
  have HWB := Lib.hid HW
  have HS := Lib.hid hs
  have HSM := Lib.hid hsm
  have n12 : w.heap.size ≠ w.heap.size + 1 := by omega
  have n13 : w.heap.size ≠ w.heap.size + 2 := by omega
  have n31 : w.heap.size + 2 ≠ w.heap.size := by omega
  have B0 : Below W.heap.size W W := bl_refl W
  clear h1 h2 l1 l2 hW HW K1 K2 K3 hs hsm
  go_enter Try.func111, Try.ntmps111
  go_wp2_with fail
  rw [HWW.out]
  refine (clone108 A1 c1 s.L W HC.out HL1.out (by have := HSM.out; omega)).mono ?_
  rintro e w1 ⟨v1, rfl, hR1, hb⟩
  obtain ⟨B4, d4, rfl⟩ := Kd.R_slice hR1
  have HR1 := Lib.hid hR1
  have HB1 := Lib.hid hb
  clear hb hR1
  go_wp2_with fail
  refine (delete160 W w1 HB1.out B4 d4 s.L 161 #[.pointer (some ⟨w.heap.size + 1, 0, none⟩)] (fun x => x.id == id) enters161 HR1.out HP.out).mono ?_
  rintro e w2 ⟨v2, rfl, hR2, hb⟩
  have B2 : Below W.heap.size W w2 := hb
  rw [show s.L.filter (fun x => !(x.id == id)) = (s.but id).L from rfl] at hR2
  obtain ⟨B5, d5, rfl⟩ := Kd.R_slice hR2
  have HR2 := Lib.hid hR2
  obtain ⟨M, hM⟩ : ∃ M, (s.but id).L = M := ⟨_, rfl⟩
  rw [hM] at HR2 ⊢
  have HMM := Lib.hid hM
  clear hb hR2 B0 hM
  go_wp2
  have hs1 := HS.out
  have HB3 : Below w.heap.size w w2 := bl_trans HWB.out B2
  refine bodyPost_ret (v := .agg #[.int .i64 s.epoch, .slice B5 M.length d5, .slice A2 s.H.length c2, .int .i64 s.next, .int .u64 s.now]) (by simp [results, Try.results111, go_sem, r3, z3, B2, World.cell?_setCell_far, n13, n31]) rfl ⟨_, rfl, ⟨B5, d5, A2, c2, by rw [HMM.out]; rfl, ?_, ?_, ?_, HL2.out⟩, ?_⟩
  · rw [HMM.out]
    refine (R_ft (e := 78) (base := W.heap.size) (ok := fun _ => True) (m := M.length) (c := d5) ?_).mono (fun k hk _ => .inr (by omega))
    repeat refine R_farB ?_ (by omega) _ _
    exact HR2.out
  · rw [HMM.out]; exact (Kd.R_reads' HR2.out).2.1
  · have hf : Ft (fun k => ok k ∧ k < w.heap.size) w2 (fun W => Kd.C kAlm W A2 s.H.length s.H) := HC2.out.cut.belowB HB3 (fun k hk _ => hk.2)
    refine Ft.mono (ok := fun k => ok k ∧ k < w.heap.size) ?_ (fun k hk _ => .inl hk)
    repeat refine Ft.set ?_ (fun h => by have := h.2; omega)
    exact hf
  · repeat refine bl_set ?_ (by omega)
    exact HB3
def SS.closeF (s : SS) (id : Int) : SS × Int := if sIdx s id < 0 then (s, 7) else ({ s.but id with H := aDrop s.H id }, 0)
set_option maxHeartbeats 8000000 in
set_option maxRecDepth 100000 in
theorem close44 (ok : Nat → Prop) (v : Value) (s : SS) (id : Int) (w : World) (h : IsSS ok w v s) (hsm : s.L.length ≤ 1000) (hsm2 : s.H.length ≤ 1000) :
    Calls Try.prog 44 #[v, .int .i64 id] w fun e w' => ∃ v', e = .returned (.tuple #[v', .int .i64 (s.closeF id).2]) ∧ IsSS (fun k => (ok k ∧ k < w.heap.size) ∨ w.heap.size ≤ k) w' v' (s.closeF id).1 ∧ Below w.heap.size w w' := by
  have HS0 := Lib.hid (h.mono (fun k hk hl => ⟨hk, hl⟩) : IsSS (fun k => ok k ∧ k < w.heap.size) w v s)
  obtain ⟨A1, c1, A2, c2, rfl, h1, l1, h2, l2⟩ := h
  have HA := Lib.hid (at109 s.epoch A1 c1 s.L (.slice A2 s.H.length c2) rfl s.next s.now id)
  obtain ⟨W, hW, K1, K2, HW, hs⟩ := boxes2 w #[.int .i64 s.epoch, .slice A1 s.L.length c1, .slice A2 s.H.length c2, .int .i64 s.next, .int .u64 s.now] 26 #[.int .i64 0, .slice none 0 0, .slice none 0 0, .int .i64 0, .int .u64 0] 26
  have HC := Lib.hid (Kd.C_below h1.self HW)
  have r1 := blk_cells K1
  have z1 := blk_frz K1
  have r2 := blk_cells K2
  have z2 := blk_frz K2
  have HK1 := Lib.hid K1
  have HK2 := Lib.hid K2
  have HWW := Lib.hid hW
  have HWB := Lib.hid HW
  have HS := Lib.hid hs
  have HS1 := Lib.hid (HS0.out.below HW)
  have HSM2 := Lib.hid hsm2
  have HWO := Lib.hid (fun okk v' W' h' => without111 okk v' s id W' h' hsm)
  have n12 : w.heap.size ≠ w.heap.size + 1 := by omega
  have n21 : w.heap.size + 1 ≠ w.heap.size := by omega
  have B0 : Below W.heap.size W W := bl_refl W
  clear h1 h2 l1 l2 hW HW K1 K2 hs hsm hsm2
  by_cases hi : sIdx s id < 0
  · rw [show s.closeF id = (s, 7) from by unfold SS.closeF; rw [if_pos hi]]
    unfold sIdx at hi
    generalize fidx (fun x : Ses => x.id == id) s.L = i at HA hi
    go_enter Try.func44, Try.ntmps44
    go_wp2_with fail
    rw [HWW.out]
    refine (HA.out W HC.out).mono ?_
    rintro e w1 ⟨rfl, hb⟩
    have B1 : Below W.heap.size W w1 := hb
    clear hb
    go_wp2
    have hs1 := HS.out
    refine bodyPost_ret (v := .tuple #[.agg #[.int .i64 s.epoch, .slice A1 s.L.length c1, .slice A2 s.H.length c2, .int .i64 s.next, .int .u64 s.now], .int .i64 7]) (by simp [results, Try.results44, go_sem, r2, z2, B1]) rfl ⟨_, rfl, ?_, ?_⟩
    · refine IsSS.mono (ok := fun k => ok k ∧ k < w.heap.size) ?_ (fun k hk _ => .inl hk)
      repeat refine IsSS.set ?_ (fun h => by have := h.2; omega)
      exact HS1.out.below B1
    · repeat refine bl_set ?_ (by omega)
      exact bl_trans HWB.out B1
  · rw [show s.closeF id = ({ s.but id with H := aDrop s.H id }, 0) from by unfold SS.closeF; rw [if_neg hi]]
    unfold sIdx at hi
    generalize fidx (fun x : Ses => x.id == id) s.L = i at HA hi
    have hsH : (s.but id).H = s.H := rfl
    obtain ⟨s1, hs1⟩ : ∃ s1, s.but id = s1 := ⟨_, rfl⟩
    rw [hs1] at HWO hsH ⊢
    rw [show ({ s1 with H := aDrop s.H id } : SS) = { s1 with H := aDrop s1.H id } from by rw [hsH]]
    have HM2 := Lib.hid (show s1.H.length ≤ 1000 by rw [hsH]; exact HSM2.out)
    clear hs1 hsH
    go_enter Try.func44, Try.ntmps44
    go_wp2_with fail
    rw [HWW.out]
    refine (HA.out W HC.out).mono ?_
    rintro e w1 ⟨rfl, hb⟩
    have B1 : Below W.heap.size W w1 := hb
    clear hb
    go_wp2_with fail
    refine (HWO.out _ _ w1 (HS1.out.below B1)).mono ?_
    rintro e w3 ⟨v3, rfl, hS3, hb3⟩
    have B3 : Below W.heap.size W w3 := bl_trans B1 hb3
    have hs3 := B1.size
    have HS3 := Lib.hid (hS3.mono (fun k hk _ => hk.elim (fun h => .inl h.1) (fun h => .inr (by omega))) : IsSS (fun k => (ok k ∧ k < w.heap.size) ∨ W.heap.size ≤ k) w3 v3 s1)
    clear hS3
    obtain ⟨A5, c5, A6, c6, rfl, g1, m1, g2, m2⟩ := HS3.out
    have G1 := Lib.hid g1
    have G2 := Lib.hid g2
    have M1 := Lib.hid m1
    have M2 := Lib.hid m2
    clear hb3 hs3 B1 g1 g2 m1 m2
    go_wp2_with fail
    have hs1 := HS.out
    refine (drop112 A6 c6 s1.H id _ (Ft.self (ok := fun k => (ok k ∧ k < w.heap.size) ∨ W.heap.size ≤ k) (P := fun W => Kd.C kAlm W A6 s1.H.length s1.H) ?_) M2.out (by have := HM2.out; omega)).mono ?_
    · repeat refine Ft.set ?_ (fun h => by rcases h with h | h <;> omega)
      exact G2.out
    rintro e w5 ⟨v5, rfl, hR5, hb5⟩
    have hs5 := B3.size
    have K5 : w5.heap[w.heap.size]? = some (.cells #[.int .i64 s1.epoch, .slice A5 s1.L.length c5, .slice A6 s1.H.length c6, .int .i64 s1.next, .int .u64 s1.now] 26 (0, 0)) := blk_below (store26 (blk_below HK1.out B3) _ _ _ _ _) hb5
    have K6 : w5.heap[w.heap.size + 1]? = some (.cells #[.int .i64 0, .slice none 0 0, .slice none 0 0, .int .i64 0, .int .u64 0] 26 (0, 0)) := by
      refine blk_below ?_ hb5
      repeat refine blk_far (p := ⟨w.heap.size, _, none⟩) ?_ (by show w.heap.size + 1 ≠ w.heap.size; omega) _
      exact blk_below HK2.out B3
    have HB5 : Below w.heap.size w w5 := by
      refine Below.trans ?_ (hb5.mono (by simp; omega))
      repeat refine bl_set ?_ (by omega)
      exact bl_trans HWB.out B3
    have G15 : Ft (fun k => (ok k ∧ k < w.heap.size) ∨ W.heap.size ≤ k) w5 (fun W => Kd.C kSes W A5 s1.L.length s1.L) := by
      refine Ft.below ?_ hb5
      repeat refine Ft.set ?_ (fun h => by rcases h with h | h <;> omega)
      exact G1.out
    obtain ⟨A7, c7, rfl⟩ := Kd.R_slice hR5
    have HR5 := Lib.hid (Kd.R_lower hR5 (show W.heap.size ≤ _ by simp; omega))
    have HG15 := Lib.hid G15
    have HB5' := Lib.hid HB5
    have r5 := blk_cells K5
    have z5 := blk_frz K5
    have r6 := blk_cells K6
    have z6 := blk_frz K6
    have B5 := bl_refl w5
    clear hR5 hb5 hs5 hs1 K5 K6 HB5 G15 r1 z1 r2 z2 B0 B3
    go_wp2
    have hs1 := HS.out
    refine bodyPost_ret (v := .tuple #[.agg #[.int .i64 s1.epoch, .slice A5 s1.L.length c5, .slice A7 (aDrop s1.H id).length c7, .int .i64 s1.next, .int .u64 s1.now], .int .i64 0]) (by simp [results, Try.results44, go_sem, r6, z6, B5, World.cell?_setCell_far, n12, n21]) rfl ⟨_, rfl, ⟨A5, c5, A7, c7, rfl, ?_, M1.out, ?_, (Kd.R_reads' HR5.out).2.1⟩, ?_⟩
    · refine Ft.mono (ok := fun k => (ok k ∧ k < w.heap.size) ∨ W.heap.size ≤ k) ?_ (fun k hk _ => hk.imp_right (fun h => by omega))
      repeat refine Ft.set ?_ (fun h => by rcases h with h | h <;> omega)
      exact HG15.out
    · refine (R_ft (e := 175) (base := W.heap.size) (ok := fun _ => True) (m := (aDrop s1.H id).length) (c := c7) ?_).mono (fun k hk _ => .inr (by omega))
      repeat refine R_farB ?_ (by omega) _ _
      exact HR5.out
    · repeat refine bl_set ?_ (by omega)
      exact HB5'.out
set_option maxHeartbeats 8000000 in
set_option maxRecDepth 100000 in
theorem close45 (ok : Nat → Prop) (v : Value) (s : SS) (id : Int) (w : World) (h : IsSS ok w v s) (hsm : s.L.length ≤ 1000) (hsm2 : s.H.length ≤ 1000) :
    Calls Try.prog 45 #[v, .int .i64 id] w fun e w' => ∃ v', e = .returned (.tuple #[v', .int .i64 (s.closeF id).2]) ∧ IsSS (fun k => (ok k ∧ k < w.heap.size) ∨ w.heap.size ≤ k) w' v' (s.closeF id).1 ∧ Below w.heap.size w w' := by
  have HS0 := Lib.hid (h.mono (fun k hk hl => ⟨hk, hl⟩) : IsSS (fun k => ok k ∧ k < w.heap.size) w v s)
  obtain ⟨A1, c1, A2, c2, rfl, h1, l1, h2, l2⟩ := h
  have HA := Lib.hid (at110 s.epoch A1 c1 s.L (.slice A2 s.H.length c2) rfl s.next s.now id)
  obtain ⟨W, hW, K1, K2, HW, hs⟩ := boxes2 w #[.int .i64 s.epoch, .slice A1 s.L.length c1, .slice A2 s.H.length c2, .int .i64 s.next, .int .u64 s.now] 26 #[.int .i64 0, .slice none 0 0, .slice none 0 0, .int .i64 0, .int .u64 0] 26
  have HC := Lib.hid (Kd.C_below h1.self HW)
  have r1 := blk_cells K1
  have z1 := blk_frz K1
  have r2 := blk_cells K2
  have z2 := blk_frz K2
  have HK1 := Lib.hid K1
  have HK2 := Lib.hid K2
  have HWW := Lib.hid hW
  have HWB := Lib.hid HW
  have HS := Lib.hid hs
  have HS1 := Lib.hid (HS0.out.below HW)
  have HSM2 := Lib.hid hsm2
  have HWO := Lib.hid (fun okk v' W' h' => less113 okk v' s id W' h' hsm)
  have n12 : w.heap.size ≠ w.heap.size + 1 := by omega
  have n21 : w.heap.size + 1 ≠ w.heap.size := by omega
  have B0 : Below W.heap.size W W := bl_refl W
  clear h1 h2 l1 l2 hW HW K1 K2 hs hsm hsm2
  by_cases hi : sIdx s id < 0
  · rw [show s.closeF id = (s, 7) from by unfold SS.closeF; rw [if_pos hi]]
    unfold sIdx at hi
    generalize fidx (fun x : Ses => x.id == id) s.L = i at HA hi
    go_enter Try.func45, Try.ntmps45
    go_wp2_with fail
    rw [HWW.out]
    refine (HA.out W HC.out).mono ?_
    rintro e w1 ⟨rfl, hb⟩
    have B1 : Below W.heap.size W w1 := hb
    clear hb
    go_wp2
    have hs1 := HS.out
    refine bodyPost_ret (v := .tuple #[.agg #[.int .i64 s.epoch, .slice A1 s.L.length c1, .slice A2 s.H.length c2, .int .i64 s.next, .int .u64 s.now], .int .i64 7]) (by simp [results, Try.results45, go_sem, r2, z2, B1]) rfl ⟨_, rfl, ?_, ?_⟩
    · refine IsSS.mono (ok := fun k => ok k ∧ k < w.heap.size) ?_ (fun k hk _ => .inl hk)
      repeat refine IsSS.set ?_ (fun h => by have := h.2; omega)
      exact HS1.out.below B1
    · repeat refine bl_set ?_ (by omega)
      exact bl_trans HWB.out B1
  · rw [show s.closeF id = ({ s.but id with H := aDrop s.H id }, 0) from by unfold SS.closeF; rw [if_neg hi]]
    unfold sIdx at hi
    generalize fidx (fun x : Ses => x.id == id) s.L = i at HA hi
    have hsH : (s.but id).H = s.H := rfl
    obtain ⟨s1, hs1⟩ : ∃ s1, s.but id = s1 := ⟨_, rfl⟩
    rw [hs1] at HWO hsH ⊢
    rw [show ({ s1 with H := aDrop s.H id } : SS) = { s1 with H := aDrop s1.H id } from by rw [hsH]]
    have HM2 := Lib.hid (show s1.H.length ≤ 1000 by rw [hsH]; exact HSM2.out)
    clear hs1 hsH
    go_enter Try.func45, Try.ntmps45
    go_wp2_with fail
    rw [HWW.out]
    refine (HA.out W HC.out).mono ?_
    rintro e w1 ⟨rfl, hb⟩
    have B1 : Below W.heap.size W w1 := hb
    clear hb
    go_wp2_with fail
    refine (HWO.out _ _ w1 (HS1.out.below B1)).mono ?_
    rintro e w3 ⟨v3, rfl, hS3, hb3⟩
    have B3 : Below W.heap.size W w3 := bl_trans B1 hb3
    have hs3 := B1.size
    have HS3 := Lib.hid (hS3.mono (fun k hk _ => hk.elim (fun h => .inl h.1) (fun h => .inr (by omega))) : IsSS (fun k => (ok k ∧ k < w.heap.size) ∨ W.heap.size ≤ k) w3 v3 s1)
    clear hS3
    obtain ⟨A5, c5, A6, c6, rfl, g1, m1, g2, m2⟩ := HS3.out
    have G1 := Lib.hid g1
    have G2 := Lib.hid g2
    have M1 := Lib.hid m1
    have M2 := Lib.hid m2
    clear hb3 hs3 B1 g1 g2 m1 m2
    go_wp2_with fail
    have hs1 := HS.out
    refine (drop114 A6 c6 s1.H id _ (Ft.self (ok := fun k => (ok k ∧ k < w.heap.size) ∨ W.heap.size ≤ k) (P := fun W => Kd.C kAlm W A6 s1.H.length s1.H) ?_) M2.out (by have := HM2.out; omega)).mono ?_
    · repeat refine Ft.set ?_ (fun h => by rcases h with h | h <;> omega)
      exact G2.out
    rintro e w5 ⟨v5, rfl, hR5, hb5⟩
    have hs5 := B3.size
    have K5 : w5.heap[w.heap.size]? = some (.cells #[.int .i64 s1.epoch, .slice A5 s1.L.length c5, .slice A6 s1.H.length c6, .int .i64 s1.next, .int .u64 s1.now] 26 (0, 0)) := blk_below (store26 (blk_below HK1.out B3) _ _ _ _ _) hb5
    have K6 : w5.heap[w.heap.size + 1]? = some (.cells #[.int .i64 0, .slice none 0 0, .slice none 0 0, .int .i64 0, .int .u64 0] 26 (0, 0)) := by
      refine blk_below ?_ hb5
      repeat refine blk_far (p := ⟨w.heap.size, _, none⟩) ?_ (by show w.heap.size + 1 ≠ w.heap.size; omega) _
      exact blk_below HK2.out B3
    have HB5 : Below w.heap.size w w5 := by
      refine Below.trans ?_ (hb5.mono (by simp; omega))
      repeat refine bl_set ?_ (by omega)
      exact bl_trans HWB.out B3
    have G15 : Ft (fun k => (ok k ∧ k < w.heap.size) ∨ W.heap.size ≤ k) w5 (fun W => Kd.C kSes W A5 s1.L.length s1.L) := by
      refine Ft.below ?_ hb5
      repeat refine Ft.set ?_ (fun h => by rcases h with h | h <;> omega)
      exact G1.out
    obtain ⟨A7, c7, rfl⟩ := Kd.R_slice hR5
    have HR5 := Lib.hid (Kd.R_lower hR5 (show W.heap.size ≤ _ by simp; omega))
    have HG15 := Lib.hid G15
    have HB5' := Lib.hid HB5
    have r5 := blk_cells K5
    have z5 := blk_frz K5
    have r6 := blk_cells K6
    have z6 := blk_frz K6
    have B5 := bl_refl w5
    clear hR5 hb5 hs5 hs1 K5 K6 HB5 G15 r1 z1 r2 z2 B0 B3
    go_wp2
    have hs1 := HS.out
    refine bodyPost_ret (v := .tuple #[.agg #[.int .i64 s1.epoch, .slice A5 s1.L.length c5, .slice A7 (aDrop s1.H id).length c7, .int .i64 s1.next, .int .u64 s1.now], .int .i64 0]) (by simp [results, Try.results45, go_sem, r6, z6, B5, World.cell?_setCell_far, n12, n21]) rfl ⟨_, rfl, ⟨A5, c5, A7, c7, rfl, ?_, M1.out, ?_, (Kd.R_reads' HR5.out).2.1⟩, ?_⟩
    · refine Ft.mono (ok := fun k => (ok k ∧ k < w.heap.size) ∨ W.heap.size ≤ k) ?_ (fun k hk _ => hk.imp_right (fun h => by omega))
      repeat refine Ft.set ?_ (fun h => by rcases h with h | h <;> omega)
      exact HG15.out
    · refine (R_ft (e := 175) (base := W.heap.size) (ok := fun _ => True) (m := (aDrop s1.H id).length) (c := c7) ?_).mono (fun k hk _ => .inr (by omega))
      repeat refine R_farB ?_ (by omega) _ _
      exact HR5.out
    · repeat refine bl_set ?_ (by omega)
      exact HB5'.out
end Go.Proofs.Ytkcebmamohimoaa
