/- Sessions: Take, the program's and the reference's. -/
import Derived.Test.YtkcebmamohimoaaS6
namespace Go.Proofs.Ytkcebmamohimoaa
open Go.RowKit Go.Proofs.YtkcebmamohimoaaW.PrintWords
set_option linter.unusedVariables false
set_option linter.unusedSimpArgs false
attribute [local go_sem] bl_refl bl_alloc bl_drew bl_drewN
def SS.takeF (s : SS) (id conn : Int) : SS × Int := if sIdx s id < 0 then (s, 7) else if 1073741824 ≤ s.L[(sIdx s id).toNat]!.seq then (s, 4) else ((s.upd (sIdx s id).toNat (tk conn)).renew id, 0)
set_option maxHeartbeats 8000000 in
set_option maxRecDepth 100000 in
theorem take22 (ok : Nat → Prop) (v : Value) (s : SS) (id conn : Int) (w : World) (h : IsSS ok w v s) (hn : 0 ≤ s.now ∧ s.now < 18446744073709551616) (hsm : s.L.length ≤ 1000) (hsm2 : s.H.length ≤ 1000) :
    Calls Try.prog 22 #[v, .int .i64 id, .int .i64 conn] w fun e w' => ∃ v', e = .returned (.tuple #[v', .int .i64 (s.takeF id conn).2]) ∧ IsSS (fun k => (ok k ∧ k < w.heap.size) ∨ w.heap.size ≤ k) w' v' (s.takeF id conn).1 ∧ Below w.heap.size w w' := by
  have HS0 := Lib.hid (h.mono (fun k hk hl => ⟨hk, hl⟩) : IsSS (fun k => ok k ∧ k < w.heap.size) w v s)
  obtain ⟨A1, c1, A2, c2, rfl, h1, l1, h2, l2⟩ := h
  have hlt := fidx_lt (fun x : Ses => x.id == id) s.L
  have hf := find49 s.epoch A1 c1 s.L (.slice A2 s.H.length c2) rfl s.next s.now id
  have HSM := Lib.hid hsm
  obtain ⟨W, hW, K1, K2, HW, hs⟩ := boxes2 w #[.int .i64 s.epoch, .slice A1 s.L.length c1, .slice A2 s.H.length c2, .int .i64 s.next, .int .u64 s.now] 26 #[.int .i64 0, .slice none 0 0, .slice none 0 0, .int .i64 0, .int .u64 0] 26
  have HC := Lib.hid (Kd.C_below h1.self HW)
  have r1 := blk_cells K1
  have z1 := blk_frz K1
  have r2 := blk_cells K2
  have z2 := blk_frz K2
  have HWW := Lib.hid hW
  have HWB := Lib.hid HW
  have HS := Lib.hid hs
  have HS1 := Lib.hid (HS0.out.below HW)
  have n12 : w.heap.size ≠ w.heap.size + 1 := by omega
  have B0 : Below W.heap.size W W := bl_refl W
  clear h1 h2 l1 l2 hW HW K1 K2 hs hsm
  by_cases hi : sIdx s id < 0
  · rw [show s.takeF id conn = (s, 7) from by unfold SS.takeF; rw [if_pos hi]]
    have HF := Lib.hid (hf W HC.out default false (.inl ⟨hi, rfl, rfl⟩))
    clear hf hi hlt hn hsm2
    go_enter Try.func22, Try.ntmps22
    go_wp2_with fail
    rw [HWW.out]
    refine HF.out.mono ?_
    rintro e w1 ⟨rfl, hb⟩
    have B1 : Below W.heap.size W w1 := hb
    have hs1 := HS.out
    have hs2 := B1.size
    have nx1 : w.heap.size ≠ w1.heap.size := by omega
    have nx2 : w.heap.size + 1 ≠ w1.heap.size := by omega
    have nx1' : w1.heap.size ≠ w.heap.size := by omega
    have nx2' : w1.heap.size ≠ w.heap.size + 1 := by omega
    clear hb hs1 hs2
    show _
    unfold Ses.val
    go_wp2
    have hs1 := HS.out
    have hs2 := B1.size
    refine bodyPost_ret (v := .tuple #[.agg #[.int .i64 s.epoch, .slice A1 s.L.length c1, .slice A2 s.H.length c2, .int .i64 s.next, .int .u64 s.now], .int .i64 7]) (by simp [results, Try.results22, go_sem, r2, z2, B1, fun o => bl_alloc o B1, World.cell?_setCell_far, nx1, nx2, nx1', nx2']) rfl ⟨_, rfl, ?_, ?_⟩
    · refine IsSS.mono (ok := fun k => ok k ∧ k < w.heap.size) ?_ (fun k hk _ => .inl hk)
      repeat refine IsSS.set ?_ (fun h => by have := h.2; omega)
      refine IsSS.below ?_ (bl_alloc _ (bl_refl _))
      exact HS1.out.below B1
    · repeat refine bl_set ?_ (by omega)
      exact bl_trans HWB.out (bl_alloc _ B1)
  · obtain ⟨k, hk⟩ := Int.eq_ofNat_of_zero_le (Int.not_lt.1 hi)
    have hkl : k < s.L.length := by unfold sIdx at hk; omega
    have hkk : (sIdx s id).toNat = k := by rw [hk]; exact Int.toNat_natCast k
    obtain ⟨x, hx⟩ : ∃ x, s.L[k]! = x := ⟨_, rfl⟩
    have HF := Lib.hid (hf W HC.out x true (.inr ⟨by unfold sIdx at hk; omega, rfl, by rw [← hx, ← hkk]; rfl⟩))
    have hxid : x.id = id := by have := fidx_at (fun x : Ses => x.id == id) s.L k hk; rw [hx] at this; simpa using this
    rcases Int.lt_or_le x.seq 1073741824 with hq | hq
    rotate_left
    · rw [show s.takeF id conn = (s, 4) from by unfold SS.takeF; rw [if_neg hi, hkk, hx, if_pos hq]]
      clear hf hi hlt hn hsm2 hk hkk hx hxid hkl
      go_enter Try.func22, Try.ntmps22
      go_wp2_with fail
      rw [HWW.out]
      refine HF.out.mono ?_
      rintro e w1 ⟨rfl, hb⟩
      have B1 : Below W.heap.size W w1 := hb
      have hs1 := HS.out
      have hs2 := B1.size
      have nx1 : w.heap.size ≠ w1.heap.size := by omega
      have nx2 : w.heap.size + 1 ≠ w1.heap.size := by omega
      have nx1' : w1.heap.size ≠ w.heap.size := by omega
      have nx2' : w1.heap.size ≠ w.heap.size + 1 := by omega
      clear hb hs1 hs2
      show _
      unfold Ses.val
      go_wp2
      have hs1 := HS.out
      have hs2 := B1.size
      refine bodyPost_ret (v := .tuple #[.agg #[.int .i64 s.epoch, .slice A1 s.L.length c1, .slice A2 s.H.length c2, .int .i64 s.next, .int .u64 s.now], .int .i64 4]) (by simp [results, Try.results22, go_sem, r2, z2, B1, fun o => bl_alloc o B1, World.cell?_setCell_far, nx1, nx2, nx1', nx2']) rfl ⟨_, rfl, ?_, ?_⟩
      · refine IsSS.mono (ok := fun k => ok k ∧ k < w.heap.size) ?_ (fun k hk _ => .inl hk)
        repeat refine IsSS.set ?_ (fun h => by have := h.2; omega)
        refine IsSS.below ?_ (bl_alloc _ (bl_refl _))
        exact HS1.out.below B1
      · repeat refine bl_set ?_ (by omega)
        exact bl_trans HWB.out (bl_alloc _ B1)
    have HP := Lib.hid (fun W' v' h' => put86 (fun k => ok k ∧ k < w.heap.size) v' s (tk conn x) W' h' k (by show fidx (fun y : Ses => y.id == x.id) s.L = _; rw [hxid]; exact hk) HSM.out)
    rw [show s.takeF id conn = (({ s with L := s.L.set k (tk conn x) } : SS).renew id, 0) from by unfold SS.takeF SS.upd; rw [if_neg hi, hkk, hx, if_neg (by omega)]]
    obtain ⟨s', hs'⟩ : ∃ s', ({ s with L := s.L.set k (tk conn x) } : SS) = s' := ⟨_, rfl⟩
    have HN := Lib.hid (show (0 ≤ s'.now ∧ s'.now < 18446744073709551616) ∧ s'.H.length ≤ 1000 by rw [← hs']; exact ⟨hn, hsm2⟩)
    rw [hs'] at HP ⊢
    have HRN := Lib.hid (fun okk v' W' h' => renewed85 okk v' s' id W' h' HN.out.1 HN.out.2)
    obtain ⟨s2, hs2⟩ : ∃ s2, s'.renew id = s2 := ⟨_, rfl⟩
    rw [hs2] at HRN ⊢
    have hwr : IntKind.i64.wrap (x.seq + 1) = wrap64 (x.seq + 1) := Go.Proofs.YtkcebmamohimoaaW.PrintLast.i64_w _
    clear hf hi hlt hk hkk hx hxid hs' hkl hn hsm2 hs2
    go_enter Try.func22, Try.ntmps22
    go_wp2_with fail
    rw [HWW.out]
    refine HF.out.mono ?_
    rintro e w1 ⟨rfl, hb⟩
    have B1 : Below W.heap.size W w1 := hb
    have hs1 := HS.out
    have hs2 := B1.size
    have nx1 : w.heap.size ≠ w1.heap.size := by omega
    have nx2 : w.heap.size + 1 ≠ w1.heap.size := by omega
    have nx1' : w1.heap.size ≠ w.heap.size := by omega
    have nx2' : w1.heap.size ≠ w.heap.size + 1 := by omega
    clear hb hs1 hs2
    show _
    unfold Ses.val
    go_wp2_with fail
    have hs1 := HS.out
    have hs2 := B1.size
    refine (HP.out _ _ ?_).mono ?_
    · repeat refine IsSS.set ?_ (fun h => by have := h.2; omega)
      refine IsSS.below ?_ (bl_alloc _ (bl_refl _))
      exact HS1.out.below B1
    rintro e w3 ⟨v3, rfl, hS3, hb3⟩
    have B3 : Below W.heap.size W w3 := by
      refine bl_trans ?_ hb3
      repeat refine bl_setr (by omega) ?_
      exact bl_alloc _ B1
    have HS3 := Lib.hid (hS3.mono (fun k hk _ => hk.imp (fun h => h.1) (fun h => Nat.le_trans (by simp; omega) h)) : IsSS (fun k => (ok k ∧ k < w.heap.size) ∨ W.heap.size ≤ k) w3 v3 s')
    clear hb3 hs1 hs2 nx1 nx2 nx1' nx2' B1 hS3
    go_wp2_with fail
    refine (HRN.out _ v3 w3 HS3.out).mono ?_
    rintro e w4 ⟨v4, rfl, hS4, hb4⟩
    have B4 : Below W.heap.size W w4 := bl_trans B3 hb4
    have hs3 := B3.size
    have HS4 := Lib.hid (hS4.mono (fun k hk _ => hk.elim (fun h => h.1) (fun h => .inr (by omega))) : IsSS (fun k => (ok k ∧ k < w.heap.size) ∨ W.heap.size ≤ k) w4 v4 s2)
    obtain ⟨A3, c3, A4, c4, rfl, _, _, _, _⟩ := hS4
    clear hb4 hs3
    go_wp2
    have hs1 := HS.out
    refine bodyPost_ret (v := .tuple #[.agg #[.int .i64 s2.epoch, .slice A3 s2.L.length c3, .slice A4 s2.H.length c4, .int .i64 s2.next, .int .u64 s2.now], .int .i64 0]) (by simp [results, Try.results22, go_sem, r2, z2, B4]) rfl ⟨_, rfl, ?_, ?_⟩
    · refine IsSS.mono (ok := fun k => (ok k ∧ k < w.heap.size) ∨ W.heap.size ≤ k) ?_ (fun k hk _ => hk.imp_right (fun h => by omega))
      repeat refine IsSS.set ?_ (fun h => by rcases h with h | h <;> omega)
      exact HS4.out
    · repeat refine bl_set ?_ (by omega)
      exact bl_trans HWB.out B4
set_option maxHeartbeats 8000000 in
set_option maxRecDepth 100000 in
theorem take21 (ok : Nat → Prop) (v : Value) (s : SS) (id conn : Int) (w : World) (h : IsSS ok w v s) (hn : 0 ≤ s.now ∧ s.now < 18446744073709551616) (hsm : s.L.length ≤ 1000) (hsm2 : s.H.length ≤ 1000) :
    Calls Try.prog 21 #[v, .int .i64 id, .int .i64 conn] w fun e w' => ∃ v', e = .returned (.tuple #[v', .int .i64 (s.takeF id conn).2]) ∧ IsSS (fun k => (ok k ∧ k < w.heap.size) ∨ w.heap.size ≤ k) w' v' (s.takeF id conn).1 ∧ Below w.heap.size w w' := by
  have HS0 := Lib.hid (h.mono (fun k hk hl => ⟨hk, hl⟩) : IsSS (fun k => ok k ∧ k < w.heap.size) w v s)
  obtain ⟨A1, c1, A2, c2, rfl, h1, l1, h2, l2⟩ := h
  have hlt := fidx_lt (fun x : Ses => x.id == id) s.L
  have hf := find48 s.epoch A1 c1 s.L (.slice A2 s.H.length c2) rfl s.next s.now id
  obtain ⟨W, hW, K1, K2, K3, HW, hs⟩ := boxes3 w #[.int .i64 s.epoch, .slice A1 s.L.length c1, .slice A2 s.H.length c2, .int .i64 s.next, .int .u64 s.now] 26 #[.int .i64 conn] 3 #[.int .i64 0, .slice none 0 0, .slice none 0 0, .int .i64 0, .int .u64 0] 26
  have HC := Lib.hid (Kd.C_below h1.self HW)
  have h82 : ∀ (W' : World) v', IsSS (fun k => ok k ∧ k < w.heap.size) W' v' s → w.heap.size + 1 < W'.heap.size → W'.cell? ⟨w.heap.size + 1, 0, none⟩ = some (.int .i64 conn) → Calls Try.prog 82 #[v', .int .i64 id, .func (.func 83) #[] #[.pointer (some ⟨w.heap.size + 1, 0, none⟩)]] W' fun e w' => ∃ v', e = .returned (.tuple #[v', .int .i64 (s.withF id (tk conn)).2]) ∧ IsSS (fun k => ((ok k ∧ k < w.heap.size) ∧ k < W'.heap.size) ∨ W'.heap.size ≤ k) w' v' (s.withF id (tk conn)).1 ∧ Below W'.heap.size W' w' := fun W' v' h' hl hc => with82 (fun k => ok k ∧ k < w.heap.size) v' s id 83 #[.pointer (some ⟨w.heap.size + 1, 0, none⟩)] (tk conn) enters83 W' h' (does83 (w.heap.size + 1) conn W' hl hc) hsm
  have r1 := blk_cells K1
  have z1 := blk_frz K1
  have r2 := blk_cells K2
  have r3 := blk_cells K3
  have z3 := blk_frz K3
  have HK3 := Lib.hid K3
  have HWW := Lib.hid hW
  have HWB := Lib.hid HW
  have HS := Lib.hid hs
  have HS1 := Lib.hid (HS0.out.below HW)
  have n12 : w.heap.size ≠ w.heap.size + 1 := by omega
  have n13 : w.heap.size ≠ w.heap.size + 2 := by omega
  have n31 : w.heap.size + 2 ≠ w.heap.size := by omega
  have B0 : Below W.heap.size W W := bl_refl W
  clear h1 h2 l1 l2 hW HW K1 K2 K3 hs
  by_cases hi : sIdx s id < 0
  · rw [show s.takeF id conn = (s, 7) from by unfold SS.takeF; rw [if_pos hi]]
    rw [show s.withF id (tk conn) = (s, 7) from by unfold SS.withF; rw [if_pos hi]] at h82
    have H82 := Lib.hid h82
    have HF := Lib.hid (hf W HC.out default false (.inl ⟨hi, rfl, rfl⟩))
    clear hf hi hlt hn hsm2 h82 hsm
    go_enter Try.func21, Try.ntmps21
    go_wp2_with fail
    rw [HWW.out]
    refine HF.out.mono ?_
    rintro e w1 ⟨rfl, hb⟩
    have B1 : Below W.heap.size W w1 := hb
    have hs1 := HS.out
    have hs2 := B1.size
    have nx1 : w.heap.size ≠ w1.heap.size := by omega
    have nx2 : w.heap.size + 2 ≠ w1.heap.size := by omega
    have nx1' : w1.heap.size ≠ w.heap.size := by omega
    have nx2' : w1.heap.size ≠ w.heap.size + 2 := by omega
    have nx3 : w.heap.size + 1 ≠ w1.heap.size := by omega
    have nx3' : w1.heap.size ≠ w.heap.size + 1 := by omega
    clear hb hs1 hs2
    show _
    go_wp2_with fail
    have hs1 := HS.out
    have hs2 := B1.size
    refine (H82.out _ _ (IsSS.below (HS1.out.below B1) (bl_alloc _ (bl_refl _))) (by simp; omega) ((r2 _ 0 (bl_alloc _ B1)).trans rfl)).mono ?_
    rintro e w3 ⟨v3, rfl, hS3, hb3⟩
    have B3 : Below W.heap.size W w3 := bl_trans (bl_alloc _ B1) hb3
    have HS3 := Lib.hid (hS3.mono (fun k hk _ => hk.imp (fun h => h.1) (fun h => Nat.le_trans (by simp; omega) h)) : IsSS (fun k => (ok k ∧ k < w.heap.size) ∨ W.heap.size ≤ k) w3 v3 s)
    obtain ⟨A5, c5, A6, c6, rfl, _, _, _, _⟩ := hS3
    clear hb3 hs1 hs2 nx1 nx2 nx1' nx2' nx3 nx3' B1
    go_wp2
    have hs1 := HS.out
    refine bodyPost_ret (v := .tuple #[.agg #[.int .i64 s.epoch, .slice A5 s.L.length c5, .slice A6 s.H.length c6, .int .i64 s.next, .int .u64 s.now], .int .i64 7]) (by simp [results, Try.results21, go_sem, r3, z3, B3, World.cell?_setCell_far, n13, n31]) rfl ⟨_, rfl, ?_, ?_⟩
    · refine IsSS.mono (ok := fun k => (ok k ∧ k < w.heap.size) ∨ W.heap.size ≤ k) ?_ (fun k hk _ => hk.imp_right (fun h => by omega))
      repeat refine IsSS.set ?_ (fun h => by rcases h with h | h <;> omega)
      exact HS3.out
    · repeat refine bl_set ?_ (by omega)
      exact bl_trans HWB.out B3
  · obtain ⟨k, hk⟩ := Int.eq_ofNat_of_zero_le (Int.not_lt.1 hi)
    have hkl : k < s.L.length := by unfold sIdx at hk; omega
    have hkk : (sIdx s id).toNat = k := by rw [hk]; exact Int.toNat_natCast k
    obtain ⟨x, hx⟩ : ∃ x, s.L[k]! = x := ⟨_, rfl⟩
    have HF := Lib.hid (hf W HC.out x true (.inr ⟨by unfold sIdx at hk; omega, rfl, by rw [← hx, ← hkk]; rfl⟩))
    rcases Int.lt_or_le x.seq 1073741824 with hq | hq
    rotate_left
    · rw [show s.takeF id conn = (s, 4) from by unfold SS.takeF; rw [if_neg hi, hkk, hx, if_pos hq]]
      clear hf hi hlt hn hsm2 hk hkk hx hkl h82 hsm
      go_enter Try.func21, Try.ntmps21
      go_wp2_with fail
      rw [HWW.out]
      refine HF.out.mono ?_
      rintro e w1 ⟨rfl, hb⟩
      have B1 : Below W.heap.size W w1 := hb
      have hs1 := HS.out
      have hs2 := B1.size
      have nx1 : w.heap.size ≠ w1.heap.size := by omega
      have nx2 : w.heap.size + 2 ≠ w1.heap.size := by omega
      have nx1' : w1.heap.size ≠ w.heap.size := by omega
      have nx2' : w1.heap.size ≠ w.heap.size + 2 := by omega
      have nx3 : w.heap.size + 1 ≠ w1.heap.size := by omega
      have nx3' : w1.heap.size ≠ w.heap.size + 1 := by omega
      clear hb hs1 hs2
      go_wp2
      have hs1 := HS.out
      have hs2 := B1.size
      refine bodyPost_ret (v := .tuple #[.agg #[.int .i64 s.epoch, .slice A1 s.L.length c1, .slice A2 s.H.length c2, .int .i64 s.next, .int .u64 s.now], .int .i64 4]) (by simp [results, Try.results21, go_sem, r3, z3, B1, fun o => bl_alloc o B1, World.cell?_setCell_far, nx1, nx2, nx1', nx2']) rfl ⟨_, rfl, ?_, ?_⟩
      · refine IsSS.mono (ok := fun k => ok k ∧ k < w.heap.size) ?_ (fun k hk _ => .inl hk)
        repeat refine IsSS.set ?_ (fun h => by have := h.2; omega)
        refine IsSS.below ?_ (bl_alloc _ (bl_refl _))
        exact HS1.out.below B1
      · repeat refine bl_set ?_ (by omega)
        exact bl_trans HWB.out (bl_alloc _ B1)
    rw [show s.takeF id conn = ((s.upd k (tk conn)).renew id, 0) from by unfold SS.takeF; rw [if_neg hi, hkk, hx, if_neg (by omega)]]
    rw [show s.withF id (tk conn) = (s.upd k (tk conn), 0) from by unfold SS.withF; rw [if_neg hi, hkk]] at h82
    have hnn : (0 ≤ (s.upd k (tk conn)).now ∧ (s.upd k (tk conn)).now < 18446744073709551616) ∧ (s.upd k (tk conn)).H.length ≤ 1000 := ⟨hn, hsm2⟩
    obtain ⟨s1, hs1⟩ : ∃ s1, s.upd k (tk conn) = s1 := ⟨_, rfl⟩
    rw [hs1] at h82 hnn ⊢
    have H82 := Lib.hid h82
    have HRN := Lib.hid (fun okk v' W' h' => renewed84 okk v' s1 id W' h' hnn.1 hnn.2)
    obtain ⟨s2, hs2⟩ : ∃ s2, s1.renew id = s2 := ⟨_, rfl⟩
    rw [hs2] at HRN ⊢
    clear hf hi hlt hk hkk hx hs1 hkl hn hsm2 hs2 hnn h82 hsm
    go_enter Try.func21, Try.ntmps21
    go_wp2_with fail
    rw [HWW.out]
    refine HF.out.mono ?_
    rintro e w1 ⟨rfl, hb⟩
    have B1 : Below W.heap.size W w1 := hb
    have hs1 := HS.out
    have hs2 := B1.size
    have nx1 : w.heap.size ≠ w1.heap.size := by omega
    have nx2 : w.heap.size + 2 ≠ w1.heap.size := by omega
    have nx1' : w1.heap.size ≠ w.heap.size := by omega
    have nx2' : w1.heap.size ≠ w.heap.size + 2 := by omega
    have nx3 : w.heap.size + 1 ≠ w1.heap.size := by omega
    have nx3' : w1.heap.size ≠ w.heap.size + 1 := by omega
    clear hb hs1 hs2
    show _
    go_wp2_with fail
    have hs1 := HS.out
    have hs2 := B1.size
    refine (H82.out _ _ (IsSS.below (HS1.out.below B1) (bl_alloc _ (bl_refl _))) (by simp; omega) ((r2 _ 0 (bl_alloc _ B1)).trans rfl)).mono ?_
    rintro e w3 ⟨v3, rfl, hS3, hb3⟩
    have B3 : Below W.heap.size W w3 := bl_trans (bl_alloc _ B1) hb3
    have HS3 := Lib.hid (hS3.mono (fun k hk _ => hk.imp (fun h => h.1) (fun h => Nat.le_trans (by simp; omega) h)) : IsSS (fun k => (ok k ∧ k < w.heap.size) ∨ W.heap.size ≤ k) w3 v3 s1)
    obtain ⟨A5, c5, A6, c6, rfl, _, _, _, _⟩ := hS3
    clear hb3 hs1 hs2 nx1 nx2 nx1' nx2' nx3 nx3' B1
    go_wp2_with fail
    have hs1 := HS.out
    refine (HRN.out (fun k => (ok k ∧ k < w.heap.size) ∨ W.heap.size ≤ k) _ _ ?_).mono ?_
    · repeat refine IsSS.set ?_ (fun h => by rcases h with h | h <;> omega)
      exact HS3.out
    rintro e w4 ⟨v4, rfl, hS4, hb4⟩
    have hs3 := B3.size
    have K34 : w4.heap[w.heap.size + 2]? = some (.cells #[.int .i64 0, .slice none 0 0, .slice none 0 0, .int .i64 0, .int .u64 0] 26 (0, 0)) := by
      refine blk_below ?_ hb4
      repeat refine blk_far (p := ⟨w.heap.size, _, none⟩) ?_ (by show w.heap.size + 2 ≠ w.heap.size; omega) _
      exact blk_below HK3.out B3
    have HB4 : Below w.heap.size w w4 := by
      refine Below.trans ?_ (hb4.mono (by simp; omega))
      repeat refine bl_set ?_ (by omega)
      exact bl_trans HWB.out B3
    have r4 := blk_cells K34
    have z4 := blk_frz K34
    have B4 := bl_refl w4
    have HS4 := Lib.hid (hS4.mono (fun k hk _ => hk.elim (fun h => h.1) (fun h => .inr (by simp at h; omega))) : IsSS (fun k => (ok k ∧ k < w.heap.size) ∨ W.heap.size ≤ k) w4 v4 s2)
    obtain ⟨A3, c3, A4, c4, rfl, _, _, _, _⟩ := hS4
    clear hb4 hs3 hs1 K34 r3 z3 B3
    go_wp2
    have hs1 := HS.out
    refine bodyPost_ret (v := .tuple #[.agg #[.int .i64 s2.epoch, .slice A3 s2.L.length c3, .slice A4 s2.H.length c4, .int .i64 s2.next, .int .u64 s2.now], .int .i64 0]) (by simp [results, Try.results21, go_sem, r4, z4, B4]) rfl ⟨_, rfl, ?_, ?_⟩
    · refine IsSS.mono (ok := fun k => (ok k ∧ k < w.heap.size) ∨ W.heap.size ≤ k) ?_ (fun k hk _ => hk.imp_right (fun h => by omega))
      repeat refine IsSS.set ?_ (fun h => by rcases h with h | h <;> omega)
      exact HS4.out
    · repeat refine bl_set ?_ (by omega)
      exact HB4
end Go.Proofs.Ytkcebmamohimoaa
