/- The reference's sessions: Find, Answer, Bind, Take. -/
import Derived.Test.YtkcebmamohimoaaS5
namespace Go.Proofs.Ytkcebmamohimoaa
open Go.RowKit Go.Proofs.YtkcebmamohimoaaW.PrintWords
set_option linter.unusedVariables false
set_option linter.unusedSimpArgs false
attribute [local go_sem] bl_refl bl_alloc bl_drew bl_drewN
set_option maxHeartbeats 8000000 in
set_option maxRecDepth 100000 in
theorem find49 (e : Int) (A1 : Option Addr) (c1 : Nat) (L : List Ses) (u2 : Value) (h1 : u2.oneCell' = true) (n t id : Int) (w : World) (h : Kd.C kSes w A1 L.length L) (x : Ses) (b : Bool) (hx : (fidx (fun x => x.id == id) L < 0 ∧ b = false ∧ x = default) ∨ (0 ≤ fidx (fun x => x.id == id) L ∧ b = true ∧ x = L[(fidx (fun x => x.id == id) L).toNat]!)) :
    Calls Try.prog 49 #[.agg #[.int .i64 e, .slice A1 L.length c1, u2, .int .i64 n, .int .u64 t], .int .i64 id] w fun e w' => e = .returned (.tuple #[x.val, .bool b]) ∧ Below w.heap.size w w' := by
  have hm : L.length ≤ 9223372036854775807 := h.2.1
  have hlt := fidx_lt (fun x : Ses => x.id == id) L
  have ha := at110 e A1 c1 L u2 h1 n t id
  generalize fidx (fun x : Ses => x.id == id) L = i at hx ha hlt
  have HA := Lib.hid ha
  obtain ⟨W, hW, K1, K2, HW, hs⟩ := boxes2 w #[.int .i64 e, .slice A1 L.length c1, u2, .int .i64 n, .int .u64 t] 26 #[.int .i64 0, .int .i64 0, .bool false, .string ⟨#[]⟩, .int .i64 0, .int .i64 0] 78
  have hC := Kd.C_below h HW
  have HC := Lib.hid hC
  have r1 := blk_cells K1
  have r2 := blk_cells K2
  have z2 := blk_frz K2
  have HWW := Lib.hid hW
  have HWB := Lib.hid HW
  have HS := Lib.hid hs
  have n12 : w.heap.size ≠ w.heap.size + 1 := by omega
  have B0 : Below W.heap.size W W := bl_refl W
  clear h hW HW K1 K2 hs ha
  rcases hx with ⟨h0, rfl, rfl⟩ | ⟨h0, rfl, rfl⟩
  · clear hC
    go_enter Try.func49, Try.ntmps49
    go_wp2_with fail
    rw [HWW.out]
    refine (HA.out W HC.out).mono ?_
    rintro e w1 ⟨rfl, hb⟩
    have B1 : Below W.heap.size W w1 := hb
    clear hb
    go_wp2
    refine bodyPost_ret (v := .tuple #[.agg #[.int .i64 0, .int .i64 0, .bool false, .string ⟨#[]⟩, .int .i64 0, .int .i64 0], .bool false]) (by simp [results, Try.results49, go_sem, r2, z2, B1]) rfl ⟨rfl, ?_⟩
    repeat refine bl_set ?_ (by omega)
    exact bl_trans HWB.out B1
  · obtain ⟨k, rfl⟩ := Int.eq_ofNat_of_zero_le h0
    have hk : k < L.length := by omega
    rw [Int.toNat_natCast]
    obtain ⟨x, hx⟩ : ∃ x, L[k]! = x := ⟨_, rfl⟩
    obtain ⟨ad, rfl, x0, x1, x2, x3, x4, x5⟩ := Ses.at hC k hk
    rw [hx] at x0 x1 x2 x3 x4 x5 ⊢
    have y0 := cell_rule x0
    have y1 := cell_rule x1
    have y2 := cell_rule x2
    have y3 := cell_rule x3
    have y4 := cell_rule x4
    have y5 := cell_rule x5
    have hk0 : ¬ (k : Int) < 0 := by omega
    clear hC hx x0 x1 x2 x3 x4 x5
    go_enter Try.func49, Try.ntmps49
    go_wp2_with fail
    rw [HWW.out]
    refine (HA.out W HC.out).mono ?_
    rintro e w1 ⟨rfl, hb⟩
    have B1 : Below W.heap.size W w1 := hb
    clear hb
    go_wp2
    refine bodyPost_ret (v := .tuple #[.agg #[.int .i64 x.id, .int .i64 x.seq, .bool x.busy, .string x.last, .int .i64 x.txn, .int .i64 x.conn], .bool true]) (by simp [results, Try.results49, go_sem, r2, z2, B1]) rfl ⟨rfl, ?_⟩
    repeat refine bl_set ?_ (by omega)
    exact bl_trans HWB.out B1
theorem fidx_at {α : Type} [Inhabited α] (p : α → Bool) (l : List α) (k : Nat) (h : fidx p l = (k : Int)) : p l[k]! = true := by
  unfold fidx at h
  cases e : l.findIdx? p with
  | none => rw [e] at h; simp only [] at h; omega
  | some i =>
    rw [e] at h
    have hik : i = k := by simp only [] at h; omega
    subst hik
    obtain ⟨hi, hp, _⟩ := List.findIdx?_eq_some_iff_getElem.1 e
    rw [getElem!_pos l i hi]
    exact hp
set_option maxHeartbeats 8000000 in
set_option maxRecDepth 100000 in
theorem answer24 (ok : Nat → Prop) (v : Value) (s : SS) (id : Int) (last : ByteArray) (w : World) (h : IsSS ok w v s) (hsm : s.L.length ≤ 1000) :
    Calls Try.prog 24 #[v, .int .i64 id, .string last] w fun e w' => ∃ v', e = .returned (.tuple #[v', .int .i64 (s.withF id (an last)).2]) ∧ IsSS (fun k => (ok k ∧ k < w.heap.size) ∨ w.heap.size ≤ k) w' v' (s.withF id (an last)).1 ∧ Below w.heap.size w w' := by
  have HS0 := Lib.hid (h.mono (fun k hk hl => ⟨hk, hl⟩) : IsSS (fun k => ok k ∧ k < w.heap.size) w v s)
  obtain ⟨A1, c1, A2, c2, rfl, h1, l1, h2, l2⟩ := h
  have hlt := fidx_lt (fun x : Ses => x.id == id) s.L
  have hf := find49 s.epoch A1 c1 s.L (.slice A2 s.H.length c2) rfl s.next s.now id
  have HSM := Lib.hid hsm
  obtain ⟨W, hW, K1, K2, HW, hs⟩ := boxes2 w #[.int .i64 s.epoch, .slice A1 s.L.length c1, .slice A2 s.H.length c2, .int .i64 s.next, .int .u64 s.now] 26 #[.int .i64 0, .slice none 0 0, .slice none 0 0, .int .i64 0, .int .u64 0] 26
  have HC := Lib.hid (Kd.C_below h1.self HW)
  have r1 := blk_cells K1
  have z1 := blk_frz K1
  have r2 := blk_cells K2
  have z2 := blk_frz K2
  have HWW := Lib.hid hW
  have HWB := Lib.hid HW
  have HS := Lib.hid hs
  have HS1 := Lib.hid (HS0.out.below HW)
  have n12 : w.heap.size ≠ w.heap.size + 1 := by omega
  have B0 : Below W.heap.size W W := bl_refl W
  clear h1 h2 l1 l2 hW HW K1 K2 hs hsm
  by_cases hi : sIdx s id < 0
  · rw [show s.withF id (an last) = (s, 7) from by unfold SS.withF; rw [if_pos hi]]
    have HF := Lib.hid (hf W HC.out default false (.inl ⟨hi, rfl, rfl⟩))
    clear hf hi hlt
    go_enter Try.func24, Try.ntmps24
    go_wp2_with fail
    rw [HWW.out]
    refine HF.out.mono ?_
    rintro e w1 ⟨rfl, hb⟩
    have B1 : Below W.heap.size W w1 := hb
    have hs1 := HS.out
    have hs2 := B1.size
    have nx1 : w.heap.size ≠ w1.heap.size := by omega
    have nx2 : w.heap.size + 1 ≠ w1.heap.size := by omega
    have nx1' : w1.heap.size ≠ w.heap.size := by omega
    have nx2' : w1.heap.size ≠ w.heap.size + 1 := by omega
    clear hb hs1 hs2
    show _
    unfold Ses.val
    go_wp2
    have hs1 := HS.out
    have hs2 := B1.size
    refine bodyPost_ret (v := .tuple #[.agg #[.int .i64 s.epoch, .slice A1 s.L.length c1, .slice A2 s.H.length c2, .int .i64 s.next, .int .u64 s.now], .int .i64 7]) (by simp [results, Try.results24, go_sem, r2, z2, B1, fun o => bl_alloc o B1, World.cell?_setCell_far, nx1, nx2, nx1', nx2']) rfl ⟨_, rfl, ?_, ?_⟩
    · refine IsSS.mono (ok := fun k => ok k ∧ k < w.heap.size) ?_ (fun k hk _ => .inl hk)
      repeat refine IsSS.set ?_ (fun h => by have := h.2; omega)
      refine IsSS.below ?_ (bl_alloc _ (bl_refl _))
      exact HS1.out.below B1
    · repeat refine bl_set ?_ (by omega)
      exact bl_trans HWB.out (bl_alloc _ B1)
  · obtain ⟨k, hk⟩ := Int.eq_ofNat_of_zero_le (Int.not_lt.1 hi)
    have hkl : k < s.L.length := by unfold sIdx at hk; omega
    have hkk : (sIdx s id).toNat = k := by rw [hk]; exact Int.toNat_natCast k
    rw [show s.withF id (an last) = (s.upd k (an last), 0) from by unfold SS.withF; rw [if_neg hi, hkk]]
    obtain ⟨x, hx⟩ : ∃ x, s.L[k]! = x := ⟨_, rfl⟩
    have HF := Lib.hid (hf W HC.out x true (.inr ⟨by unfold sIdx at hk; omega, rfl, by rw [← hx, ← hkk]; rfl⟩))
    have hxid : x.id = id := by have := fidx_at (fun x : Ses => x.id == id) s.L k hk; rw [hx] at this; simpa using this
    have HP := Lib.hid (fun W' v' h' => put86 (fun k => ok k ∧ k < w.heap.size) v' s ((an last) x) W' h' k (by show fidx (fun y : Ses => y.id == x.id) s.L = _; rw [hxid]; exact hk) HSM.out)
    rw [show s.upd k (an last) = { s with L := s.L.set k ((an last) x) } from by unfold SS.upd; rw [hx]]
    obtain ⟨s', hs'⟩ : ∃ s', ({ s with L := s.L.set k ((an last) x) } : SS) = s' := ⟨_, rfl⟩
    rw [hs'] at HP ⊢
    clear hf hi hlt hk hkk hx hxid hs' hkl
    go_enter Try.func24, Try.ntmps24
    go_wp2_with fail
    rw [HWW.out]
    refine HF.out.mono ?_
    rintro e w1 ⟨rfl, hb⟩
    have B1 : Below W.heap.size W w1 := hb
    have hs1 := HS.out
    have hs2 := B1.size
    have nx1 : w.heap.size ≠ w1.heap.size := by omega
    have nx2 : w.heap.size + 1 ≠ w1.heap.size := by omega
    have nx1' : w1.heap.size ≠ w.heap.size := by omega
    have nx2' : w1.heap.size ≠ w.heap.size + 1 := by omega
    clear hb hs1 hs2
    show _
    unfold Ses.val
    go_wp2_with fail
    have hs1 := HS.out
    have hs2 := B1.size
    refine (HP.out _ _ ?_).mono ?_
    · repeat refine IsSS.set ?_ (fun h => by have := h.2; omega)
      refine IsSS.below ?_ (bl_alloc _ (bl_refl _))
      exact HS1.out.below B1
    rintro e w3 ⟨v3, rfl, hS3, hb3⟩
    have B3 : Below W.heap.size W w3 := by
      refine bl_trans ?_ hb3
      repeat refine bl_setr (by omega) ?_
      exact bl_alloc _ B1
    have HS3 := Lib.hid (hS3.mono (fun k hk _ => hk.imp (fun h => h.1) (fun h => Nat.le_trans (by have := bl_alloc (w := w1) (.cells #[.int .i64 0] 3) (bl_refl w1); simp; omega) h)) : IsSS (fun k => (ok k ∧ k < w.heap.size) ∨ W.heap.size ≤ k) w3 v3 s')
    obtain ⟨A3, c3, A4, c4, rfl, _, _, _, _⟩ := hS3
    clear hb3 hs1 hs2 nx1 nx2 nx1' nx2' B1
    go_wp2
    have hs1 := HS.out
    refine bodyPost_ret (v := .tuple #[.agg #[.int .i64 s'.epoch, .slice A3 s'.L.length c3, .slice A4 s'.H.length c4, .int .i64 s'.next, .int .u64 s'.now], .int .i64 0]) (by simp [results, Try.results24, go_sem, r2, z2, B3]) rfl ⟨_, rfl, ?_, ?_⟩
    · refine IsSS.mono (ok := fun k => (ok k ∧ k < w.heap.size) ∨ W.heap.size ≤ k) ?_ (fun k hk _ => hk.imp_right (fun h => by omega))
      repeat refine IsSS.set ?_ (fun h => by rcases h with h | h <;> omega)
      exact HS3.out
    · repeat refine bl_set ?_ (by omega)
      exact bl_trans HWB.out B3
set_option maxHeartbeats 8000000 in
set_option maxRecDepth 100000 in
theorem bind26 (ok : Nat → Prop) (v : Value) (s : SS) (id : Int) (txn : Int) (w : World) (h : IsSS ok w v s) (hsm : s.L.length ≤ 1000) :
    Calls Try.prog 26 #[v, .int .i64 id, .int .i64 txn] w fun e w' => ∃ v', e = .returned (.tuple #[v', .int .i64 (s.withF id (bi txn)).2]) ∧ IsSS (fun k => (ok k ∧ k < w.heap.size) ∨ w.heap.size ≤ k) w' v' (s.withF id (bi txn)).1 ∧ Below w.heap.size w w' := by
  have HS0 := Lib.hid (h.mono (fun k hk hl => ⟨hk, hl⟩) : IsSS (fun k => ok k ∧ k < w.heap.size) w v s)
  obtain ⟨A1, c1, A2, c2, rfl, h1, l1, h2, l2⟩ := h
  have hlt := fidx_lt (fun x : Ses => x.id == id) s.L
  have hf := find49 s.epoch A1 c1 s.L (.slice A2 s.H.length c2) rfl s.next s.now id
  have HSM := Lib.hid hsm
  obtain ⟨W, hW, K1, K2, HW, hs⟩ := boxes2 w #[.int .i64 s.epoch, .slice A1 s.L.length c1, .slice A2 s.H.length c2, .int .i64 s.next, .int .u64 s.now] 26 #[.int .i64 0, .slice none 0 0, .slice none 0 0, .int .i64 0, .int .u64 0] 26
  have HC := Lib.hid (Kd.C_below h1.self HW)
  have r1 := blk_cells K1
  have z1 := blk_frz K1
  have r2 := blk_cells K2
  have z2 := blk_frz K2
  have HWW := Lib.hid hW
  have HWB := Lib.hid HW
  have HS := Lib.hid hs
  have HS1 := Lib.hid (HS0.out.below HW)
  have n12 : w.heap.size ≠ w.heap.size + 1 := by omega
  have B0 : Below W.heap.size W W := bl_refl W
  clear h1 h2 l1 l2 hW HW K1 K2 hs hsm
  by_cases hi : sIdx s id < 0
  · rw [show s.withF id (bi txn) = (s, 7) from by unfold SS.withF; rw [if_pos hi]]
    have HF := Lib.hid (hf W HC.out default false (.inl ⟨hi, rfl, rfl⟩))
    clear hf hi hlt
    go_enter Try.func26, Try.ntmps26
    go_wp2_with fail
    rw [HWW.out]
    refine HF.out.mono ?_
    rintro e w1 ⟨rfl, hb⟩
    have B1 : Below W.heap.size W w1 := hb
    have hs1 := HS.out
    have hs2 := B1.size
    have nx1 : w.heap.size ≠ w1.heap.size := by omega
    have nx2 : w.heap.size + 1 ≠ w1.heap.size := by omega
    have nx1' : w1.heap.size ≠ w.heap.size := by omega
    have nx2' : w1.heap.size ≠ w.heap.size + 1 := by omega
    clear hb hs1 hs2
    show _
    unfold Ses.val
    go_wp2
    have hs1 := HS.out
    have hs2 := B1.size
    refine bodyPost_ret (v := .tuple #[.agg #[.int .i64 s.epoch, .slice A1 s.L.length c1, .slice A2 s.H.length c2, .int .i64 s.next, .int .u64 s.now], .int .i64 7]) (by simp [results, Try.results26, go_sem, r2, z2, B1, fun o => bl_alloc o B1, World.cell?_setCell_far, nx1, nx2, nx1', nx2']) rfl ⟨_, rfl, ?_, ?_⟩
    · refine IsSS.mono (ok := fun k => ok k ∧ k < w.heap.size) ?_ (fun k hk _ => .inl hk)
      repeat refine IsSS.set ?_ (fun h => by have := h.2; omega)
      refine IsSS.below ?_ (bl_alloc _ (bl_refl _))
      exact HS1.out.below B1
    · repeat refine bl_set ?_ (by omega)
      exact bl_trans HWB.out (bl_alloc _ B1)
  · obtain ⟨k, hk⟩ := Int.eq_ofNat_of_zero_le (Int.not_lt.1 hi)
    have hkl : k < s.L.length := by unfold sIdx at hk; omega
    have hkk : (sIdx s id).toNat = k := by rw [hk]; exact Int.toNat_natCast k
    rw [show s.withF id (bi txn) = (s.upd k (bi txn), 0) from by unfold SS.withF; rw [if_neg hi, hkk]]
    obtain ⟨x, hx⟩ : ∃ x, s.L[k]! = x := ⟨_, rfl⟩
    have HF := Lib.hid (hf W HC.out x true (.inr ⟨by unfold sIdx at hk; omega, rfl, by rw [← hx, ← hkk]; rfl⟩))
    have hxid : x.id = id := by have := fidx_at (fun x : Ses => x.id == id) s.L k hk; rw [hx] at this; simpa using this
    have HP := Lib.hid (fun W' v' h' => put86 (fun k => ok k ∧ k < w.heap.size) v' s ((bi txn) x) W' h' k (by show fidx (fun y : Ses => y.id == x.id) s.L = _; rw [hxid]; exact hk) HSM.out)
    rw [show s.upd k (bi txn) = { s with L := s.L.set k ((bi txn) x) } from by unfold SS.upd; rw [hx]]
    obtain ⟨s', hs'⟩ : ∃ s', ({ s with L := s.L.set k ((bi txn) x) } : SS) = s' := ⟨_, rfl⟩
    rw [hs'] at HP ⊢
    clear hf hi hlt hk hkk hx hxid hs' hkl
    go_enter Try.func26, Try.ntmps26
    go_wp2_with fail
    rw [HWW.out]
    refine HF.out.mono ?_
    rintro e w1 ⟨rfl, hb⟩
    have B1 : Below W.heap.size W w1 := hb
    have hs1 := HS.out
    have hs2 := B1.size
    have nx1 : w.heap.size ≠ w1.heap.size := by omega
    have nx2 : w.heap.size + 1 ≠ w1.heap.size := by omega
    have nx1' : w1.heap.size ≠ w.heap.size := by omega
    have nx2' : w1.heap.size ≠ w.heap.size + 1 := by omega
    clear hb hs1 hs2
    show _
    unfold Ses.val
    go_wp2_with fail
    have hs1 := HS.out
    have hs2 := B1.size
    refine (HP.out _ _ ?_).mono ?_
    · repeat refine IsSS.set ?_ (fun h => by have := h.2; omega)
      refine IsSS.below ?_ (bl_alloc _ (bl_refl _))
      exact HS1.out.below B1
    rintro e w3 ⟨v3, rfl, hS3, hb3⟩
    have B3 : Below W.heap.size W w3 := by
      refine bl_trans ?_ hb3
      repeat refine bl_setr (by omega) ?_
      exact bl_alloc _ B1
    have HS3 := Lib.hid (hS3.mono (fun k hk _ => hk.imp (fun h => h.1) (fun h => Nat.le_trans (by have := bl_alloc (w := w1) (.cells #[.int .i64 0] 3) (bl_refl w1); simp; omega) h)) : IsSS (fun k => (ok k ∧ k < w.heap.size) ∨ W.heap.size ≤ k) w3 v3 s')
    obtain ⟨A3, c3, A4, c4, rfl, _, _, _, _⟩ := hS3
    clear hb3 hs1 hs2 nx1 nx2 nx1' nx2' B1
    go_wp2
    have hs1 := HS.out
    refine bodyPost_ret (v := .tuple #[.agg #[.int .i64 s'.epoch, .slice A3 s'.L.length c3, .slice A4 s'.H.length c4, .int .i64 s'.next, .int .u64 s'.now], .int .i64 0]) (by simp [results, Try.results26, go_sem, r2, z2, B3]) rfl ⟨_, rfl, ?_, ?_⟩
    · refine IsSS.mono (ok := fun k => (ok k ∧ k < w.heap.size) ∨ W.heap.size ≤ k) ?_ (fun k hk _ => hk.imp_right (fun h => by omega))
      repeat refine IsSS.set ?_ (fun h => by rcases h with h | h <;> omega)
      exact HS3.out
    · repeat refine bl_set ?_ (by omega)
      exact bl_trans HWB.out B3
end Go.Proofs.Ytkcebmamohimoaa
