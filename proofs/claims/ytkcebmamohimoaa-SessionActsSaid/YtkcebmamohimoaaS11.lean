/- The law's own draw: shown. -/
import Derived.Test.YtkcebmamohimoaaS10
namespace Go.Proofs.Ytkcebmamohimoaa
open Go.RowKit Go.Proofs.YtkcebmamohimoaaW.PrintWords
set_option linter.unusedVariables false
set_option linter.unusedSimpArgs false
attribute [local go_sem] bl_refl bl_alloc bl_drew bl_drewN
def shQ (n : Int) : Rq := ⟨0, 7, 1, n, ⟨#[]⟩, 0, ⟨#[]⟩, ⟨#[]⟩, ⟨#[]⟩, ⟨#[]⟩, 0⟩
def sh1 : SS := ((SS.fresh 7).added 0).renew 1
def sh2 : SS := (sh1.upd 0 (tk 0)).renew 1
def sh3 : SS := sh2.upd 0 (an ⟨#[120]⟩)
theorem w01 : wrap64 (0 + 1) = 1 := by rw [← Go.Proofs.YtkcebmamohimoaaW.PrintLast.i64_w, IntWalk.i64_in _ (by omega)]; rfl
theorem w11 : wrap64 (1 + 1) = 2 := by rw [← Go.Proofs.YtkcebmamohimoaaW.PrintLast.i64_w, IntWalk.i64_in _ (by omega)]; rfl
theorem sh1L : sh1.L = [⟨1, 0, false, ⟨#[]⟩, 0, 0⟩] := rfl
theorem sh2L : sh2.L = [⟨1, 1, true, ⟨#[]⟩, 0, 0⟩] := by show [tk 0 ⟨1, 0, false, ⟨#[]⟩, 0, 0⟩] = _; unfold tk; rw [w01]
theorem sh3L : sh3.L = [⟨1, 1, false, ⟨#[120]⟩, 0, 0⟩] := by unfold sh3 SS.upd; rw [sh2L]; rfl
theorem shO : (SS.fresh 7).openF 0 = (sh1, 1, 0) := rfl
theorem shH1 : sh1.H.length ≤ 1000 := by show (aPut (aDrop [] 1) _).length ≤ _; rw [aPut_length]; have := aDrop_length [] 1; simp at this; rw [this]; simp
theorem shJ1 : sh1.judge (shQ 1) = (⟨#[]⟩, 0) := by
  unfold SS.judge Ses.judge sIdx; rw [sh1L]; simp [shQ, fidx, show wrap64 1 = 1 from w01, show sh1.epoch = 7 from rfl]
theorem shT : sh1.takeF 1 0 = (sh2, 0) := by
  unfold SS.takeF sIdx; rw [sh1L]; rfl
theorem shA : sh2.withF 1 (an ⟨#[120]⟩) = (sh3, 0) := by
  unfold SS.withF sIdx; rw [sh2L]; rfl
theorem shJ2 : sh3.judge (shQ 1) = (⟨#[120]⟩, 8) := by
  unfold SS.judge Ses.judge sIdx; rw [sh3L]; simp [shQ, fidx]; rfl
theorem shJ3 : sh3.judge (shQ 3) = (⟨#[]⟩, 15) := by
  unfold SS.judge Ses.judge sIdx; rw [sh3L]; simp [shQ, fidx, show wrap64 2 = 2 from w11, show sh3.epoch = 7 from rfl]
theorem sh2r : ∀ x ∈ sh1.L, -9223372036854775808 ≤ x.seq ∧ x.seq ≤ 9223372036854775807 := by rw [sh1L]; intro x hx; rw [List.mem_singleton.1 hx]; decide
theorem sh3r : ∀ x ∈ sh3.L, -9223372036854775808 ≤ x.seq ∧ x.seq ≤ 9223372036854775807 := by rw [sh3L]; intro x hx; rw [List.mem_singleton.1 hx]; decide
/-- A whole struct stored into its box. -/
theorem store26 {W : World} {b : Nat} {a0 a1 a2 a3 a4 : Value} (h : W.heap[b]? = some (.cells #[a0, a1, a2, a3, a4] 26 (0, 0))) (u0 u1 u2 u3 u4 : Value) :
    (((((W.setCell ⟨b, 0, none⟩ u0).setCell ⟨b, 1, none⟩ u1).setCell ⟨b, 2, none⟩ u2).setCell ⟨b, 3, none⟩ u3).setCell ⟨b, 4, none⟩ u4).heap[b]? = some (.cells #[u0, u1, u2, u3, u4] 26 (0, 0)) :=
  blk_put (blk_put (blk_put (blk_put (blk_put h 0 u0 rfl) 1 u1 rfl) 2 u2 rfl) 3 u3 rfl) 4 u4 rfl
set_option maxHeartbeats 16000000 in
set_option maxRecDepth 100000 in
theorem shown17 (w : World) : Calls Try.prog 17 #[] w fun e w' => e = .returned (.bool true) ∧ Below w.heap.size w w' := by
  have h40 := fun ok v w h => open40 ok v (SS.fresh 7) 0 w h ⟨by decide, by decide⟩ (by decide) (by decide)
  rw [shO] at h40
  have h191 := fun ok v w h => judge19 ok v sh1 (shQ 1) w h sh2r
  rw [shJ1] at h191
  have h21 := fun ok v w h => take21 ok v sh1 1 0 w h ⟨by decide, by decide⟩ (by rw [sh1L]; decide) shH1
  rw [shT] at h21
  have h23 := fun ok v w h => answer23 ok v sh2 1 ⟨#[120]⟩ w h (by rw [sh2L]; decide)
  rw [shA] at h23
  have h192 := fun ok v w h => judge19 ok v sh3 (shQ 1) w h sh3r
  rw [shJ2] at h192
  have h193 := fun ok v w h => judge19 ok v sh3 (shQ 3) w h sh3r
  rw [shJ3] at h193
  have H40 := Lib.hid h40
  have H191 := Lib.hid h191
  have H21 := Lib.hid h21
  have H23 := Lib.hid h23
  have H192 := Lib.hid h192
  have H193 := Lib.hid h193
  clear h40 h191 h21 h23 h192 h193
  go_enter Try.func17, Try.ntmps17
  go_wp2_with fail
  refine (new54 7 w).mono ?_
  rintro e w1 ⟨v0, rfl, hS0, hb1⟩
  have HB1 := Lib.hid hb1
  have HS0 := Lib.hid hS0
  clear hb1 hS0
  go_wp2_with fail
  refine (H40.out _ v0 w1 HS0.out).mono ?_
  rintro e w2 ⟨v1, rfl, hS1, hb2⟩
  have HB2 := Lib.hid (bl_trans HB1.out hb2)
  have HS1 := Lib.hid (hS1.mono (fun k hk hl => (⟨hl, trivial⟩ : k < w2.heap.size ∧ True)) : IsSS (fun k => k < w2.heap.size ∧ True) w2 v1 sh1)
  obtain ⟨A1, c1, A2, c2, rfl, _, _, _, _⟩ := hS1
  clear hb2
  go_wp2_with fail
  have K3 := blk_new w2 (.cells #[.int .i64 sh1.epoch, .slice A1 sh1.L.length c1, .slice A2 sh1.H.length c2, .int .i64 sh1.next, .int .u64 sh1.now] 26)
  have HB3 := Lib.hid (bl_alloc (.cells #[.int .i64 sh1.epoch, .slice A1 sh1.L.length c1, .slice A2 sh1.H.length c2, .int .i64 sh1.next, .int .u64 sh1.now] 26) HB2.out)
  have HS2 := Lib.hid (HS1.out.below (bl_alloc (.cells #[.int .i64 sh1.epoch, .slice A1 sh1.L.length c1, .slice A2 sh1.H.length c2, .int .i64 sh1.next, .int .u64 sh1.now] 26) (bl_refl w2)))
  have hsz : (w2.alloc (.cells #[.int .i64 sh1.epoch, .slice A1 sh1.L.length c1, .slice A2 sh1.H.length c2, .int .i64 sh1.next, .int .u64 sh1.now] 26)).heap.size = w2.heap.size + 1 := by simp
  have hb2 : w.heap.size ≤ w2.heap.size := HB2.out.size
  generalize w2.alloc (.cells #[.int .i64 sh1.epoch, .slice A1 sh1.L.length c1, .slice A2 sh1.H.length c2, .int .i64 sh1.next, .int .u64 sh1.now] 26) = W3 at K3 HB3 HS2 hsz ⊢
  obtain ⟨b, hb⟩ : ∃ b, w2.heap.size = b := ⟨_, rfl⟩
  rw [hb] at K3 HS2 hsz hb2 ⊢
  have HSZ := Lib.hid hsz
  have HBB := Lib.hid hb2
  have HK3 := Lib.hid K3
  have r3 := blk_cells K3
  have z3 := blk_frz K3
  clear HB1 HS0 HB2 HS1 hb hsz hb2 K3
  refine (H191.out _ _ W3 HS2.out).mono ?_
  rintro e w3 ⟨rfl, hb3⟩
  have B3 : Below W3.heap.size W3 w3 := hb3
  clear hb3
  go_wp2_with fail
  refine (H21.out _ _ w3 (HS2.out.below B3)).mono ?_
  rintro e w4 ⟨v2, rfl, hS4, hb4⟩
  have B4 : Below W3.heap.size W3 w4 := bl_trans B3 hb4
  have HS4 := Lib.hid (hS4.mono (fun k hk hl => show k ≠ b from by have h1 := HSZ.out; have h2 := B3.size; exact hk.elim (fun h => by have := h.1.1; omega) (fun h => by omega)) : IsSS (fun k => k ≠ b) w4 v2 sh2)
  obtain ⟨A3, c3, A4, c4, rfl, _, _, _, _⟩ := hS4
  clear hb4 B3 HS2
  go_wp2_with fail
  refine (H23.out (fun k => k ≠ b) _ _ ?_).mono ?_
  · repeat refine IsSS.set ?_ (fun h => h rfl)
    exact HS4.out
  rintro e w6 ⟨v3, rfl, hS6, hb6⟩
  have hs4 := B4.size
  have K6 : w6.heap[b]? = some (.cells #[.int .i64 sh2.epoch, .slice A3 sh2.L.length c3, .slice A4 sh2.H.length c4, .int .i64 sh2.next, .int .u64 sh2.now] 26 (0, 0)) := blk_below (store26 (blk_below HK3.out B4) _ _ _ _ _) hb6
  have HB6 : Below w.heap.size w w6 := by
    refine Below.trans ?_ (hb6.mono (by have h1 := HSZ.out; have h2 := HBB.out; simp; omega))
    repeat refine bl_set ?_ HBB.out
    exact bl_trans HB3.out B4
  have HS6 := Lib.hid (hS6.mono (fun k hk hl => show k ≠ b from by have h1 := HSZ.out; exact hk.elim (fun h => h.1) (fun h => by simp at h; omega)) : IsSS (fun k => k ≠ b) w6 v3 sh3)
  obtain ⟨A5, c5, A6, c6, rfl, _, _, _, _⟩ := hS6
  have HB6' := Lib.hid HB6
  have HK6 := Lib.hid K6
  have hl6 := blk_lt K6
  have HL6 := Lib.hid hl6
  have r6 := blk_cells K6
  have z6 := blk_frz K6
  have B6 := bl_refl w6
  clear hb6 hs4 B4 r3 z3 HB6 K6 hl6 HS4 HB3 HK3
  go_wp2_with fail
  refine (H192.out (fun k => k ≠ b) _ _ ?_).mono ?_
  · repeat refine IsSS.set ?_ (fun h => h rfl)
    exact HS6.out
  rintro e w8 ⟨rfl, hb8⟩
  have K8 : w8.heap[b]? = some (.cells #[.int .i64 sh3.epoch, .slice A5 sh3.L.length c5, .slice A6 sh3.H.length c6, .int .i64 sh3.next, .int .u64 sh3.now] 26 (0, 0)) := blk_below (store26 HK6.out _ _ _ _ _) hb8
  have HB8 : Below w.heap.size w w8 := by
    refine Below.trans ?_ (hb8.mono (by have h1 := HL6.out; have h2 := HBB.out; simp; omega))
    repeat refine bl_set ?_ HBB.out
    exact HB6'.out
  have HS8 : Hid (IsSS (fun k => k ≠ b) w8 (.agg #[.int .i64 sh3.epoch, .slice A5 sh3.L.length c5, .slice A6 sh3.H.length c6, .int .i64 sh3.next, .int .u64 sh3.now]) sh3) := by
    refine IsSS.below ?_ hb8
    repeat refine IsSS.set ?_ (fun h => h rfl)
    exact HS6.out
  have HB8' := Lib.hid HB8
  have r8 := blk_cells K8
  have B8 := bl_refl w8
  clear hb8 r6 z6 B6 HB8 K8
  go_wp2_with fail
  refine (H193.out (fun k => k ≠ b) _ _ HS8.out).mono ?_
  rintro e w9 ⟨rfl, hb9⟩
  have HB9 := Lib.hid (HB8'.out.trans (hb9.mono HB8'.out.size))
  clear hb9
  go_wp2
  go_ret
  exact ⟨rfl, HB9.out⟩
end Go.Proofs.Ytkcebmamohimoaa
