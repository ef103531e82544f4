/- The reference's Same: rows of sessions, rows of alarms, sessions. -/
import Derived.Test.YtkcebmamohimoaaS9
import Derived.BigRegion
namespace Go.Proofs.Ytkcebmamohimoaa
open Go.RowKit Go.Proofs.YtkcebmamohimoaaW.PrintWords
set_option linter.unusedVariables false
set_option linter.unusedSimpArgs false
attribute [local go_sem] bl_refl bl_alloc bl_drew bl_drewN
set_option maxHeartbeats 8000000 in
set_option maxRecDepth 100000 in
theorem same52 (A1 A2 : Option Addr) (c1 c2 : Nat) (L : List Ses) (w : World) (h1 : Kd.C kSes w A1 L.length L) (h2 : Kd.C kSes w A2 L.length L) :
    Calls Try.prog 52 #[.slice A1 L.length c1, .slice A2 L.length c2] w fun e w' => e = .returned (.bool true) ∧ Below w.heap.size w w' := by
  have hm : L.length ≤ 9223372036854775807 := h1.2.1
  have HC1 := Lib.hid h1
  have HC2 := Lib.hid h2
  clear h1 h2
  go_enter Try.func52, Try.ntmps52
  go_wp2
  go_loopg [5] L.length (fun gg s5 wr => ∃ kk : Nat, kk ≤ L.length ∧ L.length - kk ≤ gg ∧ s5 = .int .i64 kk ∧ Hid (Below w.heap.size w wr))
  case atStart => exact ⟨0, Nat.zero_le _, by omega, rfl, Below.refl _ _⟩
  case round =>
    obtain ⟨kk, hkk, hg, rfl, HB⟩ := hrel
    by_cases hlt : kk < L.length
    · have hltz : (kk : Int) < (L.length : Int) := by omega
      have hk0 : (0 : Int) ≤ (kk : Int) := by omega
      obtain ⟨x, hx⟩ : ∃ x, L[kk]! = x := ⟨_, rfl⟩
      obtain ⟨ad, rfl, x0, x1, x2, x3, x4, x5⟩ := Ses.at (Kd.C_below HC1.out HB.out) kk hlt
      obtain ⟨bd, rfl, y0, y1, y2, y3, y4, y5⟩ := Ses.at (Kd.C_below HC2.out HB.out) kk hlt
      rw [hx] at x0 x1 x2 x3 x4 x5 y0 y1 y2 y3 y4 y5
      have p0 := cell_rule x0
      have q0 := cell_rule y0
      have p1 := cell_rule x1
      have q1 := cell_rule y1
      have p2 := cell_rule x2
      have q2 := cell_rule y2
      have p3 := cell_rule x3
      have q3 := cell_rule y3
      have p4 := cell_rule x4
      have q4 := cell_rule y4
      have p5 := cell_rule x5
      have q5 := cell_rule y5
      have Br := bl_refl wr
      clear hx x0 x1 x2 x3 x4 x5 y0 y1 y2 y3 y4 y5
      go_wp2
      go_big_region
      go_wp2
      go_roundg (L.length - (kk + 1))
      case measure => omega
      case rel => exact ⟨kk + 1, by omega, by omega, by go_num, bl_drewB HB.out⟩
    · have hltz : ¬ (kk : Int) < (L.length : Int) := by omega
      go_wp2
      go_ret
      exact ⟨rfl, HB.out⟩
set_option maxHeartbeats 8000000 in
set_option maxRecDepth 100000 in
theorem same89 (A1 A2 : Option Addr) (c1 c2 : Nat) (L : List Alm) (w : World) (h1 : Kd.C kAlm w A1 L.length L) (h2 : Kd.C kAlm w A2 L.length L) :
    Calls Try.prog 89 #[.slice A1 L.length c1, .slice A2 L.length c2] w fun e w' => e = .returned (.bool true) ∧ Below w.heap.size w w' := by
  have hm : L.length ≤ 9223372036854775807 := h1.2.1
  have HC1 := Lib.hid h1
  have HC2 := Lib.hid h2
  clear h1 h2
  go_enter Try.func89, Try.ntmps89
  go_wp2
  go_loopg [5] L.length (fun gg s5 wr => ∃ kk : Nat, kk ≤ L.length ∧ L.length - kk ≤ gg ∧ s5 = .int .i64 kk ∧ Hid (Below w.heap.size w wr))
  case atStart => exact ⟨0, Nat.zero_le _, by omega, rfl, Below.refl _ _⟩
  case round =>
    obtain ⟨kk, hkk, hg, rfl, HB⟩ := hrel
    by_cases hlt : kk < L.length
    · have hltz : (kk : Int) < (L.length : Int) := by omega
      have hk0 : (0 : Int) ≤ (kk : Int) := by omega
      obtain ⟨x, hx⟩ : ∃ x, L[kk]! = x := ⟨_, rfl⟩
      obtain ⟨ad, rfl, x0, x1⟩ := Alm.at (Kd.C_below HC1.out HB.out) kk hlt
      obtain ⟨bd, rfl, y0, y1⟩ := Alm.at (Kd.C_below HC2.out HB.out) kk hlt
      rw [hx] at x0 x1 y0 y1
      have p0 := cell_rule x0
      have q0 := cell_rule y0
      have p1 := cell_rule x1
      have q1 := cell_rule y1
      have Br := bl_refl wr
      clear hx x0 x1 y0 y1
      go_wp2
      go_big_region
      go_wp2
      go_roundg (L.length - (kk + 1))
      case measure => omega
      case rel => exact ⟨kk + 1, by omega, by omega, by go_num, bl_drewB HB.out⟩
    · have hltz : ¬ (kk : Int) < (L.length : Int) := by omega
      go_wp2
      go_ret
      exact ⟨rfl, HB.out⟩
set_option maxHeartbeats 8000000 in
set_option maxRecDepth 100000 in
theorem same27 (ok1 ok2 : Nat → Prop) (v1 v2 : Value) (s : SS) (w : World) (h : IsSS ok1 w v1 s) (h' : IsSS ok2 w v2 s) :
    Calls Try.prog 27 #[v1, v2] w fun e w' => e = .returned (.bool true) ∧ Below w.heap.size w w' := by
  obtain ⟨A1, c1, A2, c2, rfl, h1, l1, h2, l2⟩ := h
  obtain ⟨A3, c3, A4, c4, rfl, h3, l3, h4, l4⟩ := h'
  obtain ⟨W, hW, K1, K2, HW, hs⟩ := boxes2 w #[.int .i64 s.epoch, .slice A1 s.L.length c1, .slice A2 s.H.length c2, .int .i64 s.next, .int .u64 s.now] 26 #[.int .i64 s.epoch, .slice A3 s.L.length c3, .slice A4 s.H.length c4, .int .i64 s.next, .int .u64 s.now] 26
  have H1 := Lib.hid (Kd.C_below h1.self HW)
  have H2 := Lib.hid (Kd.C_below h2.self HW)
  have H3 := Lib.hid (Kd.C_below h3.self HW)
  have H4 := Lib.hid (Kd.C_below h4.self HW)
  have r1 := blk_cells K1
  have r2 := blk_cells K2
  have HWW := Lib.hid hW
  have HWB := Lib.hid HW
  have n12 : w.heap.size ≠ w.heap.size + 1 := by omega
  have B0 : Below W.heap.size W W := bl_refl W
  clear h1 h2 h3 h4 l1 l2 l3 l4 hW HW K1 K2 hs
  go_enter Try.func27, Try.ntmps27
  go_wp2_with fail
  rw [HWW.out]
  refine (same52 A1 A3 c1 c3 s.L W H1.out H3.out).mono ?_
  rintro e w1 ⟨rfl, hb⟩
  have B1 : Below W.heap.size W w1 := hb
  clear hb B0
  go_wp2_with fail
  refine (same89 A2 A4 c2 c4 s.H w1 (Kd.C_below H2.out B1) (Kd.C_below H4.out B1)).mono ?_
  rintro e w2 ⟨rfl, hb⟩
  have B2 : Below W.heap.size W w2 := bl_trans B1 hb
  clear hb B1
  go_wp2
  go_ret
  exact ⟨rfl, bl_trans HWB.out B2⟩
set_option maxHeartbeats 8000000 in
set_option maxRecDepth 100000 in
theorem few18 (ok : Nat → Prop) (v : Value) (s : SS) (w : World) (h : IsSS ok w v s) (b : Bool) (hb : b = (decide (s.L.length ≤ 100) && decide (s.H.length ≤ 100))) :
    Calls Try.prog 18 #[v] w fun e w' => e = .returned (.bool b) ∧ Below w.heap.size w w' := by
  obtain ⟨A1, c1, A2, c2, rfl, h1, l1, h2, l2⟩ := h
  clear h1 h2 l1 l2
  have B0 : Below w.heap.size w w := bl_refl w
  by_cases e1 : s.L.length ≤ 100
  · have e2 : (s.L.length : Int) ≤ 100 := by omega
    by_cases e3 : s.H.length ≤ 100
    · have e4 : (s.H.length : Int) ≤ 100 := by omega
      obtain rfl : b = true := by rw [hb]; simp [e1, e3]
      clear hb
      go_enter Try.func18, Try.ntmps18
      go_wp2
      go_ret
      exact ⟨rfl, bl_alloc _ B0⟩
    · have e4 : ¬ (s.H.length : Int) ≤ 100 := by omega
      obtain rfl : b = false := by rw [hb]; simp [e3]
      clear hb
      go_enter Try.func18, Try.ntmps18
      go_wp2
      go_ret
      exact ⟨rfl, bl_alloc _ B0⟩
  · have e2 : ¬ (s.L.length : Int) ≤ 100 := by omega
    obtain rfl : b = false := by rw [hb]; simp [e1]
    clear hb
    go_enter Try.func18, Try.ntmps18
    go_wp2
    go_ret
    exact ⟨rfl, bl_alloc _ B0⟩
end Go.Proofs.Ytkcebmamohimoaa
