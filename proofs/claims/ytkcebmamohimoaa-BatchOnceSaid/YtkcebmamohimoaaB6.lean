/- Batches that are the same, by the reference. -/
import Derived.Test.YtkcebmamohimoaaB5
import Derived.BigRegion
namespace Go.Proofs.Ytkcebmamohimoaa
open Go.RowKit Go.Proofs.YtkcebmamohimoaaW.PrintWords
set_option linter.unusedVariables false
set_option linter.unusedSimpArgs false
attribute [local go_sem] bl_refl bl_alloc bl_drew bl_drewN
set_option maxHeartbeats 8000000 in
set_option maxRecDepth 100000 in
theorem writes77 (A1 A2 : Option Addr) (c1 c2 : Nat) (L : List Wr) (w : World) (h1 : Kd.C kWr w A1 L.length L) (h2 : Kd.C kWr w A2 L.length L) :
    Calls Try.prog 77 #[.slice A1 L.length c1, .slice A2 L.length c2] w fun e w' => e = .returned (.bool true) ∧ Below w.heap.size w w' := by
  have hm : L.length ≤ 9223372036854775807 := h1.2.1
  have HC1 := Lib.hid h1
  have HC2 := Lib.hid h2
  clear h1 h2
  go_enter Try.func77, Try.ntmps77
  go_wp2
  go_loopg [5] L.length (fun gg s5 wr => ∃ kk : Nat, kk ≤ L.length ∧ L.length - kk ≤ gg ∧ s5 = .int .i64 kk ∧ Hid (Below w.heap.size w wr))
  case atStart => exact ⟨0, Nat.zero_le _, by omega, rfl, Below.refl _ _⟩
  case round =>
    obtain ⟨kk, hkk, hg, rfl, HB⟩ := hrel
    by_cases hlt : kk < L.length
    · have hltz : (kk : Int) < (L.length : Int) := by omega
      have hk0 : (0 : Int) ≤ (kk : Int) := by omega
      obtain ⟨x, hx⟩ : ∃ x, L[kk]! = x := ⟨_, rfl⟩
      obtain ⟨ad, rfl, x0, x1, x2⟩ := Wr.at (Kd.C_below HC1.out HB.out) kk hlt
      obtain ⟨bd, rfl, y0, y1, y2⟩ := Wr.at (Kd.C_below HC2.out HB.out) kk hlt
      rw [hx] at x0 x1 x2 y0 y1 y2
      have p0 := cell_rule x0
      have q0 := cell_rule y0
      have p1 := cell_rule x1
      have q1 := cell_rule y1
      have p2 := cell_rule x2
      have q2 := cell_rule y2
      have Br := bl_refl wr
      clear hx x0 x1 x2 y0 y1 y2
      go_wp2
      go_big_region
      go_wp2
      go_roundg (L.length - (kk + 1))
      case measure => omega
      case rel => exact ⟨kk + 1, by omega, by omega, by go_num, bl_drewB HB.out⟩
    · have hltz : ¬ (kk : Int) < (L.length : Int) := by omega
      go_wp2
      go_ret
      exact ⟨rfl, HB.out⟩
set_option maxHeartbeats 8000000 in
set_option maxRecDepth 100000 in
theorem same33 (A1 A2 : Option Addr) (c1 c2 : Nat) (b : Bt) (w : World) (h1 : Kd.C kWr w A1 b.ws.length b.ws) (h2 : Kd.C kWr w A2 b.ws.length b.ws) :
    Calls Try.prog 33 #[.agg #[.int .i64 b.kind, .string b.tok, .slice A1 b.ws.length c1], .agg #[.int .i64 b.kind, .string b.tok, .slice A2 b.ws.length c2]] w fun e w' => e = .returned (.bool true) ∧ Below w.heap.size w w' := by
  obtain ⟨W, hW, K1, K2, HW, hs⟩ := boxes2 w #[.int .i64 b.kind, .string b.tok, .slice A1 b.ws.length c1] 50 #[.int .i64 b.kind, .string b.tok, .slice A2 b.ws.length c2] 50
  have H1 := Lib.hid (Kd.C_below h1 HW)
  have H2 := Lib.hid (Kd.C_below h2 HW)
  have HK1 := Lib.hid K1
  have HK2 := Lib.hid K2
  have HWB := Lib.hid HW
  have HWW := Lib.hid hW
  clear h1 h2 hW K1 K2 HW hs
  go_enter Try.func33, Try.ntmps33
  go_wp2_with fail
  rw [HWW.out]
  refine (writes77 A1 A2 c1 c2 b.ws W H1.out H2.out).mono ?_
  rintro e w1 ⟨rfl, hb⟩
  have r1 := blk_cells (blk_below HK1.out hb)
  have r2 := blk_cells (blk_below HK2.out hb)
  have B1 := bl_refl w1
  have HB := Lib.hid (bl_trans HWB.out hb)
  clear hb
  go_wp2
  go_ret
  exact ⟨rfl, HB.out⟩
end Go.Proofs.Ytkcebmamohimoaa
