/- Alarms: the first one taken out. -/
import Derived.Test.YtkcebmamohimoaaA5
namespace Go.Proofs.Ytkcebmamohimoaa
open Go.RowKit Go.Proofs.YtkcebmamohimoaaW.PrintWords
set_option linter.unusedVariables false
set_option linter.unusedSimpArgs false
attribute [local go_sem] bl_refl bl_alloc bl_drew bl_drewN
def aRest (h : List Alm) : List Alm := aSink (h.length - 1) ((h.set 0 h[h.length - 1]!).take (h.length - 1)) 0
theorem add_zero_ (a : Addr) : a.add 0 = a := by cases a; unfold Addr.add; split <;> simp_all
set_option maxHeartbeats 16000000 in
set_option maxRecDepth 100000 in
theorem pop162 (A : Option Addr) (c : Nat) (L : List Alm) (w : World) (h : Kd.C kAlm w A L.length L) (hc : L.length ≤ c) (hsm : L.length ≤ 1000) (h0 : 0 < L.length) :
    Calls Try.prog 162 #[.slice A L.length c] w fun e w' => ∃ g cap, e = .returned (.tuple #[.slice (some ⟨g, 0, none⟩) (L.length - 1) cap, .agg #[.int .u64 L[0]!.due, .int .i64 L[0]!.id], .bool true]) ∧ Kd.R kAlm 175 w' w.heap.size (fun _ => True) (.slice (some ⟨g, 0, none⟩) (L.length - 1) cap) (aRest L) ∧ Below w.heap.size w w' := by
  obtain ⟨x, hx⟩ : ∃ x, L[0]! = x := ⟨_, rfl⟩
  rw [hx]
  obtain ⟨ad, rfl, x0, x1⟩ := Alm.at h 0 h0
  rw [hx] at x0 x1
  have y0 := cell_rule x0
  have y1 := cell_rule x1
  obtain ⟨W, hW, K1, K2, HW, hs⟩ := boxes2 w #[.int .u64 0, .int .i64 0] 175 #[.int .u64 x.due, .int .i64 x.id] 175
  have HC := Lib.hid (Kd.C_below h HW)
  have r1 := blk_cells K1
  have z1 := blk_frz K1
  have r2 := blk_cells K2
  have HWB := Lib.hid HW
  have HS := Lib.hid hs
  have HL := Lib.hid hc
  have HSM := Lib.hid hsm
  have B0 : Below W.heap.size W W := bl_refl W
  have Bw := bl_refl w
  obtain ⟨m, hm⟩ : ∃ m, L.length = m + 1 := ⟨L.length - 1, by omega⟩
  have hm0 : ((L.length : Int) == 0) = false := by rw [beq_eq_false_iff_ne]; omega
  have hm1 : IntKind.i64.wrap ((L.length : Int) - 1) = (m : Int) := by rw [IntWalk.i64_in _ (by omega)]; omega
  have hz0 : (0 : Int) < (L.length : Int) := by omega
  have hl0 : ¬ L.length = 0 := by omega
  have HM := Lib.hid hm
  have HXX := Lib.hid hx
  simp only [Nat.zero_mul, add_zero_] at y0 y1
  clear h hx HW K1 K2 hs hc hsm h0 x0 x1 hm
  go_enter Try.func162, Try.ntmps162
  go_wp2_with fail
  clear hW
  refine (clone191 (some ad) c L W HC.out HL.out (by have := HSM.out; omega)).mono ?_
  rintro e w1 ⟨v1, rfl, hR1, hb⟩
  obtain ⟨g, cap, rfl, hge, hlt_, _⟩ := Kd.R_form hR1 (by omega)
  have B1 : Below W.heap.size W w1 := hb
  have hs1 := HS.out
  have hm := HM.out
  obtain ⟨z, hz⟩ : ∃ z, L[m]! = z := ⟨_, rfl⟩
  obtain ⟨cm, _⟩ := flat_own hR1 m (by omega)
  obtain ⟨c0, f0⟩ := flat_own hR1 0 (by omega)
  rw [hz] at cm
  rw [HXX.out] at c0
  have p0 := cm 0 _ rfl
  have p1 := cm 1 _ rfl
  have q0 := c0 0 _ rfl
  have q1 := c0 1 _ rfl
  have e0 := f0 0
  have e1 := f0 1
  simp only [Nat.add_zero, Nat.zero_mul, Nat.zero_add] at p0 q0 q1 e0 e1
  have nb1 : w.heap.size ≠ g := by omega
  have nb2 : w.heap.size + 1 ≠ g := by omega
  have nb1' : g ≠ w.heap.size := by omega
  have nb2' : g ≠ w.heap.size + 1 := by omega
  have mz0 : (0 : Int) ≤ (m : Int) := by omega
  have mz1 : (m : Int) < (L.length : Int) := by omega
  have mz2 : (m : Int) ≤ (L.length : Int) := by omega
  have HZ := Lib.hid hz
  have HR1 := Lib.hid hR1
  have HGE := Lib.hid hge
  have HB1 := Lib.hid B1
  have hcap := (Kd.R_reads' hR1).2.1
  have mz3 : (m : Int) ≤ (cap : Int) := by omega
  have HCAP := Lib.hid hcap
  clear hb hge hlt_ hR1 hs1 cm c0 f0 hz hcap hm
  go_wp2_with fail
  have hm := HM.out
  have hR2 := Kd.R_take (alm_store HR1.out 0 (by omega) z) (m := m) (by rw [List.length_set]; omega)
  simp only [Nat.zero_mul, Nat.zero_add] at hR2
  have hlen : ((L.set 0 z).take m).length = m := by rw [List.length_take, List.length_set]; omega
  have hsk := sink197 W _ (bl_set (bl_set HB1.out HGE.out) HGE.out) g cap ((L.set 0 z).take m) (by rw [hlen]; exact hR2) (by have := HSM.out; omega)
  rw [hlen] at hsk
  refine hsk.mono ?_
  rintro e w3 ⟨rfl, hR3, hb3⟩
  have B3 : Below W.heap.size W w3 := hb3
  have HR3 := Lib.hid hR3
  have HBX := Lib.hid B3
  clear hb3 hR3 hsk hR2 hlen p0 p1 q0 q1 e0 e1 B1 hm
  go_wp2
  go_big_region
  go_wp2
  have hs1 := HS.out
  have hm := HM.out
  have hre : aRest L = aSink m ((L.set 0 z).take m) 0 := by unfold aRest; rw [show L.length - 1 = m by omega, HZ.out]
  refine bodyPost_ret (v := .tuple #[.slice (some ⟨g, 0, none⟩) m cap, .agg #[.int .u64 x.due, .int .i64 x.id], .bool true]) (by simp [results, Try.results162, go_sem, r1, z1, B3, World.cell?_setCell_far]) rfl ⟨g, cap, by rw [show L.length - 1 = m by omega], ?_, ?_⟩
  · rw [hre, show L.length - 1 = m by omega]
    refine Kd.R_lower (show Kd.R kAlm 175 _ W.heap.size (fun _ => True) _ _ from ?_) (by omega)
    refine Kd.R_drew ?_
    iterate 2 refine R_farB ?_ (by omega) _ _
    exact HR3.out
  · refine bl_drewB ?_
    iterate 2 refine bl_set ?_ (by omega)
    exact bl_trans HWB.out HBX.out
end Go.Proofs.Ytkcebmamohimoaa
