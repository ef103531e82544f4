/- alarm.Put: an alarm goes into its place. -/
import Derived.Test.YtkcebmamohimoaaA1
import Derived.BigRegion
namespace Go.Proofs.Ytkcebmamohimoaa
open Go.RowKit Go.Proofs.YtkcebmamohimoaaW.PrintWords
set_option linter.unusedVariables false
set_option linter.unusedSimpArgs false
attribute [local go_sem] bl_refl bl_alloc bl_drew bl_drewN
theorem bl_drewB {B : Nat} {a w : World} (h : Below B a w) : Below B a w.drew := h.drew
/-- Two places changed. -/
def aswap (h : List Alm) (i k : Nat) : List Alm := (h.set i h[k]!).set k h[i]!
/-- The alarm at place i goes up. -/
def aUp (h : List Alm) (i : Nat) : List Alm := if i = 0 then h else if aless h[i]! h[(i - 1) / 2]! then aUp (aswap h i ((i - 1) / 2)) ((i - 1) / 2) else h
termination_by i
decreasing_by omega
theorem alm_store {base g c m : Nat} {W : World} {M : List Alm} (h : Kd.R kAlm 175 W base (fun _ => True) (.slice (some ⟨g, 0, none⟩) m c) M) (i : Nat) (hi : i < M.length) (y : Alm) :
    Kd.R kAlm 175 ((W.setCell ⟨g, i * 2, none⟩ (.int .u64 y.due)).setCell ⟨g, i * 2 + 1, none⟩ (.int .i64 y.id)) base (fun _ => True) (.slice (some ⟨g, 0, none⟩) m c) (M.set i y) :=
  (flat_putm (flat_put1 h i hi 0 (by omega) (.int .u64 y.due) { M[i]! with due := y.due } rfl) hi 1 (by omega) (.int .i64 y.id) y rfl).1
def aPut (h : List Alm) (a : Alm) : List Alm := aUp (h ++ [a]) h.length
set_option maxHeartbeats 8000000 in
set_option maxRecDepth 100000 in
theorem put150 (A : Option Addr) (c : Nat) (L : List Alm) (a : Alm) (w : World) (h : Kd.C kAlm w A L.length L) (hc : L.length ≤ c) (hsm : L.length ≤ 100000) :
    Calls Try.prog 150 #[.slice A L.length c, .agg #[.int .u64 a.due, .int .i64 a.id]] w fun e w' => ∃ v, e = .returned v ∧ Kd.R kAlm 175 w' w.heap.size (fun _ => True) v (aPut L a) ∧ Below w.heap.size w w' := by
  have HC := Lib.hid h
  have HL := Lib.hid hc
  clear h hc
  obtain ⟨W, hW, K1, HW, hs⟩ := boxes1 w #[.int .u64 a.due, .int .i64 a.id] 175
  have r1 := blk_cells K1
  have HCW := Lib.hid (Kd.C_below HC.out HW)
  have B0 := bl_refl W
  have HK1 := Lib.hid K1
  go_enter Try.func150, Try.ntmps150
  go_wp2_with fail
  clear hW K1
  have HWB := Lib.hid HW
  have HWS := Lib.hid hs
  clear HW hs
  go_region_held3 (fun W' => W'.cell? ⟨w.heap.size, 0, none⟩ = some (.int .u64 a.due) ∧ W'.cell? ⟨w.heap.size, 1, none⟩ = some (.int .i64 a.id)) (first | (simp [*, bl_refl, bl_drew, bl_drewN, bl_alloc]; done)) (first | (go_at_call 191; refine (clone191 A c L _ (Kd.C_below HCW.out (by first | exact bl_drew (bl_refl _) | exact bl_alloc _ (bl_drew (bl_refl _)))) HL.out (by omega)).mono ?_; rintro e w1 ⟨v1, rfl, hR, hb⟩; have HV1 := Lib.hid (show ∀ k, v1.ownBlock = some k → w.heap.size + 1 ≤ k from fun k hk => by have := Kd.R_base hR k hk; have := HWS.out; simp at *; omega); have HR1 := Lib.hid (Kd.R_lower hR (show w.heap.size ≤ _ from by have := HWS.out; simp; omega)); have HX1 := Lib.hid hb; have B1 : Below W.heap.size W w1 := bl_trans (by first | exact bl_drew (bl_refl _) | exact bl_alloc _ (bl_drew (bl_refl _))) hb; clear hR hb) | (refine flat_app_step (f := Alm.cells) (w0 := w) w.heap.size (by rfl) (.tmp 8) (.tmp 10) 23 175 _ 16 (by rfl) Try.underlying23 info175 rfl (by decide) (by omega) v1 L [a] _ 1 1 (by rfl) (by rfl) (by omega) (Kd.R_alloc HR1.out _) (C_one a (blk_new w1 _)) ((bl_trans HWB.out B1).alloc (bl_trans HWB.out B1).size _) (by have := HWS.out; have := B1.size; simp; omega) (by omega) ?_; intro g cap w2 hR2 hb2 hge2 hat2 hg2 hlt2; have HR2 := Lib.hid hR2; have HB2 := Lib.hid hb2; have HGE2 := Lib.hid hge2; have HAT2 := Lib.hid hat2; have HG2 := Lib.hid hg2; have k2 := blk_cells (blk_grown (blk_alloc (blk_below HK1.out B1) _) hg2 (fun e => by have := HV1.out _ e.symm; omega)); have B2 := bl_refl w2; clear hR2 hb2 hge2 hat2 hg2 hlt2) | (refine flat_app_step (f := Alm.cells) (w0 := w) w.heap.size (by rfl) (.tmp 8) (.tmp 10) 23 175 _ 16 (by rfl) Try.underlying23 info175 rfl (by decide) (by omega) v1 L [a] (some ⟨W.heap.size, 0, none⟩) 1 1 (by rfl) (by rfl) (by omega) HR1.out (C_one (g := W.heap.size) (t := 175) a (blk_below (blk_new W.drew (.cells (Alm.cells a).toArray 175)) HX1.out)) (bl_trans HWB.out B1) (by have := HWS.out; have := B1.size; simp; omega) (by omega) ?_; intro g cap w2 hR2 hb2 hge2 hat2 hg2 hlt2; have HR2 := Lib.hid hR2; have HB2 := Lib.hid hb2; have HGE2 := Lib.hid hge2; have HAT2 := Lib.hid hat2; have HG2 := Lib.hid hg2; have k2 := blk_cells (blk_grown (blk_below HK1.out B1) hg2 (fun e => by have := HV1.out _ e.symm; omega)); have B2 := bl_refl w2; clear hR2 hb2 hge2 hat2 hg2 hlt2))
  all_goals
    clear r1 k2 B0 B1 B2 HX1 HR1 HV1 HK1 HCW HG2 HAT2 HGE2
    try clear hHeld
    have hn1 : (0 : Int) < (L.length : Int) + 1 := by omega
    go_wp2
    go_loopg [5] (L.length + 1) (fun gg s5 wr => ∃ (i : Nat) (M : List Alm), i < L.length + 1 ∧ i ≤ gg ∧ s5 = .int .i64 i ∧ Hid (Kd.R kAlm 175 wr w.heap.size (fun _ => True) (.slice (some ⟨g, 0, none⟩) (L.length + 1) cap) M) ∧ Hid (M.length = L.length + 1) ∧ Hid (aUp M i = aPut L a) ∧ Hid (Below w.heap.size w wr))
    case atStart => exact ⟨L.length, L ++ [a], by omega, by omega, by first | rfl | (simp; done) | go_num, HR2.out, (by show (L ++ [a]).length = _; simp), rfl, HB2.out⟩
    case round =>
      obtain ⟨i, M, hi, hgi, rfl, HR, HM, HU, HB⟩ := hrel
      by_cases h0 : i = 0
      · subst h0
        go_wp2
        go_ret
        exact ⟨_, rfl, by have := HU.out; unfold aUp at this; simp only [if_true] at this; rw [← this]; exact HR.out, HB.out⟩
      · obtain ⟨u, hu⟩ : ∃ u, (i - 1) / 2 = u := ⟨_, rfl⟩
        have hul : u < i := by omega
        have hiM : i < M.length := by have := HM.out; omega
        obtain ⟨x, hx⟩ : ∃ x, M[i]! = x := ⟨_, rfl⟩
        obtain ⟨y, hy⟩ : ∃ y, M[u]! = y := ⟨_, rfl⟩
        obtain ⟨ci, fi⟩ := flat_own HR.out i hiM
        obtain ⟨cu, fu⟩ := flat_own HR.out u (by omega)
        rw [hx] at ci
        rw [hy] at cu
        have x0 := cell_rule (ci 0 _ rfl)
        have x1 := cell_rule (ci 1 _ rfl)
        have y0 := cell_rule (cu 0 _ rfl)
        have y1 := cell_rule (cu 1 _ rfl)
        simp only [Nat.add_zero] at x0 y0
        have HX := Lib.hid hx
        have HY := Lib.hid hy
        have HUU := Lib.hid hu
        have hI : ((i : Int) - 1) / 2 = (u : Int) := by omega
        have i0 : (0 : Int) < (i : Int) := by omega
        have i1 : (i : Int) < (L.length : Int) + 1 := by omega
        have u1 : (u : Int) < (L.length : Int) + 1 := by omega
        have Br := bl_refl wr
        clear ci fi cu fu hx hy hu
        cases hq : aless x y with
        | false =>
          have HQ := Lib.hid hq
          have hl := less192 x y
          rw [hq] at hl
          have HLS := Lib.hid hl
          clear hq hl
          go_wp2
          go_region_held3 (fun W' => W'.cell? ⟨g, i * 2, none⟩ = some (.int .u64 x.due) ∧ W'.cell? ⟨g, i * 2 + 1, none⟩ = some (.int .i64 x.id) ∧ W'.cell? ⟨g, u * 2, none⟩ = some (.int .u64 y.due) ∧ W'.cell? ⟨g, u * 2 + 1, none⟩ = some (.int .i64 y.id)) (simp [*, bl_refl, bl_drew, bl_drewN, bl_alloc]) (first | (go_at_call 192; refine (HLS.out _).mono ?_; rintro e w3 ⟨rfl, hb⟩; have B3 : Below wr.heap.size wr w3 := bl_trans (bl_drew (bl_refl _)) hb; clear hb))
          go_wp2
          go_ret
          exact ⟨_, rfl, by have := HU.out; unfold aUp at this; rw [if_neg h0] at this; simp only [HUU.out, HX.out, HY.out, HQ.out] at this; rw [if_neg (by simp)] at this; rw [← this]; exact Kd.R_below HR.out B3, bl_trans HB.out B3⟩
        | true =>
          have HQ := Lib.hid hq
          have hl := less192 x y
          rw [hq] at hl
          have HLS := Lib.hid hl
          obtain ⟨cg, hcg⟩ := Kd.R_typed HR.out g rfl
          have zg := blk_frz hcg
          clear hcg
          have niu : i * 2 ≠ u * 2 := by omega
          clear hq hl
          go_wp2
          go_region_held3 (fun W' => W'.cell? ⟨g, i * 2, none⟩ = some (.int .u64 x.due) ∧ W'.cell? ⟨g, i * 2 + 1, none⟩ = some (.int .i64 x.id) ∧ W'.cell? ⟨g, u * 2, none⟩ = some (.int .u64 y.due) ∧ W'.cell? ⟨g, u * 2 + 1, none⟩ = some (.int .i64 y.id)) (simp [*, bl_refl, bl_drew, bl_drewN, bl_alloc]) (first | (go_at_call 192; refine (HLS.out _).mono ?_; rintro e w3 ⟨rfl, hb⟩; have B3 : Below wr.heap.size wr w3 := bl_trans (bl_drew (bl_refl _)) hb; clear hb))
          go_wp2
          go_big_region
          go_wp2
          go_roundg u
          case measure => omega
          case rel =>
            have e : aswap M i u = (M.set i y).set u x := by unfold aswap; rw [HX.out, HY.out]
            have hR := Kd.R_drew (alm_store (alm_store (Kd.R_below HR.out B3) i hiM y) u (by simp; omega) x)
            rw [← e] at hR
            refine ⟨u, aswap M i u, by omega, by omega, rfl, hR, (show (aswap M i u).length = L.length + 1 by unfold aswap; simp; exact HM.out), (show aUp (aswap M i u) u = aPut L a by have := HU.out; unfold aUp at this; rw [if_neg h0] at this; simp only [HUU.out, HX.out, HY.out, HQ.out, if_true] at this; exact this), ?_⟩
            have hge := Kd.R_base HR.out g rfl
            refine bl_drewB ?_
            repeat refine bl_set ?_ hge
            exact bl_trans HB.out B3
end Go.Proofs.Ytkcebmamohimoaa
