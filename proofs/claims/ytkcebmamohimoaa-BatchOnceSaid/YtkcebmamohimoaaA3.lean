/- The reference's alarms: swap, Put. -/
import Derived.Test.YtkcebmamohimoaaA2
import Derived.IntWalk
namespace Go.Proofs.Ytkcebmamohimoaa
open Go.RowKit Go.Proofs.YtkcebmamohimoaaW.PrintWords
set_option linter.unusedVariables false
set_option linter.unusedSimpArgs false
attribute [local go_sem] bl_refl bl_alloc bl_drew bl_drewN bl_setr World.cell?_setCell_far
theorem aswap_length (h : List Alm) (i k : Nat) : (aswap h i k).length = h.length := by unfold aswap; simp
set_option maxHeartbeats 4000000 in
set_option maxRecDepth 100000 in
theorem swap194 (A : Option Addr) (c : Nat) (L : List Alm) (i k : Nat) (w : World) (h : Kd.C kAlm w A L.length L) (hc : L.length ≤ c) (hi : i < L.length) (hk : k < L.length) (hik : k ≠ i) (hsm : L.length ≤ 100001) :
    Calls Try.prog 194 #[.slice A L.length c, .int .i64 i, .int .i64 k] w fun e w' => ∃ v, e = .returned v ∧ Kd.R kAlm 175 w' w.heap.size (fun _ => True) v (aswap L i k) ∧ Below w.heap.size w w' := by
  obtain ⟨x, hx⟩ : ∃ x, L[i]! = x := ⟨_, rfl⟩
  obtain ⟨y, hy⟩ : ∃ y, L[k]! = y := ⟨_, rfl⟩
  obtain ⟨ad, rfl, a0, a1⟩ := Alm.at h i hi
  obtain ⟨ad', e, b0, b1⟩ := Alm.at h k hk
  obtain rfl : ad = ad' := by injection e
  rw [hx] at a0 a1
  rw [hy] at b0 b1
  have la : (ad.add (i * 2)).block < w.heap.size := World.block_lt_of_cell? w _ a0
  have lb : (ad.add (k * 2)).block < w.heap.size := World.block_lt_of_cell? w _ b0
  have x0 := cell_rule a0
  have x1 := cell_rule a1
  have y0 := cell_rule b0
  have y1 := cell_rule b1
  have HC := Lib.hid h
  have HX := Lib.hid hx
  have HY := Lib.hid hy
  clear h hx hy a0 a1 b0 b1 e hc
  have i0 : (0 : Int) ≤ (i : Int) := by omega
  have i1 : (i : Int) < (L.length : Int) := by omega
  have k0 : (0 : Int) ≤ (k : Int) := by omega
  have k1 : (k : Int) < (L.length : Int) := by omega
  have hl0 : ¬ L.length = 0 := by omega
  go_enter Try.func194, Try.ntmps194
  go_wp2_with (first | ((with_reducible refine gate_dst (N := 8) rfl ?_); refine Kd.R_lit kAlm w.heap.size 175 ?hg (N := 8) ?hd (xs := ([] : List Alm)) (inner := []) (ok := fun _ => True) (okp := fun _ => True) ?hr ?hp (fun _ hk => hk) trivial (Below.refl _ _) (Nat.le_refl _) (by simp) ?_; (case hd => rfl); (case hg => rfl); (case hr => first | (go_simp; done) | (go_simp; rfl)); (case hp => exact (Reps.none _ _)); intro v1 w1 ho1 hb1 hg_ hnew_; have HO1 := Lib.hid ho1; have B1 : Below w.heap.size w w1 := hb1; clear ho1 hb1 hg_ hnew_) | ((with_reducible refine g_bi (b := .append) (xs := #[.tmp 8, .tmp 9]) rfl ?_); at_builtin; refine flat_app (f := Alm.cells) (w0 := w) w.heap.size rfl (.tmp 8) (.tmp 9) 23 175 _ 16 rfl Try.underlying23 info175 rfl (by decide) (by omega) v1 ([] : List Alm) L (some ad) L.length c rfl rfl (by omega) HO1.out (Kd.C_below HC.out B1) B1 B1.size (by simp; omega) ?_; intro g cap w2 hR2 hb2 hge2 hat2 hg2 hlt2; have B2 : Below w.heap.size w w2 := hb2; simp only [List.nil_append, List.length_nil, Nat.zero_add] at hR2; have zg := R_frz hR2; have ci := (flat_own hR2 i hi).1; have ck := (flat_own hR2 k hk).1; rw [HX.out] at ci; rw [HY.out] at ck; have m0 := ci 0 _ rfl; have m1 := ci 1 _ rfl; have n0 := ck 0 _ rfl; have n1 := ck 1 _ rfl; simp only [Nat.add_zero] at m0 n0; have B22 := bl_refl w2; have niu : i * 2 ≠ k * 2 := (by omega); have nga : g ≠ (ad.add (i * 2)).block := (by omega); have ngb : g ≠ (ad.add (k * 2)).block := (by omega); have HR2 := Lib.hid hR2; clear hR2 hb2 hat2 hg2 hlt2 ci ck))
  go_ret
  have e : aswap L i k = (L.set i y).set k x := by unfold aswap; rw [HX.out, HY.out]
  rw [e]
  exact ⟨_, rfl, alm_store (alm_store HR2.out i hi y) k (by simp; omega) x, bl_set (bl_set (bl_set (bl_set B2 hge2) hge2) hge2) hge2⟩
set_option maxHeartbeats 8000000 in
set_option maxRecDepth 100000 in
theorem put151 (A : Option Addr) (c : Nat) (L : List Alm) (a : Alm) (w : World) (h : Kd.C kAlm w A L.length L) (hc : L.length ≤ c) (hsm : L.length ≤ 100000) :
    Calls Try.prog 151 #[.slice A L.length c, .agg #[.int .u64 a.due, .int .i64 a.id]] w fun e w' => ∃ v, e = .returned v ∧ Kd.R kAlm 175 w' w.heap.size (fun _ => True) v (aPut L a) ∧ Below w.heap.size w w' := by
  have HC := Lib.hid h
  clear h hc
  obtain ⟨W, hW, K1, HW, hs⟩ := boxes1 w #[.int .u64 a.due, .int .i64 a.id] 175
  have r1 := blk_cells K1
  have HK1 := Lib.hid K1
  have HWS := Lib.hid hs
  have HWB := Lib.hid HW
  clear K1 HW hs
  go_enter Try.func151, Try.ntmps151
  go_wp2_with ((with_reducible refine gate_dst (N := 7) rfl ?_); refine Stop.go ?_)
  refine ⟨lit0 kAlm (w0 := w) w.heap.size 175 rfl (by go_simp) HWB.out HWB.out.size ?_⟩
  rintro g w1 hR1 rfl B1 B2
  have K11 := blk_below HK1.out B2
  have HR1 := Lib.hid hR1
  have HB1 := Lib.hid B1
  clear hR1 hW r1
  go_wp2_with ((with_reducible refine gate_dst (N := 9) rfl ?_); refine Stop.go ?_)
  have HBB := B2
  have e1 := HWS.out
  have e2 := B2.size
  refine ⟨flat_app0 (f := Alm.cells) (w0 := w) w.heap.size rfl (.tmp 7) (.tmp 8) 23 175 _ 16 rfl Try.underlying23 info175 rfl (by decide) (by omega) _ ([] : List Alm) L A L.length c rfl rfl HR1.out (Kd.C_below HC.out HB1.out) HB1.out HB1.out.size (by simp; omega) ?_⟩
  intro v2 w2 hR2 hb2 hk2 hg2
  rw [List.nil_append] at hR2
  have K12 := blk_grown K11 hg2 (by intro h; injection h with h; have h : w.heap.size = W.heap.size := h; omega)
  have k2 := blk_cells K12
  have B22 := bl_refl w2
  have HR2 := Lib.hid hR2
  have HN2 := Lib.hid (show ∀ k, v2.ownBlock = some k → w.heap.size + 1 ≤ k from fun k hk => by rcases hk2 k hk with h | h; (injection h with h; have h : W.heap.size = k := h; omega); omega)
  have HB2 := Lib.hid hb2
  have HK2 := Lib.hid K12
  clear hR2 hb2 hk2 hg2 K12 K11 B2 B1 HBB e1 e2
  go_wp2_with ((with_reducible refine gate_dst (N := 13) rfl ?_); refine Stop.go ?_)
  refine ⟨flat_app (f := Alm.cells) (w0 := w) w.heap.size rfl (.tmp 10) (.tmp 12) 23 175 _ 16 rfl Try.underlying23 info175 rfl (by decide) (by omega) v2 L [a] (some ⟨w2.heap.size, 0, none⟩) 1 1 rfl rfl (by omega) (Kd.R_alloc HR2.out _) (C_one a (blk_new w2 _)) (HB2.out.alloc HB2.out.size _) (by have := HB2.out.size; simp; omega) (by omega) ?_⟩
  intro g cap w3 hR3 hb3 hge3 hat3 hg3 hlt3
  have HR3 := Lib.hid hR3
  have HB3 := Lib.hid hb3
  have hn1 : (0 : Int) < (L.length : Int) + 1 := by omega
  clear hR3 hb3 hge3 hat3 hg3 hlt3 k2 B22
  go_wp2
  go_loopg [5, 6] (L.length + 1) (fun gg s5 s6 wr => ∃ (i g cap : Nat) (M : List Alm), i < L.length + 1 ∧ i ≤ gg ∧ s5 = .slice (some ⟨g, 0, none⟩) (L.length + 1) cap ∧ s6 = .int .i64 i ∧ Hid (Kd.R kAlm 175 wr w.heap.size (fun _ => True) (.slice (some ⟨g, 0, none⟩) (L.length + 1) cap) M) ∧ Hid (M.length = L.length + 1) ∧ Hid (aUp M i = aPut L a) ∧ Hid (Below w.heap.size w wr))
  case atStart => exact ⟨L.length, g, cap, L ++ [a], by omega, by omega, rfl, by first | rfl | (simp; done) | go_num, HR3.out, (by show (L ++ [a]).length = _; simp), rfl, HB3.out⟩
  case round =>
    obtain ⟨i, g, cap, M, hi, hgi, rfl, rfl, HR, HM, HU, HB⟩ := hrel
    by_cases h0 : i = 0
    · subst h0
      go_wp2
      go_big_region
      go_wp2
      go_ret
      exact ⟨_, rfl, by have := HU.out; unfold aUp at this; simp only [if_true] at this; rw [← this]; exact Kd.R_drew HR.out, bl_drewB HB.out⟩
    · obtain ⟨u, hu⟩ : ∃ u, (i - 1) / 2 = u := ⟨_, rfl⟩
      have hul : u < i := by omega
      have hiM : i < M.length := by have := HM.out; omega
      obtain ⟨x, hx⟩ : ∃ x, M[i]! = x := ⟨_, rfl⟩
      obtain ⟨y, hy⟩ : ∃ y, M[u]! = y := ⟨_, rfl⟩
      obtain ⟨ci, fi⟩ := flat_own HR.out i hiM
      obtain ⟨cu, fu⟩ := flat_own HR.out u (by omega)
      rw [hx] at ci
      rw [hy] at cu
      have x0 := cell_rule (ci 0 _ rfl)
      have x1 := cell_rule (ci 1 _ rfl)
      have y0 := cell_rule (cu 0 _ rfl)
      have y1 := cell_rule (cu 1 _ rfl)
      simp only [Nat.add_zero] at x0 y0
      have HX := Lib.hid hx
      have HY := Lib.hid hy
      have HUU := Lib.hid hu
      have hI : ((i : Int) - 1) / 2 = (u : Int) := by omega
      have i0 : (0 : Int) < (i : Int) := by omega
      have i00 : decide (0 < i) = true := decide_eq_true (by omega)
      have i1 : (i : Int) < (L.length : Int) + 1 := by omega
      have u1 : (u : Int) < (L.length : Int) + 1 := by omega
      have Br := bl_refl wr
      have hw1 : IntKind.i64.wrap ((i : Int) - 1) = (i : Int) - 1 := IntWalk.i64_in _ (by omega)
      have hw2 : ((i : Int) - 1).tdiv 2 = (u : Int) := by rw [Int.tdiv_eq_ediv_of_nonneg (by omega)]; omega
      have hw3 : IntKind.i64.wrap (u : Int) = (u : Int) := IntWalk.i64_in _ (by omega)
      clear ci fi cu fu hx hy hu
      cases hq : aless x y with
      | false =>
        have HQ := Lib.hid hq
        have hl := less193 x y
        rw [hq] at hl
        have HLS := Lib.hid hl
        clear hq hl
        go_wp2
        go_region_held3 (fun W' => W'.cell? ⟨g, i * 2, none⟩ = some (.int .u64 x.due) ∧ W'.cell? ⟨g, i * 2 + 1, none⟩ = some (.int .i64 x.id) ∧ W'.cell? ⟨g, u * 2, none⟩ = some (.int .u64 y.due) ∧ W'.cell? ⟨g, u * 2 + 1, none⟩ = some (.int .i64 y.id)) (simp [*, bl_refl, bl_drew, bl_drewN, bl_alloc]) (first | (go_at_call 193; refine (HLS.out _).mono ?_; rintro e w3 ⟨rfl, hb⟩; have B3 : Below wr.heap.size wr w3 := bl_trans (bl_drew (bl_refl _)) hb; clear hb))
        go_wp2
        go_ret
        exact ⟨_, rfl, by have := HU.out; unfold aUp at this; rw [if_neg h0] at this; simp only [HUU.out, HX.out, HY.out, HQ.out] at this; rw [if_neg (by simp)] at this; rw [← this]; exact Kd.R_below HR.out B3, bl_trans HB.out B3⟩
      | true =>
        have HQ := Lib.hid hq
        have hl := less193 x y
        rw [hq] at hl
        have HLS := Lib.hid hl
        clear hq hl
        go_wp2
        go_region_held3 (fun W' => W'.cell? ⟨g, i * 2, none⟩ = some (.int .u64 x.due) ∧ W'.cell? ⟨g, i * 2 + 1, none⟩ = some (.int .i64 x.id) ∧ W'.cell? ⟨g, u * 2, none⟩ = some (.int .u64 y.due) ∧ W'.cell? ⟨g, u * 2 + 1, none⟩ = some (.int .i64 y.id)) (simp [*, bl_refl, bl_drew, bl_drewN, bl_alloc]) (first | (go_at_call 193; refine (HLS.out _).mono ?_; rintro e w3 ⟨rfl, hb⟩; have B3 : Below wr.heap.size wr w3 := bl_trans (bl_drew (bl_refl _)) hb; clear hb))
        have hsw := swap194 (some ⟨g, 0, none⟩) cap M i u w3 (by have := (Kd.R_reads' (Kd.R_below HR.out B3)).2.2; exact this) (by have := Kd.R_reads' HR.out; omega) hiM (by omega) (Nat.ne_of_lt hul) (by have := HM.out; omega)
        rw [HM.out] at hsw
        have HSW := Lib.hid (hsw)
        clear hsw
        go_wp2_with fail
        refine HSW.out.mono ?_
        rintro e w4 ⟨v4, rfl, hR4, hb4⟩
        obtain ⟨g4, cap4, rfl, hge4, _, _⟩ := Kd.R_form hR4 (by rw [aswap_length]; omega)
        rw [aswap_length, HM.out] at hR4 ⊢
        have HR4 := Lib.hid (Kd.R_lower hR4 (bl_trans HB.out B3).size)
        have HB4 := Lib.hid (bl_trans (bl_trans HB.out B3) hb4)
        clear hR4 hb4
        go_wp2
        go_roundg u
        case measure => omega
        case rel =>
          refine ⟨u, g4, cap4, aswap M i u, by omega, by omega, ?_, by first | rfl | go_num, ?_, (show (aswap M i u).length = L.length + 1 by rw [aswap_length]; exact HM.out), (show aUp (aswap M i u) u = aPut L a by have := HU.out; unfold aUp at this; rw [if_neg h0] at this; simp only [HUU.out, HX.out, HY.out, HQ.out, if_true] at this; exact this), HB4.out⟩
          · rfl
          · exact HR4.out
end Go.Proofs.Ytkcebmamohimoaa
