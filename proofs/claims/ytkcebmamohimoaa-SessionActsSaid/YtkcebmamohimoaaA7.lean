/- Alarms: the first one taken out, the reference's. -/
import Derived.Test.YtkcebmamohimoaaA6
namespace Go.Proofs.Ytkcebmamohimoaa
open Go.RowKit Go.Proofs.YtkcebmamohimoaaW.PrintWords
set_option linter.unusedVariables false
set_option linter.unusedSimpArgs false
attribute [local go_sem] bl_refl bl_alloc bl_drew bl_drewN
set_option maxHeartbeats 16000000 in
set_option maxRecDepth 100000 in
theorem pop163 (A : Option Addr) (c : Nat) (L : List Alm) (w : World) (h : Kd.C kAlm w A L.length L) (hc : L.length ≤ c) (hsm : L.length ≤ 1000) (h0 : 0 < L.length) :
    Calls Try.prog 163 #[.slice A L.length c] w fun e w' => ∃ v, e = .returned (.tuple #[v, .agg #[.int .u64 L[0]!.due, .int .i64 L[0]!.id], .bool true]) ∧ Kd.R kAlm 175 w' w.heap.size (fun _ => True) v (aRest L) ∧ Below w.heap.size w w' := by
  obtain ⟨x, hx⟩ : ∃ x, L[0]! = x := ⟨_, rfl⟩
  rw [hx]
  obtain ⟨m, hm⟩ : ∃ m, L.length = m + 1 := ⟨L.length - 1, by omega⟩
  obtain ⟨z, hz⟩ : ∃ z, L[m]! = z := ⟨_, rfl⟩
  obtain ⟨ad, rfl, x0, x1⟩ := Alm.at h 0 h0
  obtain ⟨ad', e', u0, u1⟩ := Alm.at h m (by omega)
  injection e' with e'
  subst e'
  rw [hx] at x0 x1
  rw [hz] at u0 u1
  have y0 := cell_rule x0
  have y1 := cell_rule x1
  have v0 := cell_rule u0
  have v1 := cell_rule u1
  obtain ⟨W, hW, K1, K2, HW, hs⟩ := boxes2 w #[.int .u64 0, .int .i64 0] 175 #[.int .u64 x.due, .int .i64 x.id] 175
  have HC := Lib.hid (Kd.C_below h HW)
  have r1 := blk_cells K1
  have z1 := blk_frz K1
  have r2 := blk_cells K2
  have HWB := Lib.hid HW
  have HS := Lib.hid hs
  have HL := Lib.hid hc
  have HSM := Lib.hid hsm
  have B0 : Below W.heap.size W W := bl_refl W
  have Bw := bl_refl w
  have BwW : Below w.heap.size w W := HW
  have hm0 : ((L.length : Int) == 0) = false := by rw [beq_eq_false_iff_ne]; omega
  have hm1 : IntKind.i64.wrap ((L.length : Int) - 1) = (m : Int) := by rw [IntWalk.i64_in _ (by omega)]; omega
  have hz0 : (0 : Int) < (L.length : Int) := by omega
  have hl0 : ¬ L.length = 0 := by omega
  have mz0 : (0 : Int) ≤ (m : Int) := by omega
  have mz1 : (m : Int) < (L.length : Int) := by omega
  have mz2 : (m : Int) ≤ (L.length : Int) := by omega
  have mz3 : (m : Int) ≤ (c : Int) := by omega
  have HM := Lib.hid hm
  have HXX := Lib.hid hx
  have HZ := Lib.hid hz
  simp only [Nat.zero_mul, add_zero_] at y0 y1
  clear h hx hz HW K1 K2 hs hc hsm h0 x0 x1 u0 u1 hm
  go_enter Try.func163, Try.ntmps163
  go_wp2_with ((with_reducible refine gate_dst (N := 17) rfl ?_); refine Stop.go ?_)
  clear hW
  refine ⟨lit0 kAlm (w0 := W) W.heap.size 175 rfl (by go_simp) B0 B0.size ?_⟩
  rintro g0 wa hR0 rfl hB0 _
  have Ba : Below W.heap.size W wa := hB0
  have HR0 := Lib.hid hR0
  clear hB0 hR0
  go_wp2_with ((with_reducible refine gate_dst (N := 23) rfl ?_); refine Stop.go ?_)
  have hlt : (L.take m).length = m := by have := HM.out; rw [List.length_take]; omega
  have hct := Kd.C_take (Kd.C_below HC.out Ba) (show m ≤ L.length by have := HM.out; omega)
  rw [hlt] at hct
  refine ⟨flat_app0 (f := Alm.cells) (w0 := W) W.heap.size rfl (.tmp 17) (.tmp 22) 23 175 _ 16 rfl Try.underlying23 info175 rfl (by decide) (by omega) _ ([] : List Alm) (L.take m) (some ad) m c rfl rfl HR0.out hct Ba Ba.size (by have := HSM.out; have := HM.out; simp; omega) ?_⟩
  intro v2 wb hR2 hb2 hk2_ hg2_
  rw [List.nil_append] at hR2
  have Bb : Below W.heap.size W wb := hb2
  obtain ⟨D, d, rfl⟩ := Kd.R_slice hR2
  rw [hlt] at hR2 ⊢
  have HR2 := Lib.hid hR2
  have HLT := Lib.hid hlt
  clear hb2 hk2_ hg2_ hR2 hct Ba hlt
  by_cases hmz : m = 0
  · have hmz1 : ((m : Int) == 0) = true := by simp [hmz]
    have HE := Lib.hid (show L.take m = aRest L by unfold aRest; have := HM.out; rw [show L.length - 1 = 0 by omega, hmz]; rfl)
    clear hmz
    go_wp2
    go_big_region
    go_wp2
    have hs1 := HS.out
    refine bodyPost_ret (v := .tuple #[.slice D m d, .agg #[.int .u64 x.due, .int .i64 x.id], .bool true]) (by simp [results, Try.results163, go_sem, r1, z1, Bb, World.cell?_setCell_far]) rfl ⟨_, rfl, ?_, ?_⟩
    · rw [← HE.out]
      refine Kd.R_lower (show Kd.R kAlm 175 _ W.heap.size (fun _ => True) _ _ from ?_) (by omega)
      refine Kd.R_drew ?_
      iterate 2 refine R_farB ?_ (by omega) _ _
      exact HR2.out
    · refine bl_drewB ?_
      iterate 2 refine bl_set ?_ (by omega)
      exact bl_trans HWB.out Bb
  have hm := HM.out
  obtain ⟨g, cap, he, hge, hlt_, _⟩ := Kd.R_form HR2.out (by rw [HLT.out]; omega)
  rw [HLT.out] at he
  injection he with e1 _ e3
  subst e1
  subst e3
  obtain ⟨c0, f0⟩ := flat_own HR2.out 0 (by rw [HLT.out]; omega)
  obtain ⟨q, hq⟩ : ∃ q, (L.take m)[0]! = q := ⟨_, rfl⟩
  rw [hq] at c0
  have q0 := c0 0 _ rfl
  have q1 := c0 1 _ rfl
  have e0 := f0 0
  have e1 := f0 1
  simp only [Nat.add_zero, Nat.zero_mul, Nat.zero_add] at q0 q1 e0 e1
  have hs1 := HS.out
  have nb1 : w.heap.size ≠ g := by omega
  have nb2 : w.heap.size + 1 ≠ g := by omega
  have nb1' : g ≠ w.heap.size := by omega
  have nb2' : g ≠ w.heap.size + 1 := by omega
  have hmz1 : ((m : Int) == 0) = false := by rw [beq_eq_false_iff_ne]; omega
  have mz4 : (0 : Int) < (m : Int) := by omega
  have Bwb : Below w.heap.size w wb := bl_trans HWB.out Bb
  have HGE := Lib.hid hge
  have hst := alm_store HR2.out 0 (by rw [HLT.out]; omega) z
  simp only [Nat.zero_mul, Nat.zero_add] at hst
  have HST := Lib.hid hst
  have HBC := Lib.hid (bl_set (bl_set Bb hge) hge : Below W.heap.size W ((wb.setCell ⟨g, 0, none⟩ (.int .u64 z.due)).setCell ⟨g, 1, none⟩ (.int .i64 z.id)))
  have HRE := Lib.hid (show aSink m ((L.take m).set 0 z) 0 = aRest L by unfold aRest; rw [show L.length - 1 = m by omega, HZ.out, List.take_set])
  have HMZ := Lib.hid hmz
  clear c0 f0 hq hge hlt_ hs1 hst hm hmz
  go_wp2
  go_loopg [6, 7] (m + 1) (fun gg s6 s7 wr => ∃ (i n g cap : Nat) (M : List Alm), i < m ∧ m - i ≤ n ∧ n < gg + 1 ∧ s6 = .slice (some ⟨g, 0, none⟩) m cap ∧ s7 = .int .i64 i ∧ Hid (Kd.R kAlm 175 wr W.heap.size (fun _ => True) (.slice (some ⟨g, 0, none⟩) m cap) M) ∧ Hid (M.length = m) ∧ Hid (aSink n M i = aRest L) ∧ Hid (Below W.heap.size W wr))
  case atStart => exact ⟨0, m, g, d, (L.take m).set 0 z, by have := HMZ.out; omega, by omega, by omega, rfl, rfl, HST.out, (by show ((L.take m).set 0 z).length = m; rw [List.length_set]; exact HLT.out), HRE.out, HBC.out⟩
  case round =>
    obtain ⟨i, n, g, cap, M, hi, hn, hgn, rfl, rfl, HRM, HML, HS1, HBM⟩ := hrel
    have Bm : Below W.heap.size W wr := HBM.out
    clear HST HBC HRE HR2 HR0 y0 y1 v0 v1 q0 q1 e0 e1 nb1 nb2 nb1' nb2' Bb Bwb B0 Bw BwW
    have hmm := HM.out
    have hsm := HSM.out
    have hm1' : IntKind.i64.wrap (2 * (i : Int)) = 2 * (i : Int) := IntWalk.i64_in _ (by omega)
    obtain ⟨k1, hk1⟩ : ∃ k1 : Nat, 2 * i + 1 = k1 := ⟨_, rfl⟩
    obtain ⟨k2, hk2⟩ : ∃ k2 : Nat, 2 * i + 2 = k2 := ⟨_, rfl⟩
    have hm2 : IntKind.i64.wrap (2 * (i : Int) + 1) = (k1 : Int) := by rw [IntWalk.i64_in _ (by omega)]; omega
    have hm3 : IntKind.i64.wrap (2 * (i : Int) + 2) = (k2 : Int) := by rw [IntWalk.i64_in _ (by omega)]; omega
    have HK12 := Lib.hid (show 2 * i + 1 = k1 ∧ 2 * i + 2 = k2 from ⟨hk1, hk2⟩)
    have iz0 : (0 : Int) ≤ (i : Int) := by omega
    have iz1 : (i : Int) < (m : Int) := by omega
    have HI := Lib.hid hi
    clear hk1 hk2 hmm hsm hi
    go_wp2
    obtain ⟨ai, hai⟩ : ∃ ai, M[i]! = ai := ⟨_, rfl⟩
    obtain ⟨cai, _⟩ := flat_own HRM.out i (by have := HML.out; omega)
    rw [hai] at cai
    have ai0 := cell_rule (cai 0 _ rfl)
    have ai1 := cell_rule (cai 1 _ rfl)
    simp only [Nat.add_zero] at ai0
    have Hai := Lib.hid hai
    clear cai hai
    have Br := bl_refl wr
    have hi := HI.out
    have hk12 := HK12.out
    have ne1 : ((k1 : Int) == (i : Int)) = false := by rw [beq_eq_false_iff_ne]; omega
    have ne2 : ((k2 : Int) == (i : Int)) = false := by rw [beq_eq_false_iff_ne]; omega
    clear hk12
    by_cases hk1 : k1 < m
    · obtain ⟨a1, ha1⟩ : ∃ a1, M[k1]! = a1 := ⟨_, rfl⟩
      obtain ⟨ca1, _⟩ := flat_own HRM.out k1 (by have := HML.out; omega)
      rw [ha1] at ca1
      have a10 := cell_rule (ca1 0 _ rfl)
      have a11 := cell_rule (ca1 1 _ rfl)
      simp only [Nat.add_zero] at a10
      have Ha1 := Lib.hid ha1
      clear ca1 ha1
      have kz1 : (k1 : Int) < (m : Int) := by omega
      have kn1 : (0 : Int) ≤ (k1 : Int) := by omega
      have kd1 : decide (k1 < m) = true := decide_eq_true hk1
      have HPK1 := Lib.hid (show aPick M i k1 = if aless a1 ai = true then k1 else i by unfold aPick; rw [if_pos (by have := HML.out; omega), Ha1.out, Hai.out])
      have hl1 := less193 a1 ai
      cases hq1 : aless a1 ai with
      | true =>
        rw [hq1] at hl1
        have HLS1 := Lib.hid hl1
        have HN1 := Lib.hid (show aPick M i k1 = k1 by rw [HPK1.out, hq1]; rfl)
        clear hl1 hq1 HPK1
        go_wp2
        go_region_held3 (fun W' => W'.cell? ⟨g, k1 * 2, none⟩ = some (.int .u64 a1.due) ∧ W'.cell? ⟨g, k1 * 2 + 1, none⟩ = some (.int .i64 a1.id) ∧ W'.cell? ⟨g, i * 2, none⟩ = some (.int .u64 ai.due) ∧ W'.cell? ⟨g, i * 2 + 1, none⟩ = some (.int .i64 ai.id)) (simp [*, bl_refl, bl_drew, bl_drewN, bl_alloc]) (first | (go_at_call 193; refine (HLS1.out _).mono ?_; rintro e w3 ⟨rfl, hb⟩; have B3 : Below wr.heap.size wr w3 := bl_trans (bl_drew (bl_refl _)) hb; clear hb))
        go_wp2
        by_cases hk2 : k2 < m
        · obtain ⟨a2, ha2⟩ : ∃ a2, M[k2]! = a2 := ⟨_, rfl⟩
          obtain ⟨ca2, _⟩ := flat_own HRM.out k2 (by have := HML.out; omega)
          rw [ha2] at ca2
          have a20 := cell_rule (ca2 0 _ rfl)
          have a21 := cell_rule (ca2 1 _ rfl)
          simp only [Nat.add_zero] at a20
          have Ha2 := Lib.hid ha2
          clear ca2 ha2
          have kz2 : (k2 : Int) < (m : Int) := by omega
          have kn2 : (0 : Int) ≤ (k2 : Int) := by omega
          have kd2 : decide (k2 < m) = true := decide_eq_true hk2
          have HPK2 := Lib.hid (show aPick M k1 k2 = if aless a2 a1 = true then k2 else k1 by unfold aPick; rw [if_pos (by have := HML.out; omega), Ha2.out, Ha1.out])
          have hl2 := less193 a2 a1
          cases hq2 : aless a2 a1 with
          | true =>
            rw [hq2] at hl2
            have HLS2 := Lib.hid hl2
            have HN2 := Lib.hid (show aPick M k1 k2 = k2 by rw [HPK2.out, hq2]; rfl)
            clear hl2 hq2 HPK2
            go_wp2
            go_region_held3 (fun W' => W'.cell? ⟨g, k2 * 2, none⟩ = some (.int .u64 a2.due) ∧ W'.cell? ⟨g, k2 * 2 + 1, none⟩ = some (.int .i64 a2.id) ∧ W'.cell? ⟨g, k1 * 2, none⟩ = some (.int .u64 a1.due) ∧ W'.cell? ⟨g, k1 * 2 + 1, none⟩ = some (.int .i64 a1.id)) (simp [*, bl_refl, bl_drew, bl_drewN, bl_alloc]) (first | (go_at_call 193; refine (HLS2.out _).mono ?_; rintro e w4 ⟨rfl, hb⟩; have B4 : Below wr.heap.size wr w4 := bl_trans (by first | exact bl_drew B3 | exact bl_drew (bl_drew (bl_refl _))) hb; clear hb))
            go_wp2_with fail
            have hML := HML.out
            have hsmm := HSM.out
            have hmm := HM.out
            have hsw := swap194 (some ⟨g, 0, none⟩) cap M i k2 _ (Kd.R_reads' (Kd.R_below HRM.out (by first | exact B4 | exact bl_drew B3 | exact B3 | exact bl_drew (bl_refl _) | exact bl_drew (bl_drew (bl_refl _)) | exact bl_refl _))).2.2 (by have := Kd.R_reads' HRM.out; omega) (by omega) (by omega) (by have := HK12.out; omega) (by omega)
            rw [hML] at hsw
            refine hsw.mono ?_
            rintro e w9 ⟨v9, rfl, hR9, hb9⟩
            obtain ⟨g9, cap9, rfl, _, _, _⟩ := Kd.R_form hR9 (by rw [aswap_length]; omega)
            rw [aswap_length, hML] at hR9 ⊢
            have HR9 := Lib.hid (Kd.R_lower hR9 (bl_trans Bm (by first | exact B4 | exact bl_drew B3 | exact B3 | exact bl_drew (bl_refl _) | exact bl_drew (bl_drew (bl_refl _)) | exact bl_refl _) : Below W.heap.size W w4).size)
            have HB9 := Lib.hid (bl_trans (bl_trans Bm (by first | exact B4 | exact bl_drew B3 | exact B3 | exact bl_drew (bl_refl _) | exact bl_drew (bl_drew (bl_refl _)) | exact bl_refl _) : Below W.heap.size W w4) hb9)
            clear hb9 hR9 hsw hML hsmm hmm
            go_wp2
            go_roundg (n - 1)
            case measure => have := HK12.out; omega
            case rel =>
              have hk := HK12.out
              have hbest : aBest M i = k2 := by unfold aBest; rw [hk.1, hk.2, HN1.out, HN2.out]
              refine ⟨k2, n - 1, g9, cap9, aswap M i k2, by omega, by omega, by omega, rfl, rfl, HR9.out, (show (aswap M i k2).length = m by rw [aswap_length]; exact HML.out), ?_, HB9.out⟩
              show aSink (n - 1) (aswap M i k2) k2 = _
              rw [← HS1.out]
              obtain ⟨r, rfl⟩ : ∃ r, n = r + 1 := ⟨n - 1, by omega⟩
              rw [Nat.add_sub_cancel]
              conv => rhs; unfold aSink
              rw [if_neg (by rw [hbest]; omega), hbest]
          | false =>
            rw [hq2] at hl2
            have HLS2 := Lib.hid hl2
            have HN2 := Lib.hid (show aPick M k1 k2 = k1 by rw [HPK2.out, hq2]; rfl)
            clear hl2 hq2 HPK2
            go_wp2
            go_region_held3 (fun W' => W'.cell? ⟨g, k2 * 2, none⟩ = some (.int .u64 a2.due) ∧ W'.cell? ⟨g, k2 * 2 + 1, none⟩ = some (.int .i64 a2.id) ∧ W'.cell? ⟨g, k1 * 2, none⟩ = some (.int .u64 a1.due) ∧ W'.cell? ⟨g, k1 * 2 + 1, none⟩ = some (.int .i64 a1.id)) (simp [*, bl_refl, bl_drew, bl_drewN, bl_alloc]) (first | (go_at_call 193; refine (HLS2.out _).mono ?_; rintro e w4 ⟨rfl, hb⟩; have B4 : Below wr.heap.size wr w4 := bl_trans (by first | exact bl_drew B3 | exact bl_drew (bl_drew (bl_refl _))) hb; clear hb))
            go_wp2_with fail
            have hML := HML.out
            have hsmm := HSM.out
            have hmm := HM.out
            have hsw := swap194 (some ⟨g, 0, none⟩) cap M i k1 _ (Kd.R_reads' (Kd.R_below HRM.out (by first | exact B4 | exact bl_drew B3 | exact B3 | exact bl_drew (bl_refl _) | exact bl_drew (bl_drew (bl_refl _)) | exact bl_refl _))).2.2 (by have := Kd.R_reads' HRM.out; omega) (by omega) (by omega) (by have := HK12.out; omega) (by omega)
            rw [hML] at hsw
            refine hsw.mono ?_
            rintro e w9 ⟨v9, rfl, hR9, hb9⟩
            obtain ⟨g9, cap9, rfl, _, _, _⟩ := Kd.R_form hR9 (by rw [aswap_length]; omega)
            rw [aswap_length, hML] at hR9 ⊢
            have HR9 := Lib.hid (Kd.R_lower hR9 (bl_trans Bm (by first | exact B4 | exact bl_drew B3 | exact B3 | exact bl_drew (bl_refl _) | exact bl_drew (bl_drew (bl_refl _)) | exact bl_refl _) : Below W.heap.size W w4).size)
            have HB9 := Lib.hid (bl_trans (bl_trans Bm (by first | exact B4 | exact bl_drew B3 | exact B3 | exact bl_drew (bl_refl _) | exact bl_drew (bl_drew (bl_refl _)) | exact bl_refl _) : Below W.heap.size W w4) hb9)
            clear hb9 hR9 hsw hML hsmm hmm
            go_wp2
            go_roundg (n - 1)
            case measure => have := HK12.out; omega
            case rel =>
              have hk := HK12.out
              have hbest : aBest M i = k1 := by unfold aBest; rw [hk.1, hk.2, HN1.out, HN2.out]
              refine ⟨k1, n - 1, g9, cap9, aswap M i k1, by omega, by omega, by omega, rfl, rfl, HR9.out, (show (aswap M i k1).length = m by rw [aswap_length]; exact HML.out), ?_, HB9.out⟩
              show aSink (n - 1) (aswap M i k1) k1 = _
              rw [← HS1.out]
              obtain ⟨r, rfl⟩ : ∃ r, n = r + 1 := ⟨n - 1, by omega⟩
              rw [Nat.add_sub_cancel]
              conv => rhs; unfold aSink
              rw [if_neg (by rw [hbest]; omega), hbest]
        · have kz2 : ¬ (k2 : Int) < (m : Int) := by omega
          have kd2 : decide (k2 < m) = false := decide_eq_false hk2
          have HN2 := Lib.hid (show aPick M k1 k2 = k1 by unfold aPick; rw [if_neg (by have := HML.out; omega)])
          go_wp2
          go_big_region
          go_wp2_with fail
          have hML := HML.out
          have hsmm := HSM.out
          have hmm := HM.out
          have hsw := swap194 (some ⟨g, 0, none⟩) cap M i k1 _ (Kd.R_reads' (Kd.R_below HRM.out (by first | exact B4 | exact bl_drew B3 | exact B3 | exact bl_drew (bl_refl _) | exact bl_drew (bl_drew (bl_refl _)) | exact bl_refl _))).2.2 (by have := Kd.R_reads' HRM.out; omega) (by omega) (by omega) (by have := HK12.out; omega) (by omega)
          rw [hML] at hsw
          refine hsw.mono ?_
          rintro e w9 ⟨v9, rfl, hR9, hb9⟩
          obtain ⟨g9, cap9, rfl, _, _, _⟩ := Kd.R_form hR9 (by rw [aswap_length]; omega)
          rw [aswap_length, hML] at hR9 ⊢
          have HR9 := Lib.hid (Kd.R_lower hR9 (bl_trans Bm (by first | exact B4 | exact bl_drew B3 | exact B3 | exact bl_drew (bl_refl _) | exact bl_drew (bl_drew (bl_refl _)) | exact bl_refl _) : Below W.heap.size W w3.drew).size)
          have HB9 := Lib.hid (bl_trans (bl_trans Bm (by first | exact B4 | exact bl_drew B3 | exact B3 | exact bl_drew (bl_refl _) | exact bl_drew (bl_drew (bl_refl _)) | exact bl_refl _) : Below W.heap.size W w3.drew) hb9)
          clear hb9 hR9 hsw hML hsmm hmm
          go_wp2
          go_roundg (n - 1)
          case measure => have := HK12.out; omega
          case rel =>
            have hk := HK12.out
            have hbest : aBest M i = k1 := by unfold aBest; rw [hk.1, hk.2, HN1.out, HN2.out]
            refine ⟨k1, n - 1, g9, cap9, aswap M i k1, by omega, by omega, by omega, rfl, rfl, HR9.out, (show (aswap M i k1).length = m by rw [aswap_length]; exact HML.out), ?_, HB9.out⟩
            show aSink (n - 1) (aswap M i k1) k1 = _
            rw [← HS1.out]
            obtain ⟨r, rfl⟩ : ∃ r, n = r + 1 := ⟨n - 1, by omega⟩
            rw [Nat.add_sub_cancel]
            conv => rhs; unfold aSink
            rw [if_neg (by rw [hbest]; omega), hbest]
      | false =>
        rw [hq1] at hl1
        have HLS1 := Lib.hid hl1
        have HN1 := Lib.hid (show aPick M i k1 = i by rw [HPK1.out, hq1]; rfl)
        clear hl1 hq1 HPK1
        go_wp2
        go_region_held3 (fun W' => W'.cell? ⟨g, k1 * 2, none⟩ = some (.int .u64 a1.due) ∧ W'.cell? ⟨g, k1 * 2 + 1, none⟩ = some (.int .i64 a1.id) ∧ W'.cell? ⟨g, i * 2, none⟩ = some (.int .u64 ai.due) ∧ W'.cell? ⟨g, i * 2 + 1, none⟩ = some (.int .i64 ai.id)) (simp [*, bl_refl, bl_drew, bl_drewN, bl_alloc]) (first | (go_at_call 193; refine (HLS1.out _).mono ?_; rintro e w3 ⟨rfl, hb⟩; have B3 : Below wr.heap.size wr w3 := bl_trans (bl_drew (bl_refl _)) hb; clear hb))
        go_wp2
        by_cases hk2 : k2 < m
        · obtain ⟨a2, ha2⟩ : ∃ a2, M[k2]! = a2 := ⟨_, rfl⟩
          obtain ⟨ca2, _⟩ := flat_own HRM.out k2 (by have := HML.out; omega)
          rw [ha2] at ca2
          have a20 := cell_rule (ca2 0 _ rfl)
          have a21 := cell_rule (ca2 1 _ rfl)
          simp only [Nat.add_zero] at a20
          have Ha2 := Lib.hid ha2
          clear ca2 ha2
          have kz2 : (k2 : Int) < (m : Int) := by omega
          have kn2 : (0 : Int) ≤ (k2 : Int) := by omega
          have kd2 : decide (k2 < m) = true := decide_eq_true hk2
          have HPK2 := Lib.hid (show aPick M i k2 = if aless a2 ai = true then k2 else i by unfold aPick; rw [if_pos (by have := HML.out; omega), Ha2.out, Hai.out])
          have hl2 := less193 a2 ai
          cases hq2 : aless a2 ai with
          | true =>
            rw [hq2] at hl2
            have HLS2 := Lib.hid hl2
            have HN2 := Lib.hid (show aPick M i k2 = k2 by rw [HPK2.out, hq2]; rfl)
            clear hl2 hq2 HPK2
            go_wp2
            go_region_held3 (fun W' => W'.cell? ⟨g, k2 * 2, none⟩ = some (.int .u64 a2.due) ∧ W'.cell? ⟨g, k2 * 2 + 1, none⟩ = some (.int .i64 a2.id) ∧ W'.cell? ⟨g, i * 2, none⟩ = some (.int .u64 ai.due) ∧ W'.cell? ⟨g, i * 2 + 1, none⟩ = some (.int .i64 ai.id)) (simp [*, bl_refl, bl_drew, bl_drewN, bl_alloc]) (first | (go_at_call 193; refine (HLS2.out _).mono ?_; rintro e w4 ⟨rfl, hb⟩; have B4 : Below wr.heap.size wr w4 := bl_trans (by first | exact bl_drew B3 | exact bl_drew (bl_drew (bl_refl _))) hb; clear hb))
            go_wp2_with fail
            have hML := HML.out
            have hsmm := HSM.out
            have hmm := HM.out
            have hsw := swap194 (some ⟨g, 0, none⟩) cap M i k2 _ (Kd.R_reads' (Kd.R_below HRM.out (by first | exact B4 | exact bl_drew B3 | exact B3 | exact bl_drew (bl_refl _) | exact bl_drew (bl_drew (bl_refl _)) | exact bl_refl _))).2.2 (by have := Kd.R_reads' HRM.out; omega) (by omega) (by omega) (by have := HK12.out; omega) (by omega)
            rw [hML] at hsw
            refine hsw.mono ?_
            rintro e w9 ⟨v9, rfl, hR9, hb9⟩
            obtain ⟨g9, cap9, rfl, _, _, _⟩ := Kd.R_form hR9 (by rw [aswap_length]; omega)
            rw [aswap_length, hML] at hR9 ⊢
            have HR9 := Lib.hid (Kd.R_lower hR9 (bl_trans Bm (by first | exact B4 | exact bl_drew B3 | exact B3 | exact bl_drew (bl_refl _) | exact bl_drew (bl_drew (bl_refl _)) | exact bl_refl _) : Below W.heap.size W w4).size)
            have HB9 := Lib.hid (bl_trans (bl_trans Bm (by first | exact B4 | exact bl_drew B3 | exact B3 | exact bl_drew (bl_refl _) | exact bl_drew (bl_drew (bl_refl _)) | exact bl_refl _) : Below W.heap.size W w4) hb9)
            clear hb9 hR9 hsw hML hsmm hmm
            go_wp2
            go_roundg (n - 1)
            case measure => have := HK12.out; omega
            case rel =>
              have hk := HK12.out
              have hbest : aBest M i = k2 := by unfold aBest; rw [hk.1, hk.2, HN1.out, HN2.out]
              refine ⟨k2, n - 1, g9, cap9, aswap M i k2, by omega, by omega, by omega, rfl, rfl, HR9.out, (show (aswap M i k2).length = m by rw [aswap_length]; exact HML.out), ?_, HB9.out⟩
              show aSink (n - 1) (aswap M i k2) k2 = _
              rw [← HS1.out]
              obtain ⟨r, rfl⟩ : ∃ r, n = r + 1 := ⟨n - 1, by omega⟩
              rw [Nat.add_sub_cancel]
              conv => rhs; unfold aSink
              rw [if_neg (by rw [hbest]; omega), hbest]
          | false =>
            rw [hq2] at hl2
            have HLS2 := Lib.hid hl2
            have HN2 := Lib.hid (show aPick M i k2 = i by rw [HPK2.out, hq2]; rfl)
            clear hl2 hq2 HPK2
            go_wp2
            go_region_held3 (fun W' => W'.cell? ⟨g, k2 * 2, none⟩ = some (.int .u64 a2.due) ∧ W'.cell? ⟨g, k2 * 2 + 1, none⟩ = some (.int .i64 a2.id) ∧ W'.cell? ⟨g, i * 2, none⟩ = some (.int .u64 ai.due) ∧ W'.cell? ⟨g, i * 2 + 1, none⟩ = some (.int .i64 ai.id)) (simp [*, bl_refl, bl_drew, bl_drewN, bl_alloc]) (first | (go_at_call 193; refine (HLS2.out _).mono ?_; rintro e w4 ⟨rfl, hb⟩; have B4 : Below wr.heap.size wr w4 := bl_trans (by first | exact bl_drew B3 | exact bl_drew (bl_drew (bl_refl _))) hb; clear hb))
            go_wp2_with fail
            have HT := Lib.hid (show M = aRest L by
              rw [← HS1.out]
              cases n with
              | zero => rfl
              | succ n => unfold aSink; rw [if_pos (by unfold aBest; rw [HK12.out.1, HK12.out.2, HN1.out, HN2.out])])
            have HRZ := Lib.hid (Kd.R_below HRM.out (by first | exact B4 | exact bl_drew B3 | exact B3 | exact bl_drew (bl_refl _) | exact bl_drew (bl_drew (bl_refl _)) | exact bl_refl _) : Kd.R kAlm 175 w4 W.heap.size (fun _ => True) (.slice (some ⟨g, 0, none⟩) m cap) M)
            have HBZ := Lib.hid (bl_trans Bm (by first | exact B4 | exact bl_drew B3 | exact B3 | exact bl_drew (bl_refl _) | exact bl_drew (bl_drew (bl_refl _)) | exact bl_refl _) : Below W.heap.size W w4)
            have Bz : Below W.heap.size W w4 := bl_trans Bm (by first | exact B4 | exact bl_drew B3 | exact B3 | exact bl_drew (bl_refl _) | exact bl_drew (bl_drew (bl_refl _)) | exact bl_refl _)
            go_wp2
            go_big_region
            go_wp2
            have hs1 := HS.out
            refine bodyPost_ret (v := .tuple #[.slice (some ⟨g, 0, none⟩) m cap, .agg #[.int .u64 x.due, .int .i64 x.id], .bool true]) (by simp [results, Try.results163, go_sem, r1, z1, Bz, World.cell?_setCell_far]) rfl ⟨_, rfl, ?_, ?_⟩
            · rw [← HT.out]
              refine Kd.R_lower (show Kd.R kAlm 175 _ W.heap.size (fun _ => True) _ _ from ?_) (by omega)
              refine Kd.R_drew ?_
              iterate 2 refine R_farB ?_ (by omega) _ _
              exact HRZ.out
            · iterate 1 refine bl_drewB ?_
              iterate 2 refine bl_set ?_ (by omega)
              exact bl_trans HWB.out Bz
        · have kz2 : ¬ (k2 : Int) < (m : Int) := by omega
          have kd2 : decide (k2 < m) = false := decide_eq_false hk2
          have HN2 := Lib.hid (show aPick M i k2 = i by unfold aPick; rw [if_neg (by have := HML.out; omega)])
          go_wp2
          go_big_region
          go_wp2_with fail
          have HT := Lib.hid (show M = aRest L by
            rw [← HS1.out]
            cases n with
            | zero => rfl
            | succ n => unfold aSink; rw [if_pos (by unfold aBest; rw [HK12.out.1, HK12.out.2, HN1.out, HN2.out])])
          have HRZ := Lib.hid (Kd.R_below HRM.out (by first | exact B4 | exact bl_drew B3 | exact B3 | exact bl_drew (bl_refl _) | exact bl_drew (bl_drew (bl_refl _)) | exact bl_refl _) : Kd.R kAlm 175 w3.drew W.heap.size (fun _ => True) (.slice (some ⟨g, 0, none⟩) m cap) M)
          have HBZ := Lib.hid (bl_trans Bm (by first | exact B4 | exact bl_drew B3 | exact B3 | exact bl_drew (bl_refl _) | exact bl_drew (bl_drew (bl_refl _)) | exact bl_refl _) : Below W.heap.size W w3.drew)
          have Bz : Below W.heap.size W w3 := bl_trans Bm (by first | exact B4 | exact bl_drew B3 | exact B3 | exact bl_drew (bl_refl _) | exact bl_drew (bl_drew (bl_refl _)) | exact bl_refl _)
          go_wp2
          go_big_region
          go_wp2
          have hs1 := HS.out
          refine bodyPost_ret (v := .tuple #[.slice (some ⟨g, 0, none⟩) m cap, .agg #[.int .u64 x.due, .int .i64 x.id], .bool true]) (by simp [results, Try.results163, go_sem, r1, z1, Bz, World.cell?_setCell_far]) rfl ⟨_, rfl, ?_, ?_⟩
          · rw [← HT.out]
            refine Kd.R_lower (show Kd.R kAlm 175 _ W.heap.size (fun _ => True) _ _ from ?_) (by omega)
            refine Kd.R_drew ?_
            iterate 2 refine R_farB ?_ (by omega) _ _
            exact HRZ.out
          · iterate 2 refine bl_drewB ?_
            iterate 2 refine bl_set ?_ (by omega)
            exact bl_trans HWB.out Bz
    · have kz1 : ¬ (k1 : Int) < (m : Int) := by omega
      have kd1 : decide (k1 < m) = false := decide_eq_false hk1
      have HN1 := Lib.hid (show aPick M i k1 = i by unfold aPick; rw [if_neg (by have := HML.out; omega)])
      go_wp2
      go_big_region
      go_wp2
      by_cases hk2 : k2 < m
      · obtain ⟨a2, ha2⟩ : ∃ a2, M[k2]! = a2 := ⟨_, rfl⟩
        obtain ⟨ca2, _⟩ := flat_own HRM.out k2 (by have := HML.out; omega)
        rw [ha2] at ca2
        have a20 := cell_rule (ca2 0 _ rfl)
        have a21 := cell_rule (ca2 1 _ rfl)
        simp only [Nat.add_zero] at a20
        have Ha2 := Lib.hid ha2
        clear ca2 ha2
        have kz2 : (k2 : Int) < (m : Int) := by omega
        have kn2 : (0 : Int) ≤ (k2 : Int) := by omega
        have kd2 : decide (k2 < m) = true := decide_eq_true hk2
        have HPK2 := Lib.hid (show aPick M i k2 = if aless a2 ai = true then k2 else i by unfold aPick; rw [if_pos (by have := HML.out; omega), Ha2.out, Hai.out])
        have hl2 := less193 a2 ai
        cases hq2 : aless a2 ai with
        | true =>
          rw [hq2] at hl2
          have HLS2 := Lib.hid hl2
          have HN2 := Lib.hid (show aPick M i k2 = k2 by rw [HPK2.out, hq2]; rfl)
          clear hl2 hq2 HPK2
          go_wp2
          go_region_held3 (fun W' => W'.cell? ⟨g, k2 * 2, none⟩ = some (.int .u64 a2.due) ∧ W'.cell? ⟨g, k2 * 2 + 1, none⟩ = some (.int .i64 a2.id) ∧ W'.cell? ⟨g, i * 2, none⟩ = some (.int .u64 ai.due) ∧ W'.cell? ⟨g, i * 2 + 1, none⟩ = some (.int .i64 ai.id)) (simp [*, bl_refl, bl_drew, bl_drewN, bl_alloc]) (first | (go_at_call 193; refine (HLS2.out _).mono ?_; rintro e w4 ⟨rfl, hb⟩; have B4 : Below wr.heap.size wr w4 := bl_trans (by first | exact bl_drew B3 | exact bl_drew (bl_drew (bl_refl _))) hb; clear hb))
          go_wp2_with fail
          have hML := HML.out
          have hsmm := HSM.out
          have hmm := HM.out
          have hsw := swap194 (some ⟨g, 0, none⟩) cap M i k2 _ (Kd.R_reads' (Kd.R_below HRM.out (by first | exact B4 | exact bl_drew B3 | exact B3 | exact bl_drew (bl_refl _) | exact bl_drew (bl_drew (bl_refl _)) | exact bl_refl _))).2.2 (by have := Kd.R_reads' HRM.out; omega) (by omega) (by omega) (by have := HK12.out; omega) (by omega)
          rw [hML] at hsw
          refine hsw.mono ?_
          rintro e w9 ⟨v9, rfl, hR9, hb9⟩
          obtain ⟨g9, cap9, rfl, _, _, _⟩ := Kd.R_form hR9 (by rw [aswap_length]; omega)
          rw [aswap_length, hML] at hR9 ⊢
          have HR9 := Lib.hid (Kd.R_lower hR9 (bl_trans Bm (by first | exact B4 | exact bl_drew B3 | exact B3 | exact bl_drew (bl_refl _) | exact bl_drew (bl_drew (bl_refl _)) | exact bl_refl _) : Below W.heap.size W w4).size)
          have HB9 := Lib.hid (bl_trans (bl_trans Bm (by first | exact B4 | exact bl_drew B3 | exact B3 | exact bl_drew (bl_refl _) | exact bl_drew (bl_drew (bl_refl _)) | exact bl_refl _) : Below W.heap.size W w4) hb9)
          clear hb9 hR9 hsw hML hsmm hmm
          go_wp2
          go_roundg (n - 1)
          case measure => have := HK12.out; omega
          case rel =>
            have hk := HK12.out
            have hbest : aBest M i = k2 := by unfold aBest; rw [hk.1, hk.2, HN1.out, HN2.out]
            refine ⟨k2, n - 1, g9, cap9, aswap M i k2, by omega, by omega, by omega, rfl, rfl, HR9.out, (show (aswap M i k2).length = m by rw [aswap_length]; exact HML.out), ?_, HB9.out⟩
            show aSink (n - 1) (aswap M i k2) k2 = _
            rw [← HS1.out]
            obtain ⟨r, rfl⟩ : ∃ r, n = r + 1 := ⟨n - 1, by omega⟩
            rw [Nat.add_sub_cancel]
            conv => rhs; unfold aSink
            rw [if_neg (by rw [hbest]; omega), hbest]
        | false =>
          rw [hq2] at hl2
          have HLS2 := Lib.hid hl2
          have HN2 := Lib.hid (show aPick M i k2 = i by rw [HPK2.out, hq2]; rfl)
          clear hl2 hq2 HPK2
          go_wp2
          go_region_held3 (fun W' => W'.cell? ⟨g, k2 * 2, none⟩ = some (.int .u64 a2.due) ∧ W'.cell? ⟨g, k2 * 2 + 1, none⟩ = some (.int .i64 a2.id) ∧ W'.cell? ⟨g, i * 2, none⟩ = some (.int .u64 ai.due) ∧ W'.cell? ⟨g, i * 2 + 1, none⟩ = some (.int .i64 ai.id)) (simp [*, bl_refl, bl_drew, bl_drewN, bl_alloc]) (first | (go_at_call 193; refine (HLS2.out _).mono ?_; rintro e w4 ⟨rfl, hb⟩; have B4 : Below wr.heap.size wr w4 := bl_trans (by first | exact bl_drew B3 | exact bl_drew (bl_drew (bl_refl _))) hb; clear hb))
          go_wp2_with fail
          have HT := Lib.hid (show M = aRest L by
            rw [← HS1.out]
            cases n with
            | zero => rfl
            | succ n => unfold aSink; rw [if_pos (by unfold aBest; rw [HK12.out.1, HK12.out.2, HN1.out, HN2.out])])
          have HRZ := Lib.hid (Kd.R_below HRM.out (by first | exact B4 | exact bl_drew B3 | exact B3 | exact bl_drew (bl_refl _) | exact bl_drew (bl_drew (bl_refl _)) | exact bl_refl _) : Kd.R kAlm 175 w4 W.heap.size (fun _ => True) (.slice (some ⟨g, 0, none⟩) m cap) M)
          have HBZ := Lib.hid (bl_trans Bm (by first | exact B4 | exact bl_drew B3 | exact B3 | exact bl_drew (bl_refl _) | exact bl_drew (bl_drew (bl_refl _)) | exact bl_refl _) : Below W.heap.size W w4)
          have Bz : Below W.heap.size W w4 := bl_trans Bm (by first | exact B4 | exact bl_drew B3 | exact B3 | exact bl_drew (bl_refl _) | exact bl_drew (bl_drew (bl_refl _)) | exact bl_refl _)
          go_wp2
          go_big_region
          go_wp2
          have hs1 := HS.out
          refine bodyPost_ret (v := .tuple #[.slice (some ⟨g, 0, none⟩) m cap, .agg #[.int .u64 x.due, .int .i64 x.id], .bool true]) (by simp [results, Try.results163, go_sem, r1, z1, Bz, World.cell?_setCell_far]) rfl ⟨_, rfl, ?_, ?_⟩
          · rw [← HT.out]
            refine Kd.R_lower (show Kd.R kAlm 175 _ W.heap.size (fun _ => True) _ _ from ?_) (by omega)
            refine Kd.R_drew ?_
            iterate 2 refine R_farB ?_ (by omega) _ _
            exact HRZ.out
          · iterate 1 refine bl_drewB ?_
            iterate 2 refine bl_set ?_ (by omega)
            exact bl_trans HWB.out Bz
      · have kz2 : ¬ (k2 : Int) < (m : Int) := by omega
        have kd2 : decide (k2 < m) = false := decide_eq_false hk2
        have HN2 := Lib.hid (show aPick M i k2 = i by unfold aPick; rw [if_neg (by have := HML.out; omega)])
        go_wp2
        go_big_region
        go_wp2_with fail
        have HT := Lib.hid (show M = aRest L by
          rw [← HS1.out]
          cases n with
          | zero => rfl
          | succ n => unfold aSink; rw [if_pos (by unfold aBest; rw [HK12.out.1, HK12.out.2, HN1.out, HN2.out])])
        have HRZ := Lib.hid (Kd.R_below HRM.out (by first | exact B4 | exact bl_drew B3 | exact B3 | exact bl_drew (bl_refl _) | exact bl_drew (bl_drew (bl_refl _)) | exact bl_refl _) : Kd.R kAlm 175 wr.drew.drew W.heap.size (fun _ => True) (.slice (some ⟨g, 0, none⟩) m cap) M)
        have HBZ := Lib.hid (bl_trans Bm (by first | exact B4 | exact bl_drew B3 | exact B3 | exact bl_drew (bl_refl _) | exact bl_drew (bl_drew (bl_refl _)) | exact bl_refl _) : Below W.heap.size W wr.drew.drew)
        have Bz : Below W.heap.size W wr := bl_trans Bm (by first | exact B4 | exact bl_drew B3 | exact B3 | exact bl_drew (bl_refl _) | exact bl_drew (bl_drew (bl_refl _)) | exact bl_refl _)
        go_wp2
        go_big_region
        go_wp2
        have hs1 := HS.out
        refine bodyPost_ret (v := .tuple #[.slice (some ⟨g, 0, none⟩) m cap, .agg #[.int .u64 x.due, .int .i64 x.id], .bool true]) (by simp [results, Try.results163, go_sem, r1, z1, Bz, World.cell?_setCell_far]) rfl ⟨_, rfl, ?_, ?_⟩
        · rw [← HT.out]
          refine Kd.R_lower (show Kd.R kAlm 175 _ W.heap.size (fun _ => True) _ _ from ?_) (by omega)
          refine Kd.R_drew ?_
          iterate 2 refine R_farB ?_ (by omega) _ _
          exact HRZ.out
        · iterate 3 refine bl_drewB ?_
          iterate 2 refine bl_set ?_ (by omega)
          exact bl_trans HWB.out Bz
end Go.Proofs.Ytkcebmamohimoaa
