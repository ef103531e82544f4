/- Alarms: sinking. -/
import Derived.Test.YtkcebmamohimoaaA4
import Derived.WalkMore
import Derived.BigRegion
namespace Go.Proofs.Ytkcebmamohimoaa
open Go.RowKit Go.Proofs.YtkcebmamohimoaaW.PrintWords
set_option linter.unusedVariables false
set_option linter.unusedSimpArgs false
attribute [local go_sem] bl_refl bl_alloc bl_drew bl_drewN
def aPick (h : List Alm) (b k : Nat) : Nat := if k < h.length then (if aless h[k]! h[b]! = true then k else b) else b
def aBest (h : List Alm) (i : Nat) : Nat := aPick h (aPick h i (2 * i + 1)) (2 * i + 2)
def aSink : Nat → List Alm → Nat → List Alm
  | 0, h, _ => h
  | n + 1, h, i => if aBest h i = i then h else aSink n (aswap h i (aBest h i)) (aBest h i)
theorem aPick_lt (h : List Alm) (b k : Nat) (hb : b < h.length) : aPick h b k < h.length := by unfold aPick; split; split <;> omega; exact hb
theorem aPick_or (h : List Alm) (b k : Nat) : aPick h b k = b ∨ (aPick h b k = k ∧ k < h.length) := by
  unfold aPick
  by_cases h1 : k < h.length
  · by_cases h2 : aless h[k]! h[b]! = true
    · exact .inr ⟨by rw [if_pos h1, if_pos h2], h1⟩
    · exact .inl (by rw [if_pos h1, if_neg h2])
  · exact .inl (by rw [if_neg h1])
theorem aBest_or (h : List Alm) (i : Nat) : aBest h i = i ∨ (i < aBest h i ∧ aBest h i < h.length) := by
  unfold aBest
  rcases aPick_or h i (2 * i + 1) with h1 | ⟨h1, l1⟩ <;> rcases aPick_or h (aPick h i (2 * i + 1)) (2 * i + 2) with h2 | ⟨h2, l2⟩
  · left; rw [h2, h1]
  · right; rw [h2]; omega
  · right; rw [h2, h1]; omega
  · right; rw [h2]; omega
theorem ix0 (a b : Int) (W : World) : (Instr.index 257 (.agg #[.int .i64 a, .int .i64 b]) (.int .i64 0)).run Try.prog W = .ok (.int .i64 a) W := by
  simp [Instr.index, go_sem, run_underlying Try.underlying257]
theorem ix1 (a b : Int) (W : World) : (Instr.index 257 (.agg #[.int .i64 a, .int .i64 b]) (.int .i64 1)).run Try.prog W = .ok (.int .i64 b) W := by
  simp [Instr.index, go_sem, run_underlying Try.underlying257]
attribute [local go_sem high] ix0 ix1
set_option maxHeartbeats 16000000 in
set_option maxRecDepth 100000 in
theorem sink197 (w0 w : World) (hb0 : Below w0.heap.size w0 w) (g c : Nat) (L : List Alm) (h : Kd.R kAlm 175 w w0.heap.size (fun _ => True) (.slice (some ⟨g, 0, none⟩) L.length c) L) (hsm : L.length ≤ 100000) :
    Calls Try.prog 197 #[.slice (some ⟨g, 0, none⟩) L.length c] w fun e w' => e = .returned (.tuple #[]) ∧ Kd.R kAlm 175 w' w0.heap.size (fun _ => True) (.slice (some ⟨g, 0, none⟩) L.length c) (aSink L.length L 0) ∧ Below w0.heap.size w0 w' := by
  have HR := Lib.hid h
  have HB := Lib.hid hb0
  clear h hb0
  go_enter Try.func197, Try.ntmps197
  go_wp2
  go_step3
  go_wp2
  go_step3
  go_wp2
  go_loopg [2] (L.length + 1) (fun gg s2 wr => ∃ (i n : Nat) (M : List Alm), (i < L.length ∨ i = 0) ∧ L.length - i ≤ n ∧ n < gg + 1 ∧ s2 = .int .i64 i ∧ Hid (Kd.R kAlm 175 wr w0.heap.size (fun _ => True) (.slice (some ⟨g, 0, none⟩) L.length c) M) ∧ Hid (M.length = L.length) ∧ Hid (aSink n M i = aSink L.length L 0) ∧ Hid (Below w0.heap.size w0 wr))
  case atStart => exact ⟨0, L.length, L, .inr rfl, by omega, by omega, rfl, HR.out, rfl, rfl, HB.out⟩
  case round =>
    obtain ⟨i, n, M, hi, hn, hgn, rfl, HRM, HML, HS, HBM⟩ := hrel
    clear HR HB
    have hm1 : IntKind.i64.wrap (2 * (i : Int)) = 2 * (i : Int) := IntWalk.i64_in _ (by omega)
    obtain ⟨k1, hk1⟩ : ∃ k1 : Nat, 2 * i + 1 = k1 := ⟨_, rfl⟩
    obtain ⟨k2, hk2⟩ : ∃ k2 : Nat, 2 * i + 2 = k2 := ⟨_, rfl⟩
    have hm2 : IntKind.i64.wrap (2 * (i : Int) + 1) = (k1 : Int) := by rw [IntWalk.i64_in _ (by omega)]; omega
    have hm3 : IntKind.i64.wrap (k1 : Int) = (k1 : Int) := IntWalk.i64_in _ (by omega)
    have hm4 : IntKind.i64.wrap ((k1 : Int) + 1) = (k2 : Int) := by rw [IntWalk.i64_in _ (by omega)]; omega
    have HK12 := Lib.hid (show 2 * i + 1 = k1 ∧ 2 * i + 2 = k2 from ⟨hk1, hk2⟩)
    clear hk1 hk2
    go_wp2
    obtain ⟨W1, hW1⟩ : ∃ W1, wr.alloc (.cells #[.int .i64 0, .int .i64 0] 257) = W1 := ⟨_, rfl⟩
    have K1 := blk_new wr (.cells #[.int .i64 0, .int .i64 0] 257)
    have B1 : Below wr.heap.size wr W1 := by rw [← hW1]; exact bl_alloc _ (bl_refl wr)
    have hs1 : W1.heap.size = wr.heap.size + 1 := by rw [← hW1]; simp
    rw [hW1] at K1
    have r1 := blk_cells K1
    have z1 := blk_frz K1
    have BW := bl_refl W1
    have HK1 := Lib.hid K1
    have HB1 := Lib.hid B1
    have HS1 := Lib.hid hs1
    rw [hW1]
    clear hW1 K1 B1 hs1
    go_loopg [9] 3 (fun gg s9 wq => (gg = 3 ∧ s9 = .int .i64 0 ∧ wq = W1) ∨ (gg = 2 ∧ s9 = .int .i64 1 ∧ wq = W1.setCell ⟨wr.heap.size, 0, none⟩ (.int .i64 (k1 : Int))) ∨ (gg = 1 ∧ s9 = .int .i64 2 ∧ wq = (W1.setCell ⟨wr.heap.size, 0, none⟩ (.int .i64 (k1 : Int))).setCell ⟨wr.heap.size, 1, none⟩ (.int .i64 (k2 : Int))))
    case atStart => exact .inl ⟨rfl, rfl, rfl⟩
    case round =>
      rcases hrel with ⟨rfl, rfl, rfl⟩ | ⟨rfl, rfl, rfl⟩ | ⟨rfl, rfl, rfl⟩
      · go_wp2
        go_roundg 2
        case measure => omega
        case rel => exact .inr (.inl ⟨rfl, by first | rfl | go_num, by first | rfl | simp⟩)
      · go_wp2
        go_roundg 1
        case measure => omega
        case rel => exact .inr (.inr ⟨rfl, by first | rfl | go_num, by first | rfl | simp⟩)
      · have K2 := blk_put (blk_put HK1.out 0 (.int .i64 (k1 : Int)) rfl) 1 (.int .i64 (k2 : Int)) rfl
        obtain ⟨W2, hW2⟩ : ∃ W2, (W1.setCell ⟨wr.heap.size, 0, none⟩ (.int .i64 (k1 : Int))).setCell ⟨wr.heap.size, 1, none⟩ (.int .i64 (k2 : Int)) = W2 := ⟨_, rfl⟩
        have B2 : Below wr.heap.size wr W2 := by rw [← hW2]; exact bl_set (bl_set HB1.out (Nat.le_refl _)) (Nat.le_refl _)
        rw [hW2] at K2 ⊢
        have r2 := blk_cells K2
        have BW2 := bl_refl W2
        have HB2 := Lib.hid B2
        have HR2 := Lib.hid (Kd.R_below HRM.out B2)
        clear hW2 K2 B2 r1 z1 BW HK1 HB1
        go_wp2
        go_loopg [3, 21] 3 (fun gg s3 s21 wq => (gg = 3 ∧ s21 = .int .i64 0 ∧ s3 = .int .i64 i ∧ Hid (Below W2.heap.size W2 wq)) ∨ (gg = 2 ∧ s21 = .int .i64 1 ∧ s3 = .int .i64 (aPick M i k1 : Nat) ∧ Hid (Below W2.heap.size W2 wq)) ∨ (gg = 1 ∧ s21 = .int .i64 2 ∧ s3 = .int .i64 (aPick M (aPick M i k1) k2 : Nat) ∧ Hid (Below W2.heap.size W2 wq)))
        case atStart => exact .inl ⟨rfl, rfl, rfl, bl_refl W2⟩
        case round =>
          rcases hrel with ⟨rfl, rfl, rfl, HBq⟩ | ⟨rfl, rfl, rfl, HBq⟩ | ⟨rfl, rfl, rfl, HBq⟩
          · have HRq := Lib.hid (Kd.R_below HR2.out HBq.out)
            have HBL := Lib.hid (show k1 < L.length → i < L.length from fun h => by have := HK12.out; omega)
            have Bq := bl_refl wr
            clear r2 BW2
            by_cases hk : k1 < L.length
            · have hbl : i < L.length := HBL.out hk
              obtain ⟨x, hx⟩ : ∃ x, M[k1]! = x := ⟨_, rfl⟩
              obtain ⟨y, hy⟩ : ∃ y, M[i]! = y := ⟨_, rfl⟩
              obtain ⟨ci, _⟩ := flat_own HRq.out k1 (by have := HML.out; omega)
              obtain ⟨cu, _⟩ := flat_own HRq.out i (by have := HML.out; omega)
              rw [hx] at ci
              rw [hy] at cu
              have x0 := cell_rule (ci 0 _ rfl)
              have x1 := cell_rule (ci 1 _ rfl)
              have y0 := cell_rule (cu 0 _ rfl)
              have y1 := cell_rule (cu 1 _ rfl)
              simp only [Nat.add_zero] at x0 y0
              have kz0 : (0 : Int) ≤ (k1 : Int) := by omega
              have kz1 : (k1 : Int) < (L.length : Int) := by omega
              have bz0 : (0 : Int) ≤ (i : Int) := by omega
              have bz1 : (i : Int) < (L.length : Int) := by omega
              have kd : decide (k1 < L.length) = true := decide_eq_true hk
              have HPK := Lib.hid (show aPick M i k1 = if aless x y = true then k1 else i by unfold aPick; rw [if_pos (by have := HML.out; omega), hx, hy])
              have hl := less192 x y
              clear hx hy ci cu
              cases hq : aless x y with
              | true =>
                rw [hq] at hl
                have HLS := Lib.hid hl
                have HN := Lib.hid (show aPick M i k1 = k1 by rw [HPK.out, hq]; rfl)
                clear hl hq HPK
                go_wp2
                go_region_held3 (fun W' => W'.cell? ⟨g, k1 * 2, none⟩ = some (.int .u64 x.due) ∧ W'.cell? ⟨g, k1 * 2 + 1, none⟩ = some (.int .i64 x.id) ∧ W'.cell? ⟨g, i * 2, none⟩ = some (.int .u64 y.due) ∧ W'.cell? ⟨g, i * 2 + 1, none⟩ = some (.int .i64 y.id)) (simp [*, bl_refl, bl_drew, bl_drewN, bl_alloc]) (first | (go_at_call 192; refine (HLS.out _).mono ?_; rintro e w3 ⟨rfl, hb⟩; have B3 : Below wr.heap.size wr w3 := bl_trans (bl_drew (bl_refl _)) hb; clear hb))
                go_wp2
                go_roundg 2
                case measure => omega
                case rel => exact .inr (.inl ⟨rfl, by first | rfl | go_num, by rw [HN.out], (bl_trans HBq.out B3)⟩)
              | false =>
                rw [hq] at hl
                have HLS := Lib.hid hl
                have HN := Lib.hid (show aPick M i k1 = i by rw [HPK.out, hq]; rfl)
                clear hl hq HPK
                go_wp2
                go_region_held3 (fun W' => W'.cell? ⟨g, k1 * 2, none⟩ = some (.int .u64 x.due) ∧ W'.cell? ⟨g, k1 * 2 + 1, none⟩ = some (.int .i64 x.id) ∧ W'.cell? ⟨g, i * 2, none⟩ = some (.int .u64 y.due) ∧ W'.cell? ⟨g, i * 2 + 1, none⟩ = some (.int .i64 y.id)) (simp [*, bl_refl, bl_drew, bl_drewN, bl_alloc]) (first | (go_at_call 192; refine (HLS.out _).mono ?_; rintro e w3 ⟨rfl, hb⟩; have B3 : Below wr.heap.size wr w3 := bl_trans (bl_drew (bl_refl _)) hb; clear hb))
                go_wp2
                go_roundg 2
                case measure => omega
                case rel => exact .inr (.inl ⟨rfl, by first | rfl | go_num, by rw [HN.out], (bl_trans HBq.out B3)⟩)
            · have kz1 : ¬ (k1 : Int) < (L.length : Int) := by omega
              have kd : decide (k1 < L.length) = false := decide_eq_false hk
              have HN := Lib.hid (show aPick M i k1 = i by unfold aPick; rw [if_neg (by have := HML.out; omega)])
              go_wp2
              go_big_region
              go_wp2
              go_roundg 2
              case measure => omega
              case rel => exact .inr (.inl ⟨rfl, by first | rfl | go_num, by rw [HN.out], (bl_drew HBq.out)⟩)
          · have HRq := Lib.hid (Kd.R_below HR2.out HBq.out)
            obtain ⟨bb, hbb⟩ : ∃ bb, aPick M i k1 = bb := ⟨_, rfl⟩
            have HBL := Lib.hid (show k2 < L.length → bb < L.length from fun h => by have := HK12.out; have := HML.out; rcases aPick_or M i k1 with h1 | ⟨h1, _⟩ <;> omega)
            have HBB := Lib.hid hbb
            rw [hbb]
            have Bq := bl_refl wr
            clear r2 BW2 hbb
            by_cases hk : k2 < L.length
            · have hbl : bb < L.length := HBL.out hk
              obtain ⟨x, hx⟩ : ∃ x, M[k2]! = x := ⟨_, rfl⟩
              obtain ⟨y, hy⟩ : ∃ y, M[bb]! = y := ⟨_, rfl⟩
              obtain ⟨ci, _⟩ := flat_own HRq.out k2 (by have := HML.out; omega)
              obtain ⟨cu, _⟩ := flat_own HRq.out bb (by have := HML.out; omega)
              rw [hx] at ci
              rw [hy] at cu
              have x0 := cell_rule (ci 0 _ rfl)
              have x1 := cell_rule (ci 1 _ rfl)
              have y0 := cell_rule (cu 0 _ rfl)
              have y1 := cell_rule (cu 1 _ rfl)
              simp only [Nat.add_zero] at x0 y0
              have kz0 : (0 : Int) ≤ (k2 : Int) := by omega
              have kz1 : (k2 : Int) < (L.length : Int) := by omega
              have bz0 : (0 : Int) ≤ (bb : Int) := by omega
              have bz1 : (bb : Int) < (L.length : Int) := by omega
              have kd : decide (k2 < L.length) = true := decide_eq_true hk
              have HPK := Lib.hid (show aPick M bb k2 = if aless x y = true then k2 else bb by unfold aPick; rw [if_pos (by have := HML.out; omega), hx, hy])
              have hl := less192 x y
              clear hx hy ci cu
              cases hq : aless x y with
              | true =>
                rw [hq] at hl
                have HLS := Lib.hid hl
                have HN := Lib.hid (show aPick M bb k2 = k2 by rw [HPK.out, hq]; rfl)
                clear hl hq HPK
                go_wp2
                go_region_held3 (fun W' => W'.cell? ⟨g, k2 * 2, none⟩ = some (.int .u64 x.due) ∧ W'.cell? ⟨g, k2 * 2 + 1, none⟩ = some (.int .i64 x.id) ∧ W'.cell? ⟨g, bb * 2, none⟩ = some (.int .u64 y.due) ∧ W'.cell? ⟨g, bb * 2 + 1, none⟩ = some (.int .i64 y.id)) (simp [*, bl_refl, bl_drew, bl_drewN, bl_alloc]) (first | (go_at_call 192; refine (HLS.out _).mono ?_; rintro e w3 ⟨rfl, hb⟩; have B3 : Below wr.heap.size wr w3 := bl_trans (bl_drew (bl_refl _)) hb; clear hb))
                go_wp2
                go_roundg 1
                case measure => omega
                case rel => exact .inr (.inr ⟨rfl, by first | rfl | go_num, by rw [HBB.out, HN.out], (bl_trans HBq.out B3)⟩)
              | false =>
                rw [hq] at hl
                have HLS := Lib.hid hl
                have HN := Lib.hid (show aPick M bb k2 = bb by rw [HPK.out, hq]; rfl)
                clear hl hq HPK
                go_wp2
                go_region_held3 (fun W' => W'.cell? ⟨g, k2 * 2, none⟩ = some (.int .u64 x.due) ∧ W'.cell? ⟨g, k2 * 2 + 1, none⟩ = some (.int .i64 x.id) ∧ W'.cell? ⟨g, bb * 2, none⟩ = some (.int .u64 y.due) ∧ W'.cell? ⟨g, bb * 2 + 1, none⟩ = some (.int .i64 y.id)) (simp [*, bl_refl, bl_drew, bl_drewN, bl_alloc]) (first | (go_at_call 192; refine (HLS.out _).mono ?_; rintro e w3 ⟨rfl, hb⟩; have B3 : Below wr.heap.size wr w3 := bl_trans (bl_drew (bl_refl _)) hb; clear hb))
                go_wp2
                go_roundg 1
                case measure => omega
                case rel => exact .inr (.inr ⟨rfl, by first | rfl | go_num, by rw [HBB.out, HN.out], (bl_trans HBq.out B3)⟩)
            · have kz1 : ¬ (k2 : Int) < (L.length : Int) := by omega
              have kd : decide (k2 < L.length) = false := decide_eq_false hk
              have HN := Lib.hid (show aPick M bb k2 = bb by unfold aPick; rw [if_neg (by have := HML.out; omega)])
              go_wp2
              go_big_region
              go_wp2
              go_roundg 1
              case measure => omega
              case rel => exact .inr (.inr ⟨rfl, by first | rfl | go_num, by rw [HBB.out, HN.out], (bl_drew HBq.out)⟩)
          · have HRq := Lib.hid (Kd.R_below HR2.out HBq.out)
            obtain ⟨bb, hbb⟩ : ∃ bb, aPick M (aPick M i k1) k2 = bb := ⟨_, rfl⟩
            have hbest : aBest M i = bb := by unfold aBest; rw [HK12.out.1, HK12.out.2]; exact hbb
            have HBE := Lib.hid hbest
            have HBW := Lib.hid (bl_trans (bl_trans HBM.out HB2.out) HBq.out)
            have hor := aBest_or M i
            rw [hbest, HML.out] at hor
            rw [hbb]
            clear r2 BW2 hbb hbest
            by_cases hq : bb = i
            · have hq1 : ((bb : Int) == (i : Int)) = true := by simp [hq]
              have HM := Lib.hid (show aSink L.length L 0 = M by
                rw [← HS.out]
                cases n with
                | zero => rfl
                | succ n => unfold aSink; rw [if_pos (by rw [HBE.out, hq])])
              clear hq hor
              go_wp2
              rw [Exit.noGoto_normal]
              go_end0
              exact ⟨rfl, by rw [HM.out]; exact HRq.out, HBW.out⟩
            · have hq1 : ((bb : Int) == (i : Int)) = false := by simp; omega
              have hib : i < bb ∧ bb < L.length := by omega
              have hiM : i < M.length := by have := HML.out; omega
              have hbM : bb < M.length := by have := HML.out; omega
              obtain ⟨x, hx⟩ : ∃ x, M[i]! = x := ⟨_, rfl⟩
              obtain ⟨y, hy⟩ : ∃ y, M[bb]! = y := ⟨_, rfl⟩
              obtain ⟨ci, _⟩ := flat_own HRq.out i hiM
              obtain ⟨cu, _⟩ := flat_own HRq.out bb hbM
              rw [hx] at ci
              rw [hy] at cu
              have x0 := cell_rule (ci 0 _ rfl)
              have x1 := cell_rule (ci 1 _ rfl)
              have y0 := cell_rule (cu 0 _ rfl)
              have y1 := cell_rule (cu 1 _ rfl)
              simp only [Nat.add_zero] at x0 y0
              obtain ⟨cg, hcg⟩ := Kd.R_typed HRq.out g rfl
              have zg := blk_frz hcg
              have Bq := bl_refl wr
              have kz0 : (0 : Int) ≤ (i : Int) := by omega
              have kz1 : (i : Int) < (L.length : Int) := by omega
              have bz0 : (0 : Int) ≤ (bb : Int) := by omega
              have bz1 : (bb : Int) < (L.length : Int) := by omega
              have niu : i * 2 ≠ bb * 2 := by omega
              have HX := Lib.hid hx
              have HY := Lib.hid hy
              have HIB := Lib.hid hib
              have HIM := Lib.hid hiM
              have HBMM := Lib.hid hbM
              clear hx hy ci cu hcg hq hor hib hiM hbM
              go_wp2
              go_big_region
              go_wp2
              go_roundg (n - 1)
              case measure => have := HIB.out; omega
              case rel =>
                have hib := HIB.out
                have e : aswap M i bb = (M.set i y).set bb x := by unfold aswap; rw [HX.out, HY.out]
                have hR := Kd.R_drew (alm_store (alm_store HRq.out i HIM.out y) bb (by rw [List.length_set]; exact HBMM.out) x)
                rw [← e] at hR
                refine ⟨bb, n - 1, aswap M i bb, .inl hib.2, by omega, by omega, rfl, hR, (show (aswap M i bb).length = _ by rw [aswap_length]; exact HML.out), ?_, ?_⟩
                · show aSink (n - 1) (aswap M i bb) bb = _
                  rw [← HS.out]
                  obtain ⟨m, rfl⟩ : ∃ m, n = m + 1 := ⟨n - 1, by omega⟩
                  rw [Nat.add_sub_cancel]
                  conv => rhs; unfold aSink
                  rw [if_neg (by rw [HBE.out]; omega), HBE.out]
                · have hge := Kd.R_base HRq.out g rfl
                  refine bl_drewB ?_
                  repeat refine bl_set ?_ hge
                  exact HBW.out
end Go.Proofs.Ytkcebmamohimoaa
