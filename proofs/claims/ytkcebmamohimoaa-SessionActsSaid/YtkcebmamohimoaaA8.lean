/- Alarms: all that are due, taken out. -/
import Derived.Test.YtkcebmamohimoaaA7
namespace Go.Proofs.Ytkcebmamohimoaa
open Go.RowKit Go.Proofs.YtkcebmamohimoaaW.PrintWords
set_option linter.unusedVariables false
set_option linter.unusedSimpArgs false
attribute [local go_sem] bl_refl bl_alloc bl_drew bl_drewN
/-- Rows of int. -/
def icells (x : Int) : List Value := [.int .i64 x]
def kI : Kd Int := flat 1 icells (fun _ => rfl) (fun x u hu => by simp [icells] at hu; subst hu; rfl)
theorem info3 : (Try.prog.info? 3).map (fun i => (i.zero, i.size, i.bytes)) = some (some (.int .i64 0), 1, 8) := by kernel_rfl
theorem aSink_length (n : Nat) (h : List Alm) (i : Nat) : (aSink n h i).length = h.length := by
  induction n generalizing h i with
  | zero => rfl
  | succ n ih => unfold aSink; split; rfl; rw [ih, aswap_length]
theorem aRest_length (h : List Alm) : (aRest h).length = h.length - 1 := by unfold aRest; rw [aSink_length, List.length_take, List.length_set]; omega
/-- The alarms that are left, and whose were due. -/
def aDue : Nat → List Alm → Int → List Alm × List Int
  | 0, h, _ => (h, [])
  | n + 1, h, now => if 0 < h.length ∧ h[0]!.due ≤ now then ((aDue n (aRest h) now).1, h[0]!.id :: (aDue n (aRest h) now).2) else (h, [])
theorem aDue_stop (n : Nat) (h : List Alm) (now : Int) (hs : ¬ (0 < h.length ∧ h[0]!.due ≤ now)) : aDue n h now = (h, []) := by
  cases n with
  | zero => rfl
  | succ n => unfold aDue; rw [if_neg hs]
theorem aDue_go (h : List Alm) (now : Int) (h0 : 0 < h.length) (hd : h[0]!.due ≤ now) : aDue h.length h now = ((aDue (aRest h).length (aRest h) now).1, h[0]!.id :: (aDue (aRest h).length (aRest h) now).2) := by
  obtain ⟨m, hm⟩ : ∃ m, h.length = m + 1 := ⟨h.length - 1, by omega⟩
  rw [aRest_length, hm, Nat.add_sub_cancel]
  conv => lhs; unfold aDue
  rw [if_pos ⟨h0, hd⟩]
set_option maxHeartbeats 16000000 in
set_option maxRecDepth 100000 in
theorem due115 (ok : Nat → Prop) (A : Option Addr) (c : Nat) (L : List Alm) (now : Int) (w : World) (h : Ft ok w (fun W => Kd.C kAlm W A L.length L)) (hc : L.length ≤ c) (hsm : L.length ≤ 1000) :
    Calls Try.prog 115 #[.slice A L.length c, .int .u64 now] w fun e w' => ∃ A1 c1 B d, e = .returned (.tuple #[.slice A1 (aDue L.length L now).1.length c1, .slice B (aDue L.length L now).2.length d]) ∧ Ft (fun k => (ok k ∧ k < w.heap.size) ∨ w.heap.size ≤ k) w' (fun W => Kd.C kAlm W A1 (aDue L.length L now).1.length (aDue L.length L now).1) ∧ (aDue L.length L now).1.length ≤ c1 ∧ (aDue L.length L now).1.length ≤ L.length ∧ Kd.R kI 3 w' w.heap.size (fun _ => True) (.slice B (aDue L.length L now).2.length d) (aDue L.length L now).2 ∧ Below w.heap.size w w' := by
  have HC := Lib.hid (h.cut.mono (fun k hk _ => .inl hk) : Ft (fun k => (ok k ∧ k < w.heap.size) ∨ w.heap.size ≤ k) w (fun W => Kd.C kAlm W A L.length L))
  obtain ⟨RES, IDS, hD⟩ : ∃ RES IDS, aDue L.length L now = (RES, IDS) := ⟨_, _, rfl⟩
  rw [hD]
  have HD := Lib.hid hD
  have HCC := Lib.hid hc
  have HSL := Lib.hid hsm
  clear h hD hc hsm
  go_enter Try.func115, Try.ntmps115
  go_wp2
  go_loopg [0, 6] L.length (fun gg s0 s6 wr => ∃ (A : Option Addr) (c : Nat) (M : List Alm) (B : Option Addr) (d : Nat) (I : List Int), M.length ≤ gg ∧ s0 = .slice A M.length c ∧ s6 = .slice B I.length d ∧ Hid (Ft (fun k => ((ok k ∧ k < w.heap.size) ∨ w.heap.size ≤ k) ∧ (Value.slice B I.length d).ownBlock ≠ some k) wr (fun W => Kd.C kAlm W A M.length M)) ∧ Hid (M.length ≤ c) ∧ Hid (Kd.R kI 3 wr w.heap.size (fun _ => True) (.slice B I.length d) I) ∧ Hid (I.length + M.length = L.length) ∧ Hid ((aDue M.length M now).1 = RES ∧ I ++ (aDue M.length M now).2 = IDS) ∧ Hid (Below w.heap.size w wr))
  case atStart => exact ⟨A, c, L, none, 0, [], Nat.le_refl _, rfl, rfl, HC.out.mono (fun k hk _ => ⟨hk, fun e => by cases e⟩), HCC.out, Kd.R_nil .., (show 0 + L.length = L.length by omega), ⟨by rw [HD.out], by rw [HD.out]; rfl⟩, bl_refl _⟩
  case round =>
    obtain ⟨A, c, M, B, d, I, hgg, rfl, rfl, HM, HMC, HI, HIL, HS, HB⟩ := hrel
    clear HC HD HCC
    have Br : Below wr.heap.size wr wr := bl_refl wr
    have HSM := Lib.hid (show M.length ≤ 1000 by have := HIL.out; have := HSL.out; omega)
    by_cases h0 : 0 < M.length
    · have hz0 : (0 : Int) < (M.length : Int) := by omega
      have hl0 : ¬ M.length = 0 := by omega
      obtain ⟨x, hx⟩ : ∃ x, M[0]! = x := ⟨_, rfl⟩
      obtain ⟨ad, rfl, x0, x1⟩ := Alm.at HM.out.self 0 h0
      rw [hx] at x0 x1
      have y0 := cell_rule x0
      have y1 := cell_rule x1
      simp only [Nat.zero_mul, add_zero_] at y0 y1
      have HX := Lib.hid hx
      have H0 := Lib.hid h0
      clear hx x0 x1
      by_cases hd : x.due ≤ now
      · have hdd : decide (x.due ≤ now) = true := decide_eq_true hd
        have HG := Lib.hid (aDue_go M now h0 (by rw [HX.out]; exact hd))
        have HPOP := Lib.hid (pop162 (some ad) c M wr HM.out.self HMC.out HSM.out h0)
        clear h0
        go_wp2_with fail
        refine HPOP.out.mono ?_
        rintro e w1 ⟨g1, c1, rfl, hR1, hb⟩
        obtain ⟨A1, hA1⟩ : ∃ A1 : Option Addr, some ⟨g1, 0, none⟩ = A1 := ⟨_, rfl⟩
        rw [← aRest_length] at hR1 ⊢
        rw [hA1] at hR1 ⊢
        clear hA1
        have HR1 := Lib.hid hR1
        have B1 := bl_refl w1
        have HB1 := Lib.hid hb
        have HXI := Lib.hid (show M[0]! = x from HX.out)
        rw [HX.out]
        clear hR1 hb y0 y1 Br HPOP
        go_wp2_with ((with_reducible refine gate_dst (N := 32) rfl ?_); refine Stop.go ?_)
        have hK := blk_new (w1.alloc (.cells #[.int .u64 x.due, .int .i64 x.id] 175)) (.cells #[.int .i64 x.id] 3)
        rw [show (w1.alloc (.cells #[.int .u64 x.due, .int .i64 x.id] 175)).heap.size = w1.heap.size + 1 from by simp] at hK
        have hBA := bl_alloc (.cells #[.int .i64 x.id] 3) (bl_alloc (.cells #[.int .u64 x.due, .int .i64 x.id] 175) (bl_trans HB.out HB1.out))
        have hB2 := bl_alloc (.cells #[.int .i64 x.id] 3) (bl_alloc (.cells #[.int .u64 x.due, .int .i64 x.id] 175) (bl_refl w1))
        refine ⟨flat_app (f := icells) (w0 := w) w.heap.size rfl (.tmp 28) (.tmp 31) 106 3 _ 8 rfl Try.underlying106 info3 rfl (by decide) (by omega) _ I [x.id] (some ⟨_, 0, none⟩) 1 1 rfl rfl (by omega) (Kd.R_below (Kd.R_below HI.out HB1.out) hB2) (C_one (f := icells) (t := 3) x.id hK) hBA hBA.size (by have := HIL.out; have := HSL.out; omega) ?_⟩
        intro g2 cap2 w2 hR2 hb2 hge2_ hat2_ hg2_ hlt2_
        have HR2 := Lib.hid hR2
        have HB2 := Lib.hid hb2
        have HG2 := Lib.hid hg2_
        have HA2 := Lib.hid hat2_
        clear hR2 hb2 hge2_ hat2_ hg2_ hlt2_ B1 hK hBA hB2
        go_wp2
        go_roundg ((aRest M).length)
        case measure => have := H0.out; have := aRest_length M; omega
        case rel =>
          refine ⟨A1, c1, aRest M, some ⟨g2, 0, none⟩, cap2, I ++ [x.id], Nat.le_refl _, rfl, by simp, ?_, (Kd.R_reads' HR1.out).2.1, ?_, ?_, ?_, HB2.out⟩
          · have hown : ∀ b, (Value.slice B I.length d).ownBlock = some b → b < wr.heap.size := fun b hb => by
              obtain ⟨cg, hcg⟩ := Kd.R_typed HI.out b hb
              exact (Array.getElem?_eq_some_iff.1 hcg).1
            have h1 : Ft (fun k => wr.heap.size ≤ k ∧ k < w1.heap.size) w1 (fun W => Kd.C kAlm W A1 (aRest M).length (aRest M)) := (R_ft HR1.out).cut
            have h2 := h1.below (bl_alloc (.cells #[.int .i64 x.id] 3) (bl_alloc (.cells #[.int .u64 x.due, .int .i64 x.id] 175) (bl_refl w1)))
            have h3 := h2.step (W1 := w2) (fun k hk hl => HG2.out.block k hl (fun e => by have := hown k e.symm; omega))
            refine h3.mono (fun k hk _ => ⟨.inr (by have := HB.out.size; omega), fun e => ?_⟩)
            have e' : g2 = k := by injection e
            rcases HA2.out with h | h
            · have := hown g2 h; omega
            · simp at h; omega
          · show Kd.R kI 3 w2 w.heap.size (fun _ => True) (.slice (some ⟨g2, 0, none⟩) (I ++ [x.id]).length cap2) (I ++ [x.id])
            rw [List.length_append]
            exact HR2.out
          · show (I ++ [x.id]).length + (aRest M).length = L.length
            have := H0.out
            have := HIL.out
            rw [List.length_append, aRest_length]
            simp
            omega
          · have h := HS.out
            rw [HG.out, HX.out] at h
            exact ⟨h.1, by rw [List.append_assoc]; exact h.2⟩
      · have hdd : decide (x.due ≤ now) = false := decide_eq_false hd
        have HG := Lib.hid (aDue_stop M.length M now (fun h => hd (by rw [← HX.out]; exact h.2)))
        clear h0
        go_wp2
        have hs := HS.out
        rw [HG.out] at hs
        obtain ⟨rfl, rfl⟩ : M = RES ∧ I = IDS := ⟨hs.1, by simpa using hs.2⟩
        exact bodyPost_ret (v := .tuple #[.slice (some ad) M.length c, .slice B I.length d]) (by simp [results, Try.results115, go_sem]) rfl ⟨_, _, _, _, rfl, HM.out.mono (fun k hk _ => hk.1), HMC.out, by have := HIL.out; omega, HI.out, HB.out⟩
    · have hz0 : ¬ (0 : Int) < (M.length : Int) := by omega
      have HG := Lib.hid (aDue_stop M.length M now (fun h => h0 h.1))
      have H0 := Lib.hid h0
      clear h0
      go_wp2
      have hs := HS.out
      rw [HG.out] at hs
      obtain ⟨rfl, rfl⟩ : M = RES ∧ I = IDS := ⟨hs.1, by simpa using hs.2⟩
      exact bodyPost_ret (v := .tuple #[.slice A M.length c, .slice B I.length d]) (by simp [results, Try.results115, go_sem]) rfl ⟨_, _, _, _, rfl, HM.out.mono (fun k hk _ => hk.1), HMC.out, by have := HIL.out; omega, HI.out, HB.out⟩
set_option maxHeartbeats 16000000 in
set_option maxRecDepth 100000 in
theorem due116 (ok : Nat → Prop) (A : Option Addr) (c : Nat) (L : List Alm) (now : Int) (w : World) (h : Ft ok w (fun W => Kd.C kAlm W A L.length L)) (hc : L.length ≤ c) (hsm : L.length ≤ 1000) :
    Calls Try.prog 116 #[.slice A L.length c, .int .u64 now] w fun e w' => ∃ A1 c1 B d, e = .returned (.tuple #[.slice A1 (aDue L.length L now).1.length c1, .slice B (aDue L.length L now).2.length d]) ∧ Ft (fun k => (ok k ∧ k < w.heap.size) ∨ w.heap.size ≤ k) w' (fun W => Kd.C kAlm W A1 (aDue L.length L now).1.length (aDue L.length L now).1) ∧ (aDue L.length L now).1.length ≤ c1 ∧ (aDue L.length L now).1.length ≤ L.length ∧ Kd.R kI 3 w' w.heap.size (fun _ => True) (.slice B (aDue L.length L now).2.length d) (aDue L.length L now).2 ∧ Below w.heap.size w w' := by
  have HC := Lib.hid (h.cut.mono (fun k hk _ => .inl hk) : Ft (fun k => (ok k ∧ k < w.heap.size) ∨ w.heap.size ≤ k) w (fun W => Kd.C kAlm W A L.length L))
  obtain ⟨RES, IDS, hD⟩ : ∃ RES IDS, aDue L.length L now = (RES, IDS) := ⟨_, _, rfl⟩
  rw [hD]
  have HD := Lib.hid hD
  have HCC := Lib.hid hc
  have HSL := Lib.hid hsm
  clear h hD hc hsm
  go_enter Try.func116, Try.ntmps116
  go_wp2
  go_loopg [0, 6] L.length (fun gg s0 s6 wr => ∃ (A : Option Addr) (c : Nat) (M : List Alm) (B : Option Addr) (d : Nat) (I : List Int), M.length ≤ gg ∧ s0 = .slice A M.length c ∧ s6 = .slice B I.length d ∧ Hid (Ft (fun k => ((ok k ∧ k < w.heap.size) ∨ w.heap.size ≤ k) ∧ (Value.slice B I.length d).ownBlock ≠ some k) wr (fun W => Kd.C kAlm W A M.length M)) ∧ Hid (M.length ≤ c) ∧ Hid (Kd.R kI 3 wr w.heap.size (fun _ => True) (.slice B I.length d) I) ∧ Hid (I.length + M.length = L.length) ∧ Hid ((aDue M.length M now).1 = RES ∧ I ++ (aDue M.length M now).2 = IDS) ∧ Hid (Below w.heap.size w wr))
  case atStart => exact ⟨A, c, L, none, 0, [], Nat.le_refl _, rfl, rfl, HC.out.mono (fun k hk _ => ⟨hk, fun e => by cases e⟩), HCC.out, Kd.R_nil .., (show 0 + L.length = L.length by omega), ⟨by rw [HD.out], by rw [HD.out]; rfl⟩, bl_refl _⟩
  case round =>
    obtain ⟨A, c, M, B, d, I, hgg, rfl, rfl, HM, HMC, HI, HIL, HS, HB⟩ := hrel
    clear HC HD HCC
    have Br : Below wr.heap.size wr wr := bl_refl wr
    have HSM := Lib.hid (show M.length ≤ 1000 by have := HIL.out; have := HSL.out; omega)
    by_cases h0 : 0 < M.length
    · have hz0 : (0 : Int) < (M.length : Int) := by omega
      have hl0 : ¬ M.length = 0 := by omega
      obtain ⟨x, hx⟩ : ∃ x, M[0]! = x := ⟨_, rfl⟩
      obtain ⟨ad, rfl, x0, x1⟩ := Alm.at HM.out.self 0 h0
      rw [hx] at x0 x1
      have y0 := cell_rule x0
      have y1 := cell_rule x1
      simp only [Nat.zero_mul, add_zero_] at y0 y1
      have HX := Lib.hid hx
      have H0 := Lib.hid h0
      clear hx x0 x1
      by_cases hd : x.due ≤ now
      · have hdd : decide (x.due ≤ now) = true := decide_eq_true hd
        have HG := Lib.hid (aDue_go M now h0 (by rw [HX.out]; exact hd))
        have HPOP := Lib.hid (pop163 (some ad) c M wr HM.out.self HMC.out HSM.out h0)
        clear h0
        go_wp2_with fail
        refine HPOP.out.mono ?_
        rintro e w1 ⟨v1, rfl, hR1, hb⟩
        obtain ⟨A1, c1, rfl⟩ := Kd.R_slice hR1
        have HR1 := Lib.hid hR1
        have B1 := bl_refl w1
        have HB1 := Lib.hid hb
        have HXI := Lib.hid (show M[0]! = x from HX.out)
        rw [HX.out]
        clear hR1 hb y0 y1 Br HPOP
        go_wp2_with ((with_reducible refine gate_dst (N := 32) rfl ?_); refine Stop.go ?_)
        have hK := blk_new (w1.alloc (.cells #[.int .u64 x.due, .int .i64 x.id] 175)) (.cells #[.int .i64 x.id] 3)
        rw [show (w1.alloc (.cells #[.int .u64 x.due, .int .i64 x.id] 175)).heap.size = w1.heap.size + 1 from by simp] at hK
        have hBA := bl_alloc (.cells #[.int .i64 x.id] 3) (bl_alloc (.cells #[.int .u64 x.due, .int .i64 x.id] 175) (bl_trans HB.out HB1.out))
        have hB2 := bl_alloc (.cells #[.int .i64 x.id] 3) (bl_alloc (.cells #[.int .u64 x.due, .int .i64 x.id] 175) (bl_refl w1))
        refine ⟨flat_app (f := icells) (w0 := w) w.heap.size rfl (.tmp 28) (.tmp 31) 106 3 _ 8 rfl Try.underlying106 info3 rfl (by decide) (by omega) _ I [x.id] (some ⟨_, 0, none⟩) 1 1 rfl rfl (by omega) (Kd.R_below (Kd.R_below HI.out HB1.out) hB2) (C_one (f := icells) (t := 3) x.id hK) hBA hBA.size (by have := HIL.out; have := HSL.out; omega) ?_⟩
        intro g2 cap2 w2 hR2 hb2 hge2_ hat2_ hg2_ hlt2_
        have HR2 := Lib.hid hR2
        have HB2 := Lib.hid hb2
        have HG2 := Lib.hid hg2_
        have HA2 := Lib.hid hat2_
        clear hR2 hb2 hge2_ hat2_ hg2_ hlt2_ B1 hK hBA hB2
        go_wp2
        go_roundg ((aRest M).length)
        case measure => have := H0.out; have := aRest_length M; omega
        case rel =>
          refine ⟨A1, c1, aRest M, some ⟨g2, 0, none⟩, cap2, I ++ [x.id], Nat.le_refl _, rfl, by simp, ?_, (Kd.R_reads' HR1.out).2.1, ?_, ?_, ?_, HB2.out⟩
          · have hown : ∀ b, (Value.slice B I.length d).ownBlock = some b → b < wr.heap.size := fun b hb => by
              obtain ⟨cg, hcg⟩ := Kd.R_typed HI.out b hb
              exact (Array.getElem?_eq_some_iff.1 hcg).1
            have h1 : Ft (fun k => wr.heap.size ≤ k ∧ k < w1.heap.size) w1 (fun W => Kd.C kAlm W A1 (aRest M).length (aRest M)) := (R_ft HR1.out).cut
            have h2 := h1.below (bl_alloc (.cells #[.int .i64 x.id] 3) (bl_alloc (.cells #[.int .u64 x.due, .int .i64 x.id] 175) (bl_refl w1)))
            have h3 := h2.step (W1 := w2) (fun k hk hl => HG2.out.block k hl (fun e => by have := hown k e.symm; omega))
            refine h3.mono (fun k hk _ => ⟨.inr (by have := HB.out.size; omega), fun e => ?_⟩)
            have e' : g2 = k := by injection e
            rcases HA2.out with h | h
            · have := hown g2 h; omega
            · simp at h; omega
          · show Kd.R kI 3 w2 w.heap.size (fun _ => True) (.slice (some ⟨g2, 0, none⟩) (I ++ [x.id]).length cap2) (I ++ [x.id])
            rw [List.length_append]
            exact HR2.out
          · show (I ++ [x.id]).length + (aRest M).length = L.length
            have := H0.out
            have := HIL.out
            rw [List.length_append, aRest_length]
            simp
            omega
          · have h := HS.out
            rw [HG.out, HX.out] at h
            exact ⟨h.1, by rw [List.append_assoc]; exact h.2⟩
      · have hdd : decide (x.due ≤ now) = false := decide_eq_false hd
        have HG := Lib.hid (aDue_stop M.length M now (fun h => hd (by rw [← HX.out]; exact h.2)))
        clear h0
        go_wp2
        have hs := HS.out
        rw [HG.out] at hs
        obtain ⟨rfl, rfl⟩ : M = RES ∧ I = IDS := ⟨hs.1, by simpa using hs.2⟩
        exact bodyPost_ret (v := .tuple #[.slice (some ad) M.length c, .slice B I.length d]) (by simp [results, Try.results116, go_sem]) rfl ⟨_, _, _, _, rfl, HM.out.mono (fun k hk _ => hk.1), HMC.out, by have := HIL.out; omega, HI.out, HB.out⟩
    · have hz0 : ¬ (0 : Int) < (M.length : Int) := by omega
      have HG := Lib.hid (aDue_stop M.length M now (fun h => h0 h.1))
      have H0 := Lib.hid h0
      clear h0
      go_wp2
      have hs := HS.out
      rw [HG.out] at hs
      obtain ⟨rfl, rfl⟩ : M = RES ∧ I = IDS := ⟨hs.1, by simpa using hs.2⟩
      exact bodyPost_ret (v := .tuple #[.slice A M.length c, .slice B I.length d]) (by simp [results, Try.results116, go_sem]) rfl ⟨_, _, _, _, rfl, HM.out.mono (fun k hk _ => hk.1), HMC.out, by have := HIL.out; omega, HI.out, HB.out⟩
end Go.Proofs.Ytkcebmamohimoaa
