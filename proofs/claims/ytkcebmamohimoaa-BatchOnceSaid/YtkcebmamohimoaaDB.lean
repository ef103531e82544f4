/- States: batch.Decided, Same, Do, and what they are, plainly. -/
import Derived.Test.YtkcebmamohimoaaE1
import Derived.Test.YtkcebmamohimoaaG2
import Derived.Test.YtkcebmamohimoaaS1
import Derived.BigRegion
import Derived.Test.YtkcebmamohimoaaDA
import Derived.Test.YtkcebmamohimoaaB3
namespace Go.Proofs.Ytkcebmamohimoaa
open Go.RowKit Go.Proofs.YtkcebmamohimoaaW.PrintWords
set_option linter.unusedVariables false
set_option linter.unusedSimpArgs false
attribute [local go_sem] bl_refl bl_alloc bl_drew bl_drewN
attribute [local go_sem high] eqA78 eqA175 eqA161 eqA127 eqA110
theorem bl_drewB_ {B : Nat} {a w : World} (h : Below B a w) : Below B a w.drew := h.drew
theorem row_ext_ {α : Type} [Inhabited α] {L M : List α} (hl : L.length = M.length) (h : ∀ j, j < L.length → L[j]! = M[j]!) : L = M := by
  refine List.ext_getElem hl (fun i h1 h2 => ?_)
  have := h i h1
  rwa [getElem!_pos L i h1, getElem!_pos M i h2] at this
theorem neq_eqPr125 (x y : Pr) : (!(x.key.toList == y.key.toList) || (!(x.val.toList == y.val.toList))) = !eqPr x y := by unfold eqPr; simp only [Bool.not_and]
set_option maxHeartbeats 8000000 in
set_option maxRecDepth 100000 in
theorem equal125 (A1 A2 : Option Addr) (c1 c2 : Nat) (L M : List Pr) (b : Bool) (hb : b = true ↔ L = M) (w : World) (h1 : Kd.C kPr w A1 L.length L) (h2 : Kd.C kPr w A2 M.length M) :
    Calls Try.prog 125 #[.slice A1 L.length c1, .slice A2 M.length c2] w fun e w' => e = .returned (.bool b) ∧ Below w.heap.size w w' := by
  by_cases hl : L.length = M.length
  rotate_left
  · have hlz : ¬ ((L.length : Int) = (M.length : Int)) := by omega
    obtain rfl : b = false := by
      cases b with
      | false => rfl
      | true => exact absurd (congrArg List.length (hb.1 rfl)) hl
    have B0 := bl_refl w
    clear h1 h2 hb hl
    go_enter Try.func125, Try.ntmps125
    go_wp2
    go_ret
    exact ⟨rfl, B0⟩
  have hm : L.length ≤ 9223372036854775807 := h1.2.1
  have HC1 := Lib.hid h1
  have HC2 := Lib.hid (show Kd.C kPr w A2 L.length M by rw [hl]; exact h2)
  have HL := Lib.hid hl
  have HBB := Lib.hid hb
  rw [← hl]
  clear h1 h2 hl hb
  go_enter Try.func125, Try.ntmps125
  go_wp2
  go_loopg [13] L.length (fun gg s13 wr => ∃ kk : Nat, kk ≤ L.length ∧ L.length - kk ≤ gg ∧ s13 = .int .i64 kk ∧ Hid (Below w.heap.size w wr) ∧ Hid (∀ j, j < kk → L[j]! = M[j]!))
  case atStart => exact ⟨0, Nat.zero_le _, by omega, rfl, Below.refl _ _, fun j hj => absurd hj (Nat.not_lt_zero _)⟩
  case round =>
    obtain ⟨kk, hkk, hg, rfl, HB, HE⟩ := hrel
    by_cases hlt : kk < L.length
    · have hltz : (kk : Int) < (L.length : Int) := by omega
      have hk0 : (0 : Int) ≤ (kk : Int) := by omega
      obtain ⟨x, hx⟩ : ∃ x, L[kk]! = x := ⟨_, rfl⟩
      obtain ⟨y, hy⟩ : ∃ y, M[kk]! = y := ⟨_, rfl⟩
      obtain ⟨ad, rfl, x0, x1⟩ := Pr.at (Kd.C_below HC1.out HB.out) kk hlt
      obtain ⟨bd, rfl, y0, y1⟩ := Pr.at (Kd.C_below (show Kd.C kPr w A2 M.length M by rw [← HL.out]; exact HC2.out) HB.out) kk (by rw [← HL.out]; exact hlt)
      rw [hx] at x0 x1
      rw [hy] at y0 y1
      have p0 := cell_rule x0
      have q0 := cell_rule y0
      have p1 := cell_rule x1
      have q1 := cell_rule y1
      have Br := bl_refl wr
      have HX := Lib.hid hx
      have HY := Lib.hid hy
      clear hx hy x0 x1 y0 y1
      cases hq : eqPr x y with
      | true =>
        have HQ := Lib.hid hq
        have hq1 : (!(x.key.toList == y.key.toList) || (!(x.val.toList == y.val.toList))) = false := by rw [neq_eqPr125, hq]; rfl
        clear hq
        go_wp2
        go_big_region
        go_wp2
        go_roundg (L.length - (kk + 1))
        case measure => omega
        case rel =>
          refine ⟨kk + 1, by omega, by omega, by go_num, bl_drewB_ HB.out, fun j hj => ?_⟩
          by_cases e : j = kk
          · rw [e, HX.out, HY.out]; exact (eqPr_iff x y).1 HQ.out
          · exact HE.out j (by omega)
      | false =>
        obtain rfl : b = false := by
          cases b with
          | false => rfl
          | true =>
            have e := HBB.out.1 rfl
            rw [← e, HX.out] at HY
            have e2 : x = y := HY.out
            rw [(eqPr_iff x y).2 e2] at hq
            cases hq
        have hq1 : (!(x.key.toList == y.key.toList) || (!(x.val.toList == y.val.toList))) = true := by rw [neq_eqPr125, hq]; rfl
        clear hq
        go_wp2
        go_big_region
        go_wp2
        go_ret
        exact ⟨rfl, bl_drewB_ HB.out⟩
    · have hltz : ¬ (kk : Int) < (L.length : Int) := by omega
      obtain rfl : b = true := HBB.out.2 (row_ext_ HL.out (fun j hj => HE.out j (by omega)))
      go_wp2
      go_ret
      exact ⟨rfl, HB.out⟩
theorem neq_eqPr39 (x y : Pr) : (!(x.key.toList == y.key.toList) || (!(x.val.toList == y.val.toList))) = !eqPr x y := by unfold eqPr; simp only [Bool.not_and]
set_option maxHeartbeats 8000000 in
set_option maxRecDepth 100000 in
theorem equal39 (A1 A2 : Option Addr) (c1 c2 : Nat) (L M : List Pr) (b : Bool) (hb : b = true ↔ L = M) (w : World) (h1 : Kd.C kPr w A1 L.length L) (h2 : Kd.C kPr w A2 M.length M) :
    Calls Try.prog 39 #[.slice A1 L.length c1, .slice A2 M.length c2] w fun e w' => e = .returned (.bool b) ∧ Below w.heap.size w w' := by
  by_cases hl : L.length = M.length
  rotate_left
  · have hlz : ¬ ((L.length : Int) = (M.length : Int)) := by omega
    obtain rfl : b = false := by
      cases b with
      | false => rfl
      | true => exact absurd (congrArg List.length (hb.1 rfl)) hl
    have B0 := bl_refl w
    clear h1 h2 hb hl
    go_enter Try.func39, Try.ntmps39
    go_wp2
    go_ret
    exact ⟨rfl, B0⟩
  have hm : L.length ≤ 9223372036854775807 := h1.2.1
  have HC1 := Lib.hid h1
  have HC2 := Lib.hid (show Kd.C kPr w A2 L.length M by rw [hl]; exact h2)
  have HL := Lib.hid hl
  have HBB := Lib.hid hb
  rw [← hl]
  clear h1 h2 hl hb
  go_enter Try.func39, Try.ntmps39
  go_wp2
  go_loopg [5] L.length (fun gg s5 wr => ∃ kk : Nat, kk ≤ L.length ∧ L.length - kk ≤ gg ∧ s5 = .int .i64 kk ∧ Hid (Below w.heap.size w wr) ∧ Hid (∀ j, j < kk → L[j]! = M[j]!))
  case atStart => exact ⟨0, Nat.zero_le _, by omega, rfl, Below.refl _ _, fun j hj => absurd hj (Nat.not_lt_zero _)⟩
  case round =>
    obtain ⟨kk, hkk, hg, rfl, HB, HE⟩ := hrel
    by_cases hlt : kk < L.length
    · have hltz : (kk : Int) < (L.length : Int) := by omega
      have hk0 : (0 : Int) ≤ (kk : Int) := by omega
      obtain ⟨x, hx⟩ : ∃ x, L[kk]! = x := ⟨_, rfl⟩
      obtain ⟨y, hy⟩ : ∃ y, M[kk]! = y := ⟨_, rfl⟩
      obtain ⟨ad, rfl, x0, x1⟩ := Pr.at (Kd.C_below HC1.out HB.out) kk hlt
      obtain ⟨bd, rfl, y0, y1⟩ := Pr.at (Kd.C_below (show Kd.C kPr w A2 M.length M by rw [← HL.out]; exact HC2.out) HB.out) kk (by rw [← HL.out]; exact hlt)
      rw [hx] at x0 x1
      rw [hy] at y0 y1
      have p0 := cell_rule x0
      have q0 := cell_rule y0
      have p1 := cell_rule x1
      have q1 := cell_rule y1
      have Br := bl_refl wr
      have HX := Lib.hid hx
      have HY := Lib.hid hy
      clear hx hy x0 x1 y0 y1
      cases hq : eqPr x y with
      | true =>
        have HQ := Lib.hid hq
        have hq1 : (!(x.key.toList == y.key.toList) || (!(x.val.toList == y.val.toList))) = false := by rw [neq_eqPr39, hq]; rfl
        clear hq
        go_wp2
        go_big_region
        go_wp2
        go_roundg (L.length - (kk + 1))
        case measure => omega
        case rel =>
          refine ⟨kk + 1, by omega, by omega, by go_num, bl_drewB_ HB.out, fun j hj => ?_⟩
          by_cases e : j = kk
          · rw [e, HX.out, HY.out]; exact (eqPr_iff x y).1 HQ.out
          · exact HE.out j (by omega)
      | false =>
        obtain rfl : b = false := by
          cases b with
          | false => rfl
          | true =>
            have e := HBB.out.1 rfl
            rw [← e, HX.out] at HY
            have e2 : x = y := HY.out
            rw [(eqPr_iff x y).2 e2] at hq
            cases hq
        have hq1 : (!(x.key.toList == y.key.toList) || (!(x.val.toList == y.val.toList))) = true := by rw [neq_eqPr39, hq]; rfl
        clear hq
        go_wp2
        go_big_region
        go_wp2
        go_ret
        exact ⟨rfl, bl_drewB_ HB.out⟩
    · have hltz : ¬ (kk : Int) < (L.length : Int) := by omega
      obtain rfl : b = true := HBB.out.2 (row_ext_ HL.out (fun j hj => HE.out j (by omega)))
      go_wp2
      go_ret
      exact ⟨rfl, HB.out⟩
end Go.Proofs.Ytkcebmamohimoaa
namespace Go.Proofs.Ytkcebmamohimoaa
open Go.RowKit Go.Proofs.YtkcebmamohimoaaW.PrintWords Go.Proofs.YtkcebmamohimoaaW.PrintLast
set_option linter.unusedVariables false
set_option linter.unusedSimpArgs false
attribute [local go_sem] bl_refl bl_alloc bl_drew bl_drewN
/-- api.State. -/
structure St where
  data : List Pr
  toks : List Pr
def howB (k : Int) : ByteArray := if k = 2 then ⟨#[103]⟩ else ⟨#[99]⟩
set_option maxHeartbeats 4000000 in
set_option maxRecDepth 100000 in
theorem decided56 (A2 : Option Addr) (c2 : Nat) (v1 : Value) (hv : v1.oneCell' = true) (T : List Pr) (key : ByteArray) (w : World) (h : Kd.C kPr w A2 T.length T) :
    Calls Try.prog 56 #[.agg #[v1, .slice A2 T.length c2], .string key] w fun e w' => e = .returned (.tuple #[.string (tFind T key).1, .bool (tFind T key).2]) ∧ Below w.heap.size w w' := by
  obtain ⟨W, hW, K1, HW, hs⟩ := boxes1 w #[v1, .slice A2 T.length c2] 86
  have HC := Lib.hid (Kd.C_below h HW)
  have r1 := blk_cells K1
  have HWW := Lib.hid hW
  have HWB := Lib.hid HW
  have B0 : Below W.heap.size W W := bl_refl W
  clear h hW HW K1 hs
  go_enter Try.func56, Try.ntmps56
  go_wp2_with fail
  rw [HWW.out]
  refine (find122 A2 c2 T key W HC.out).mono ?_
  rintro e w1 ⟨rfl, hb⟩
  have HB := Lib.hid hb
  obtain ⟨r, hr⟩ : ∃ r, tFind T key = r := ⟨_, rfl⟩
  rw [hr]
  have HRR := Lib.hid hr
  clear hb hr B0
  go_wp2
  exact bodyPost_ret (v := .tuple #[.string r.1, .bool r.2]) (by simp [results, Try.results56, go_sem]) rfl ⟨by rw [HRR.out], bl_trans HWB.out HB.out⟩
set_option maxHeartbeats 4000000 in
set_option maxRecDepth 100000 in
theorem same58 (A1 A2 A3 A4 : Option Addr) (c1 c2 c3 c4 : Nat) (s t : St) (w : World) (h1 : Kd.C kPr w A1 s.data.length s.data) (h2 : Kd.C kPr w A2 s.toks.length s.toks) (h3 : Kd.C kPr w A3 t.data.length t.data) (h4 : Kd.C kPr w A4 t.toks.length t.toks) (b : Bool) (hb : b = true ↔ (s.data = t.data ∧ s.toks = t.toks)) :
    Calls Try.prog 58 #[.agg #[.slice A1 s.data.length c1, .slice A2 s.toks.length c2], .agg #[.slice A3 t.data.length c3, .slice A4 t.toks.length c4]] w fun e w' => e = .returned (.bool b) ∧ Below w.heap.size w w' := by
  obtain ⟨b1, hb1⟩ : ∃ b1 : Bool, b1 = true ↔ s.data = t.data := by
    by_cases h : s.data = t.data
    · exact ⟨true, by simp [h]⟩
    · exact ⟨false, by simp [h]⟩
  obtain ⟨b2, hb2⟩ : ∃ b2 : Bool, b2 = true ↔ s.toks = t.toks := by
    by_cases h : s.toks = t.toks
    · exact ⟨true, by simp [h]⟩
    · exact ⟨false, by simp [h]⟩
  obtain rfl : b = (b1 && b2) := by
    rw [Bool.eq_iff_iff, hb, ← hb1, ← hb2, Bool.and_eq_true]
  clear hb
  obtain ⟨W, hW, K1, K2, HW, hs⟩ := boxes2 w #[.slice A1 s.data.length c1, .slice A2 s.toks.length c2] 86 #[.slice A3 t.data.length c3, .slice A4 t.toks.length c4] 86
  have E1 := Lib.hid (fun w' hb => equal125 A1 A3 c1 c3 s.data t.data b1 hb1 w' (Kd.C_below (Kd.C_below h1 HW) hb) (Kd.C_below (Kd.C_below h3 HW) hb))
  have E2 := Lib.hid (fun w' hb => equal125 A2 A4 c2 c4 s.toks t.toks b2 hb2 w' (Kd.C_below (Kd.C_below h2 HW) hb) (Kd.C_below (Kd.C_below h4 HW) hb))
  have r1 := blk_cells K1
  have r2 := blk_cells K2
  have HWW := Lib.hid hW
  have HWB := Lib.hid HW
  have B0 : Below W.heap.size W W := bl_refl W
  clear h1 h2 h3 h4 hW HW K1 K2 hs hb1 hb2
  cases b1 with
  | false =>
    go_enter Try.func58, Try.ntmps58
    go_wp2_with fail
    rw [HWW.out]
    refine (E1.out W B0).mono ?_
    rintro e w1 ⟨rfl, hb⟩
    have B1 : Below W.heap.size W w1 := hb
    clear hb B0
    go_wp2_with fail
    go_ret
    exact ⟨rfl, bl_trans HWB.out B1⟩
  | true =>
    go_enter Try.func58, Try.ntmps58
    go_wp2_with fail
    rw [HWW.out]
    refine (E1.out W B0).mono ?_
    rintro e w1 ⟨rfl, hb⟩
    have B1 : Below W.heap.size W w1 := hb
    clear hb B0
    go_wp2_with fail
    refine (E2.out w1 B1).mono ?_
    rintro e w2 ⟨rfl, hb⟩
    have HB2 := Lib.hid (bl_trans HWB.out (bl_trans B1 hb))
    clear hb B1
    go_wp2
    go_ret
    exact ⟨by rw [Bool.true_and]; rfl, HB2.out⟩
set_option maxHeartbeats 8000000 in
set_option maxRecDepth 100000 in
theorem do57_bad (A1 A2 A3 : Option Addr) (c1 c2 c3 : Nat) (s : St) (b : Bt) (w : World) (h1 : Kd.C kPr w A1 s.data.length s.data) (h2 : Kd.C kPr w A2 s.toks.length s.toks) (h3 : Kd.C kWr w A3 b.ws.length b.ws) (hm : b.may = false) :
    Calls Try.prog 57 #[.agg #[.slice A1 s.data.length c1, .slice A2 s.toks.length c2], .agg #[.int .i64 b.kind, .string b.tok, .slice A3 b.ws.length c3]] w fun e w' => e = .returned (.tuple #[.agg #[.slice A1 s.data.length c1, .slice A2 s.toks.length c2], .int .i64 1]) ∧ Below w.heap.size w w' := by
  obtain ⟨W, hW, K1, K2, K3, HW, hs⟩ := boxes3 w #[.slice A1 s.data.length c1, .slice A2 s.toks.length c2] 86 #[.int .i64 b.kind, .string b.tok, .slice A3 b.ws.length c3] 50 #[.slice none 0 0, .slice none 0 0] 86
  have HC1 := Lib.hid (Kd.C_below h1 HW)
  have HC2 := Lib.hid (Kd.C_below h2 HW)
  have HC3 := Lib.hid (Kd.C_below h3 HW)
  have r1 := blk_cells K1
  have r2 := blk_cells K2
  have r3 := blk_cells K3
  have z3 := blk_frz K3
  have HWW := Lib.hid hW
  have HWB := Lib.hid HW
  have HS := Lib.hid hs
  have HM := Lib.hid hm
  have n13 : w.heap.size ≠ w.heap.size + 2 := by omega
  have n23 : w.heap.size + 1 ≠ w.heap.size + 2 := by omega
  have B0 : Below W.heap.size W W := bl_refl W
  clear hW HW K1 K2 K3 hs h1 h2 h3 hm
  go_enter Try.func57, Try.ntmps57
  go_wp2_with fail
  rw [HWW.out]
  refine (may34 A3 c3 b W HC3.out).mono ?_
  rintro e w1 ⟨rfl, hb⟩
  rw [HM.out]
  have B1 : Below W.heap.size W w1 := hb
  clear hb B0
  go_wp2
  have hs1 := HS.out
  refine bodyPost_ret (v := .tuple #[.agg #[.slice A1 s.data.length c1, .slice A2 s.toks.length c2], .int .i64 1]) (by simp [results, Try.results57, go_sem, r3, z3, B1, World.cell?_setCell_far, n13, n23]) rfl ⟨rfl, ?_⟩
  repeat refine bl_set ?_ (by omega)
  exact bl_trans HWB.out B1
set_option maxHeartbeats 8000000 in
set_option maxRecDepth 100000 in
theorem do57_there (A1 A2 A3 : Option Addr) (c1 c2 c3 : Nat) (s : St) (b : Bt) (w : World) (h1 : Kd.C kPr w A1 s.data.length s.data) (h2 : Kd.C kPr w A2 s.toks.length s.toks) (h3 : Kd.C kWr w A3 b.ws.length b.ws) (hm : b.may = true) (hd : (tFind s.toks b.tok).2 = true) :
    Calls Try.prog 57 #[.agg #[.slice A1 s.data.length c1, .slice A2 s.toks.length c2], .agg #[.int .i64 b.kind, .string b.tok, .slice A3 b.ws.length c3]] w fun e w' => e = .returned (.tuple #[.agg #[.slice A1 s.data.length c1, .slice A2 s.toks.length c2], .int .i64 8]) ∧ Below w.heap.size w w' := by
  obtain ⟨W, hW, K1, K2, K3, HW, hs⟩ := boxes3 w #[.slice A1 s.data.length c1, .slice A2 s.toks.length c2] 86 #[.int .i64 b.kind, .string b.tok, .slice A3 b.ws.length c3] 50 #[.slice none 0 0, .slice none 0 0] 86
  have HC1 := Lib.hid (Kd.C_below h1 HW)
  have HC2 := Lib.hid (Kd.C_below h2 HW)
  have HC3 := Lib.hid (Kd.C_below h3 HW)
  have r1 := blk_cells K1
  have r2 := blk_cells K2
  have r3 := blk_cells K3
  have z3 := blk_frz K3
  have HWW := Lib.hid hW
  have HWB := Lib.hid HW
  have HS := Lib.hid hs
  have HM := Lib.hid hm
  have n13 : w.heap.size ≠ w.heap.size + 2 := by omega
  have n23 : w.heap.size + 1 ≠ w.heap.size + 2 := by omega
  have B0 : Below W.heap.size W W := bl_refl W
  have HD := Lib.hid hd
  clear hW HW K1 K2 K3 hs h1 h2 h3 hm hd
  go_enter Try.func57, Try.ntmps57
  go_wp2_with fail
  rw [HWW.out]
  refine (may34 A3 c3 b W HC3.out).mono ?_
  rintro e w1 ⟨rfl, hb⟩
  rw [HM.out]
  have B1 : Below W.heap.size W w1 := hb
  clear hb B0
  go_wp2_with fail
  refine (decided56 A2 c2 (.slice A1 s.data.length c1) rfl s.toks b.tok w1 (Kd.C_below HC2.out B1)).mono ?_
  rintro e w2 ⟨rfl, hb⟩
  have B2 : Below W.heap.size W w2 := bl_trans B1 hb
  rw [HD.out]
  clear hb B1
  go_wp2
  have hs1 := HS.out
  refine bodyPost_ret (v := .tuple #[.agg #[.slice A1 s.data.length c1, .slice A2 s.toks.length c2], .int .i64 8]) (by simp [results, Try.results57, go_sem, r3, z3, B2, World.cell?_setCell_far, n13, n23]) rfl ⟨rfl, ?_⟩
  repeat refine bl_set ?_ (by omega)
  exact bl_trans HWB.out B2
set_option maxHeartbeats 8000000 in
set_option maxRecDepth 100000 in
theorem do57_ok (A1 A2 A3 : Option Addr) (c1 c2 c3 : Nat) (s : St) (b : Bt) (w : World) (h1 : Kd.C kPr w A1 s.data.length s.data) (h2 : Kd.C kPr w A2 s.toks.length s.toks) (h3 : Kd.C kWr w A3 b.ws.length b.ws) (hm : b.may = true) (hd : (tFind s.toks b.tok).2 = false) (l1 : s.data.length ≤ c1) (l2 : s.toks.length ≤ c2) (hlim : (s.data.length + b.ws.length + 1) * 32 ≤ 140737488355328) (hlim2 : (s.toks.length + 1) * 32 ≤ 140737488355328) :
    Calls Try.prog 57 #[.agg #[.slice A1 s.data.length c1, .slice A2 s.toks.length c2], .agg #[.int .i64 b.kind, .string b.tok, .slice A3 b.ws.length c3]] w fun e w' => ∃ A4 c4 A5 c5, e = .returned (.tuple #[.agg #[.slice A4 (tApply s.data b.ws).length c4, .slice A5 (tPut s.toks b.tok (howB b.kind)).length c5], .int .i64 0]) ∧ Ft (fun k => w.heap.size ≤ k) w' (fun W => Kd.C kPr W A4 (tApply s.data b.ws).length (tApply s.data b.ws)) ∧ (tApply s.data b.ws).length ≤ c4 ∧ Ft (fun k => w.heap.size ≤ k) w' (fun W => Kd.C kPr W A5 (tPut s.toks b.tok (howB b.kind)).length (tPut s.toks b.tok (howB b.kind))) ∧ (tPut s.toks b.tok (howB b.kind)).length ≤ c5 ∧ Below w.heap.size w w' := by
  have hkk := (may_ok hm).kind
  obtain ⟨W, hW, K1, K2, K3, HW, hs⟩ := boxes3 w #[.slice A1 s.data.length c1, .slice A2 s.toks.length c2] 86 #[.int .i64 b.kind, .string b.tok, .slice A3 b.ws.length c3] 50 #[.slice none 0 0, .slice none 0 0] 86
  have HC1 := Lib.hid (Kd.C_below h1 HW)
  have HC2 := Lib.hid (Kd.C_below h2 HW)
  have HC3 := Lib.hid (Kd.C_below h3 HW)
  have r1 := blk_cells K1
  have r2 := blk_cells K2
  have r3 := blk_cells K3
  have z3 := blk_frz K3
  have HWW := Lib.hid hW
  have HWB := Lib.hid HW
  have HS := Lib.hid hs
  have HM := Lib.hid hm
  have n13 : w.heap.size ≠ w.heap.size + 2 := by omega
  have n23 : w.heap.size + 1 ≠ w.heap.size + 2 := by omega
  have B0 : Below W.heap.size W W := bl_refl W
  have HD := Lib.hid hd
  have HL1 := Lib.hid l1
  have HL2 := Lib.hid l2
  have HLIM := Lib.hid hlim
  have HLIM2 := Lib.hid hlim2
  clear hW HW K1 K2 K3 hs h1 h2 h3 hm hd l1 l2 hlim hlim2
  rcases hkk with hk | hk
  · have HH := Lib.hid (show howB b.kind = ⟨#[99]⟩ by unfold howB; rw [hk]; rfl)
    have e3 : (b.kind == 2) = false := by rw [hk]; rfl
    rw [HH.out]
    clear hk
    go_enter Try.func57, Try.ntmps57
    go_wp2_with fail
    rw [HWW.out]
    refine (may34 A3 c3 b W HC3.out).mono ?_
    rintro e w1 ⟨rfl, hb⟩
    rw [HM.out]
    have B1 : Below W.heap.size W w1 := hb
    clear hb B0
    go_wp2_with fail
    refine (decided56 A2 c2 (.slice A1 s.data.length c1) rfl s.toks b.tok w1 (Kd.C_below HC2.out B1)).mono ?_
    rintro e w2 ⟨rfl, hb⟩
    have B2 : Below W.heap.size W w2 := bl_trans B1 hb
    rw [HD.out]
    clear hb B1
    go_wp2
    refine start_ (n := 14) (S := fun w' => w'.cell? ⟨w.heap.size, 0, none⟩ = some (.slice A1 s.data.length c1) ∧ w'.cell? ⟨w.heap.size, 1, none⟩ = some (.slice A2 s.toks.length c2) ∧ w'.cell? ⟨w.heap.size + 1, 1, none⟩ = some (.string b.tok) ∧ w'.cell? ⟨w.heap.size + 1, 2, none⟩ = some (.slice A3 b.ws.length c3)) (ds := [12]) #[false, false, false, false, false, false, false, false, false, false, false, false, false, false] (by kernel_rfl) rfl rfl ⟨(r1 _ 0 (bl_drew B2)), (r1 _ 1 (bl_drew B2)), (r2 _ 1 (bl_drew B2)), (r2 _ 2 (bl_drew B2))⟩ (fun hHeld => ?_)
    refine pure_ (i := 0) (N := some 25) (v := ?_) (a' := ?_) #[true, false, false, false, false, false, false, false, false, false, false, false, false, false] rfl rfl (by kernel_rfl) (fun _ _ _ h => h) (Or.inl ⟨by rfl, ?_⟩) ?_ ?_
    rotate_left
    · intro w'
      go_simp
      with_reducible rfl
    rotate_left
    · simp only [Act.put, List.setIfInBounds_toArray, List.set_cons_zero, List.set_cons_succ, i64_w, i32_w]
      rfl
    refine pure_ (i := 2) (N := some 27) (v := ?_) (a' := ?_) #[true, false, true, false, false, false, false, false, false, false, false, false, false, false] rfl rfl (by kernel_rfl) (fun _ _ _ h => h) (Or.inl ⟨by rfl, ?_⟩) ?_ ?_
    rotate_left
    · intro w'
      go_simp
      with_reducible rfl
    rotate_left
    · simp only [Act.put, List.setIfInBounds_toArray, List.set_cons_zero, List.set_cons_succ, i64_w, i32_w]
      rfl
    refine pure_ (i := 5) (N := some 30) (v := ?_) (a' := ?_) #[true, false, true, false, false, true, false, false, false, false, false, false, false, false] rfl rfl (by kernel_rfl) (fun _ _ _ h => h) (Or.inl ⟨by rfl, ?_⟩) ?_ ?_
    rotate_left
    · intro w'
      go_simp
      with_reducible rfl
    rotate_left
    · simp only [Act.put, List.setIfInBounds_toArray, List.set_cons_zero, List.set_cons_succ, i64_w, i32_w]
      rfl
    refine pure_ (i := 7) (N := some 32) (v := ?_) (a' := ?_) #[true, false, true, false, false, true, false, true, false, false, false, false, false, false] rfl rfl (by kernel_rfl) (fun _ _ _ h => h) (Or.inl ⟨by rfl, ?_⟩) ?_ ?_
    rotate_left
    · intro w'
      go_simp
      with_reducible rfl
    rotate_left
    · simp only [Act.put, List.setIfInBounds_toArray, List.set_cons_zero, List.set_cons_succ, i64_w, i32_w]
      rfl
    refine pure_ (i := 9) (N := some 34) (v := ?_) (a' := ?_) #[true, false, true, false, false, true, false, true, false, true, false, false, false, false] rfl rfl (by kernel_rfl) (fun _ _ _ h => h) (Or.inl ⟨by rfl, ?_⟩) ?_ ?_
    rotate_left
    · intro w'
      go_simp
      with_reducible rfl
    rotate_left
    · simp only [Act.put, List.setIfInBounds_toArray, List.set_cons_zero, List.set_cons_succ, i64_w, i32_w]
      rfl
    refine take_ (i := 1) (N := some 26) (v := ?_) (a' := ?_) #[true, true, true, false, false, true, false, true, false, true, false, false, false, false] rfl rfl (by kernel_rfl) (fun _ _ _ h => h) (Or.inl ⟨by rfl, ?_⟩) hHeld ?_ ?_
    rotate_left
    · rintro w' ⟨s0, s1, s2, s3⟩
      go_simp
      with_reducible rfl
    rotate_left
    · simp only [Act.put, List.setIfInBounds_toArray, List.set_cons_zero, List.set_cons_succ, i64_w, i32_w]
      rfl
    refine take_ (i := 3) (N := some 28) (v := ?_) (a' := ?_) #[true, true, true, true, false, true, false, true, false, true, false, false, false, false] rfl rfl (by kernel_rfl) (fun _ _ _ h => h) (Or.inl ⟨by rfl, ?_⟩) hHeld ?_ ?_
    rotate_left
    · rintro w' ⟨s0, s1, s2, s3⟩
      go_simp
      with_reducible rfl
    rotate_left
    · simp only [Act.put, List.setIfInBounds_toArray, List.set_cons_zero, List.set_cons_succ, i64_w, i32_w]
      rfl
    refine take_ (i := 6) (N := some 31) (v := ?_) (a' := ?_) #[true, true, true, true, false, true, true, true, false, true, false, false, false, false] rfl rfl (by kernel_rfl) (fun _ _ _ h => h) (Or.inl ⟨by rfl, ?_⟩) hHeld ?_ ?_
    rotate_left
    · rintro w' ⟨s0, s1, s2, s3⟩
      go_simp
      with_reducible rfl
    rotate_left
    · simp only [Act.put, List.setIfInBounds_toArray, List.set_cons_zero, List.set_cons_succ, i64_w, i32_w]
      rfl
    refine take_ (i := 8) (N := some 33) (v := ?_) (a' := ?_) #[true, true, true, true, false, true, true, true, true, true, false, false, false, false] rfl rfl (by kernel_rfl) (fun _ _ _ h => h) (Or.inl ⟨by rfl, ?_⟩) hHeld ?_ ?_
    rotate_left
    · rintro w' ⟨s0, s1, s2, s3⟩
      go_simp
      with_reducible rfl
    rotate_left
    · simp only [Act.put, List.setIfInBounds_toArray, List.set_cons_zero, List.set_cons_succ, i64_w, i32_w]
      rfl
    refine one_ (i := 4) (N := some 29) #[true, true, true, true, true, true, true, true, true, true, false, false, false, false] rfl rfl (by kernel_rfl) (by decide) (fun K hK => ?_)
    refine goes_ Try.func123 (by kernel_rfl) rfl #[.slice A1 s.data.length c1, .slice A3 b.ws.length c3] (by rfl) rfl rfl (by simp only [List.map_toArray, List.map_cons, List.map_nil]; rfl) ?_
    with_reducible refine (apply123 A1 A3 c1 c3 s.data b.ws _ (Kd.C_below HC1.out (bl_drew B2)) HL1.out (Kd.C_below HC3.out (bl_drew B2)) HLIM.out).mono ?_
    rintro e w3 ⟨v3, rfl, hR3, hb⟩
    refine ⟨_, rfl, ?_⟩
    obtain ⟨A4, c4, rfl⟩ := Kd.R_slice hR3
    have B3 : Below W.heap.size W w3 := bl_trans (bl_drew B2) hb
    have HR3 := Lib.hid (Kd.R_lower hR3 (show W.heap.size ≤ _ from (bl_drew B2).size))
    clear hb hR3
    refine hK.out _ _ ⟨(r1 _ 0 B3), (r1 _ 1 B3), (r2 _ 1 B3), (r2 _ 2 B3)⟩ (fun hHeld => ?_)
    clear hK K
    refine norm_ (a' := ?_) ?_ ?_
    rotate_left
    · show Act.put _ (some 29) _ = _
      simp only [Act.put, List.setIfInBounds_toArray, List.set_cons_zero, List.set_cons_succ, i64_w, i32_w]
      rfl
    refine one_ (i := 10) (N := some 35) #[true, true, true, true, true, true, true, true, true, true, true, false, false, false] rfl rfl (by kernel_rfl) (by decide) (fun K hK => ?_)
    refine goes_ Try.func124 (by kernel_rfl) rfl #[.slice A2 s.toks.length c2, .string b.tok, .string ⟨#[99]⟩] (by rfl) rfl rfl (by simp only [List.map_toArray, List.map_cons, List.map_nil]; rfl) ?_
    with_reducible refine (put124 A2 c2 s.toks b.tok ⟨#[99]⟩ w3 (Kd.C_below HC2.out B3) HL2.out HLIM2.out).mono ?_
    rintro e w4 ⟨v4, rfl, hR4, hb⟩
    refine ⟨_, rfl, ?_⟩
    obtain ⟨A5, c5, rfl⟩ := Kd.R_slice hR4
    have B4 : Below W.heap.size W w4 := bl_trans B3 hb
    have HR5 := Lib.hid (Kd.R_below HR3.out hb)
    have HR4 := Lib.hid (Kd.R_lower hR4 B3.size)
    clear hb hR4
    refine hK.out _ _ ⟨(r1 _ 0 B4), (r1 _ 1 B4), (r2 _ 1 B4), (r2 _ 2 B4)⟩ (fun hHeld => ?_)
    clear hK K
    refine norm_ (a' := ?_) ?_ ?_
    rotate_left
    · show Act.put _ (some 35) _ = _
      simp only [Act.put, List.setIfInBounds_toArray, List.set_cons_zero, List.set_cons_succ, i64_w, i32_w]
      rfl
    refine pure_ (i := 11) (N := some 36) (v := ?_) (a' := ?_) #[true, true, true, true, true, true, true, true, true, true, true, true, false, false] rfl rfl (by kernel_rfl) (fun _ _ _ h => h) (Or.inl ⟨by rfl, ?_⟩) ?_ ?_
    rotate_left
    · intro w'
      go_simp
      with_reducible rfl
    rotate_left
    · simp only [Act.put, List.setIfInBounds_toArray, List.set_cons_zero, List.set_cons_succ, i64_w, i32_w]
      rfl
    refine last_ (i := 12) (N := none) #[true, true, true, true, true, true, true, true, true, true, true, true, true, false] rfl rfl (by kernel_rfl) (by decide) (fun K hK => ?_)
    refine skip_ (w1 := ?_) (by rfl) rfl ?_ ?_
    rotate_left
    · go_simp
      rfl
    refine hK.out _ _ ?_
    clear hK K
    refine pure_ (i := 13) (N := some 5) (v := ?_) (a' := ?_) #[true, true, true, true, true, true, true, true, true, true, true, true, true, true] rfl rfl (by kernel_rfl) (fun _ _ _ h => h) (Or.inl ⟨by rfl, ?_⟩) ?_ ?_
    rotate_left
    · intro w'
      go_simp
      with_reducible rfl
    rotate_left
    · simp only [Act.put, List.setIfInBounds_toArray, List.set_cons_zero, List.set_cons_succ, i64_w, i32_w]
      rfl
    refine done_ (by kernel_rfl) ?_
    have HB4 := Lib.hid (bl_trans HWB.out B4)
    have k0 : w4.cell? ⟨w.heap.size + 1 + 1, 0, none⟩ = some (.slice none 0 0) := (r3 w4 0 B4).trans rfl
    have k1 : w4.cell? ⟨w.heap.size + 1 + 1, 1, none⟩ = some (.slice none 0 0) := (r3 w4 1 B4).trans rfl
    have f0 : w4.frozen? ⟨w.heap.size + 1 + 1, 0, none⟩ = false := z3 w4 0 B4
    have f1 : w4.frozen? ⟨w.heap.size + 1 + 1, 1, none⟩ = false := z3 w4 1 B4
    clear r1 r2 r3 z3 B2 B3 B4
    go_wp2
    have hs1 := HS.out
    refine bodyPost_ret (v := .tuple #[.agg #[.slice A4 (tApply s.data b.ws).length c4, .slice A5 (tPut s.toks b.tok ⟨#[99]⟩).length c5], .int .i64 0]) (by simp [results, Try.results57, go_sem, k0, k1, f0, f1]) rfl ⟨A4, c4, A5, c5, rfl, ?_, (Kd.R_reads' HR5.out).2.1, ?_, (Kd.R_reads' HR4.out).2.1, ?_⟩
    · refine (R_ft (e := 161) (base := W.heap.size) (ok := fun _ => True) (m := (tApply s.data b.ws).length) (c := c4) ?_).mono (fun k hk _ => by omega)
      repeat refine R_farB ?_ (by omega) _ _
      exact HR5.out
    · refine (R_ft (e := 161) (base := W.heap.size) (ok := fun _ => True) (m := (tPut s.toks b.tok ⟨#[99]⟩).length) (c := c5) ?_).mono (fun k hk _ => by omega)
      repeat refine R_farB ?_ (by omega) _ _
      exact HR4.out
    · repeat refine bl_set ?_ (by omega)
      exact HB4.out
  · have HH := Lib.hid (show howB b.kind = ⟨#[103]⟩ by unfold howB; rw [hk]; rfl)
    have e3 : (b.kind == 2) = true := by rw [hk]; rfl
    rw [HH.out]
    clear hk
    go_enter Try.func57, Try.ntmps57
    go_wp2_with fail
    rw [HWW.out]
    refine (may34 A3 c3 b W HC3.out).mono ?_
    rintro e w1 ⟨rfl, hb⟩
    rw [HM.out]
    have B1 : Below W.heap.size W w1 := hb
    clear hb B0
    go_wp2_with fail
    refine (decided56 A2 c2 (.slice A1 s.data.length c1) rfl s.toks b.tok w1 (Kd.C_below HC2.out B1)).mono ?_
    rintro e w2 ⟨rfl, hb⟩
    have B2 : Below W.heap.size W w2 := bl_trans B1 hb
    rw [HD.out]
    clear hb B1
    go_wp2
    refine start_ (n := 14) (S := fun w' => w'.cell? ⟨w.heap.size, 0, none⟩ = some (.slice A1 s.data.length c1) ∧ w'.cell? ⟨w.heap.size, 1, none⟩ = some (.slice A2 s.toks.length c2) ∧ w'.cell? ⟨w.heap.size + 1, 1, none⟩ = some (.string b.tok) ∧ w'.cell? ⟨w.heap.size + 1, 2, none⟩ = some (.slice A3 b.ws.length c3)) (ds := [12]) #[false, false, false, false, false, false, false, false, false, false, false, false, false, false] (by kernel_rfl) rfl rfl ⟨(r1 _ 0 (bl_drew B2)), (r1 _ 1 (bl_drew B2)), (r2 _ 1 (bl_drew B2)), (r2 _ 2 (bl_drew B2))⟩ (fun hHeld => ?_)
    refine pure_ (i := 0) (N := some 25) (v := ?_) (a' := ?_) #[true, false, false, false, false, false, false, false, false, false, false, false, false, false] rfl rfl (by kernel_rfl) (fun _ _ _ h => h) (Or.inl ⟨by rfl, ?_⟩) ?_ ?_
    rotate_left
    · intro w'
      go_simp
      with_reducible rfl
    rotate_left
    · simp only [Act.put, List.setIfInBounds_toArray, List.set_cons_zero, List.set_cons_succ, i64_w, i32_w]
      rfl
    refine pure_ (i := 2) (N := some 27) (v := ?_) (a' := ?_) #[true, false, true, false, false, false, false, false, false, false, false, false, false, false] rfl rfl (by kernel_rfl) (fun _ _ _ h => h) (Or.inl ⟨by rfl, ?_⟩) ?_ ?_
    rotate_left
    · intro w'
      go_simp
      with_reducible rfl
    rotate_left
    · simp only [Act.put, List.setIfInBounds_toArray, List.set_cons_zero, List.set_cons_succ, i64_w, i32_w]
      rfl
    refine pure_ (i := 5) (N := some 30) (v := ?_) (a' := ?_) #[true, false, true, false, false, true, false, false, false, false, false, false, false, false] rfl rfl (by kernel_rfl) (fun _ _ _ h => h) (Or.inl ⟨by rfl, ?_⟩) ?_ ?_
    rotate_left
    · intro w'
      go_simp
      with_reducible rfl
    rotate_left
    · simp only [Act.put, List.setIfInBounds_toArray, List.set_cons_zero, List.set_cons_succ, i64_w, i32_w]
      rfl
    refine pure_ (i := 7) (N := some 32) (v := ?_) (a' := ?_) #[true, false, true, false, false, true, false, true, false, false, false, false, false, false] rfl rfl (by kernel_rfl) (fun _ _ _ h => h) (Or.inl ⟨by rfl, ?_⟩) ?_ ?_
    rotate_left
    · intro w'
      go_simp
      with_reducible rfl
    rotate_left
    · simp only [Act.put, List.setIfInBounds_toArray, List.set_cons_zero, List.set_cons_succ, i64_w, i32_w]
      rfl
    refine pure_ (i := 9) (N := some 34) (v := ?_) (a' := ?_) #[true, false, true, false, false, true, false, true, false, true, false, false, false, false] rfl rfl (by kernel_rfl) (fun _ _ _ h => h) (Or.inl ⟨by rfl, ?_⟩) ?_ ?_
    rotate_left
    · intro w'
      go_simp
      with_reducible rfl
    rotate_left
    · simp only [Act.put, List.setIfInBounds_toArray, List.set_cons_zero, List.set_cons_succ, i64_w, i32_w]
      rfl
    refine take_ (i := 1) (N := some 26) (v := ?_) (a' := ?_) #[true, true, true, false, false, true, false, true, false, true, false, false, false, false] rfl rfl (by kernel_rfl) (fun _ _ _ h => h) (Or.inl ⟨by rfl, ?_⟩) hHeld ?_ ?_
    rotate_left
    · rintro w' ⟨s0, s1, s2, s3⟩
      go_simp
      with_reducible rfl
    rotate_left
    · simp only [Act.put, List.setIfInBounds_toArray, List.set_cons_zero, List.set_cons_succ, i64_w, i32_w]
      rfl
    refine take_ (i := 3) (N := some 28) (v := ?_) (a' := ?_) #[true, true, true, true, false, true, false, true, false, true, false, false, false, false] rfl rfl (by kernel_rfl) (fun _ _ _ h => h) (Or.inl ⟨by rfl, ?_⟩) hHeld ?_ ?_
    rotate_left
    · rintro w' ⟨s0, s1, s2, s3⟩
      go_simp
      with_reducible rfl
    rotate_left
    · simp only [Act.put, List.setIfInBounds_toArray, List.set_cons_zero, List.set_cons_succ, i64_w, i32_w]
      rfl
    refine take_ (i := 6) (N := some 31) (v := ?_) (a' := ?_) #[true, true, true, true, false, true, true, true, false, true, false, false, false, false] rfl rfl (by kernel_rfl) (fun _ _ _ h => h) (Or.inl ⟨by rfl, ?_⟩) hHeld ?_ ?_
    rotate_left
    · rintro w' ⟨s0, s1, s2, s3⟩
      go_simp
      with_reducible rfl
    rotate_left
    · simp only [Act.put, List.setIfInBounds_toArray, List.set_cons_zero, List.set_cons_succ, i64_w, i32_w]
      rfl
    refine take_ (i := 8) (N := some 33) (v := ?_) (a' := ?_) #[true, true, true, true, false, true, true, true, true, true, false, false, false, false] rfl rfl (by kernel_rfl) (fun _ _ _ h => h) (Or.inl ⟨by rfl, ?_⟩) hHeld ?_ ?_
    rotate_left
    · rintro w' ⟨s0, s1, s2, s3⟩
      go_simp
      with_reducible rfl
    rotate_left
    · simp only [Act.put, List.setIfInBounds_toArray, List.set_cons_zero, List.set_cons_succ, i64_w, i32_w]
      rfl
    refine one_ (i := 4) (N := some 29) #[true, true, true, true, true, true, true, true, true, true, false, false, false, false] rfl rfl (by kernel_rfl) (by decide) (fun K hK => ?_)
    refine goes_ Try.func123 (by kernel_rfl) rfl #[.slice A1 s.data.length c1, .slice A3 b.ws.length c3] (by rfl) rfl rfl (by simp only [List.map_toArray, List.map_cons, List.map_nil]; rfl) ?_
    with_reducible refine (apply123 A1 A3 c1 c3 s.data b.ws _ (Kd.C_below HC1.out (bl_drew B2)) HL1.out (Kd.C_below HC3.out (bl_drew B2)) HLIM.out).mono ?_
    rintro e w3 ⟨v3, rfl, hR3, hb⟩
    refine ⟨_, rfl, ?_⟩
    obtain ⟨A4, c4, rfl⟩ := Kd.R_slice hR3
    have B3 : Below W.heap.size W w3 := bl_trans (bl_drew B2) hb
    have HR3 := Lib.hid (Kd.R_lower hR3 (show W.heap.size ≤ _ from (bl_drew B2).size))
    clear hb hR3
    refine hK.out _ _ ⟨(r1 _ 0 B3), (r1 _ 1 B3), (r2 _ 1 B3), (r2 _ 2 B3)⟩ (fun hHeld => ?_)
    clear hK K
    refine norm_ (a' := ?_) ?_ ?_
    rotate_left
    · show Act.put _ (some 29) _ = _
      simp only [Act.put, List.setIfInBounds_toArray, List.set_cons_zero, List.set_cons_succ, i64_w, i32_w]
      rfl
    refine one_ (i := 10) (N := some 35) #[true, true, true, true, true, true, true, true, true, true, true, false, false, false] rfl rfl (by kernel_rfl) (by decide) (fun K hK => ?_)
    refine goes_ Try.func124 (by kernel_rfl) rfl #[.slice A2 s.toks.length c2, .string b.tok, .string ⟨#[103]⟩] (by rfl) rfl rfl (by simp only [List.map_toArray, List.map_cons, List.map_nil]; rfl) ?_
    with_reducible refine (put124 A2 c2 s.toks b.tok ⟨#[103]⟩ w3 (Kd.C_below HC2.out B3) HL2.out HLIM2.out).mono ?_
    rintro e w4 ⟨v4, rfl, hR4, hb⟩
    refine ⟨_, rfl, ?_⟩
    obtain ⟨A5, c5, rfl⟩ := Kd.R_slice hR4
    have B4 : Below W.heap.size W w4 := bl_trans B3 hb
    have HR5 := Lib.hid (Kd.R_below HR3.out hb)
    have HR4 := Lib.hid (Kd.R_lower hR4 B3.size)
    clear hb hR4
    refine hK.out _ _ ⟨(r1 _ 0 B4), (r1 _ 1 B4), (r2 _ 1 B4), (r2 _ 2 B4)⟩ (fun hHeld => ?_)
    clear hK K
    refine norm_ (a' := ?_) ?_ ?_
    rotate_left
    · show Act.put _ (some 35) _ = _
      simp only [Act.put, List.setIfInBounds_toArray, List.set_cons_zero, List.set_cons_succ, i64_w, i32_w]
      rfl
    refine pure_ (i := 11) (N := some 36) (v := ?_) (a' := ?_) #[true, true, true, true, true, true, true, true, true, true, true, true, false, false] rfl rfl (by kernel_rfl) (fun _ _ _ h => h) (Or.inl ⟨by rfl, ?_⟩) ?_ ?_
    rotate_left
    · intro w'
      go_simp
      with_reducible rfl
    rotate_left
    · simp only [Act.put, List.setIfInBounds_toArray, List.set_cons_zero, List.set_cons_succ, i64_w, i32_w]
      rfl
    refine last_ (i := 12) (N := none) #[true, true, true, true, true, true, true, true, true, true, true, true, true, false] rfl rfl (by kernel_rfl) (by decide) (fun K hK => ?_)
    refine skip_ (w1 := ?_) (by rfl) rfl ?_ ?_
    rotate_left
    · go_simp
      rfl
    refine hK.out _ _ ?_
    clear hK K
    refine pure_ (i := 13) (N := some 5) (v := ?_) (a' := ?_) #[true, true, true, true, true, true, true, true, true, true, true, true, true, true] rfl rfl (by kernel_rfl) (fun _ _ _ h => h) (Or.inl ⟨by rfl, ?_⟩) ?_ ?_
    rotate_left
    · intro w'
      go_simp
      with_reducible rfl
    rotate_left
    · simp only [Act.put, List.setIfInBounds_toArray, List.set_cons_zero, List.set_cons_succ, i64_w, i32_w]
      rfl
    refine done_ (by kernel_rfl) ?_
    have HB4 := Lib.hid (bl_trans HWB.out B4)
    have k0 : w4.cell? ⟨w.heap.size + 1 + 1, 0, none⟩ = some (.slice none 0 0) := (r3 w4 0 B4).trans rfl
    have k1 : w4.cell? ⟨w.heap.size + 1 + 1, 1, none⟩ = some (.slice none 0 0) := (r3 w4 1 B4).trans rfl
    have f0 : w4.frozen? ⟨w.heap.size + 1 + 1, 0, none⟩ = false := z3 w4 0 B4
    have f1 : w4.frozen? ⟨w.heap.size + 1 + 1, 1, none⟩ = false := z3 w4 1 B4
    clear r1 r2 r3 z3 B2 B3 B4
    go_wp2
    have hs1 := HS.out
    refine bodyPost_ret (v := .tuple #[.agg #[.slice A4 (tApply s.data b.ws).length c4, .slice A5 (tPut s.toks b.tok ⟨#[103]⟩).length c5], .int .i64 0]) (by simp [results, Try.results57, go_sem, k0, k1, f0, f1]) rfl ⟨A4, c4, A5, c5, rfl, ?_, (Kd.R_reads' HR5.out).2.1, ?_, (Kd.R_reads' HR4.out).2.1, ?_⟩
    · refine (R_ft (e := 161) (base := W.heap.size) (ok := fun _ => True) (m := (tApply s.data b.ws).length) (c := c4) ?_).mono (fun k hk _ => by omega)
      repeat refine R_farB ?_ (by omega) _ _
      exact HR5.out
    · refine (R_ft (e := 161) (base := W.heap.size) (ok := fun _ => True) (m := (tPut s.toks b.tok ⟨#[103]⟩).length) (c := c5) ?_).mono (fun k hk _ => by omega)
      repeat refine R_farB ?_ (by omega) _ _
      exact HR4.out
    · repeat refine bl_set ?_ (by omega)
      exact HB4.out
end Go.Proofs.Ytkcebmamohimoaa
namespace Go.Proofs.Ytkcebmamohimoaa
open Go.RowKit Go.Proofs.YtkcebmamohimoaaW.PrintWords
set_option linter.unusedVariables false
set_option linter.unusedSimpArgs false
/-- What a batch makes of a state. -/
def doSt (s : St) (b : Bt) : St × Int :=
  if b.may = false then (s, 1) else if (tFind s.toks b.tok).2 = true then (s, 8) else (⟨tApply s.data b.ws, tPut s.toks b.tok (howB b.kind)⟩, 0)
theorem do57 (ok : Nat → Prop) (A1 A2 A3 : Option Addr) (c1 c2 c3 : Nat) (s t : St) (err : Int) (b : Bt) (hd : doSt s b = (t, err)) (w : World) (h1 : Ft ok w (fun W => Kd.C kPr W A1 s.data.length s.data)) (l1 : s.data.length ≤ c1) (h2 : Ft ok w (fun W => Kd.C kPr W A2 s.toks.length s.toks)) (l2 : s.toks.length ≤ c2) (h3 : Kd.C kWr w A3 b.ws.length b.ws) (hs1 : s.data.length ≤ 10000) (hs2 : s.toks.length ≤ 10000) :
    Calls Try.prog 57 #[.agg #[.slice A1 s.data.length c1, .slice A2 s.toks.length c2], .agg #[.int .i64 b.kind, .string b.tok, .slice A3 b.ws.length c3]] w fun e w' => ∃ A4 c4 A5 c5, e = .returned (.tuple #[.agg #[.slice A4 t.data.length c4, .slice A5 t.toks.length c5], .int .i64 err]) ∧
      Ft (fun k => (ok k ∧ k < w.heap.size) ∨ w.heap.size ≤ k) w' (fun W => Kd.C kPr W A4 t.data.length t.data) ∧ t.data.length ≤ c4 ∧ Ft (fun k => (ok k ∧ k < w.heap.size) ∨ w.heap.size ≤ k) w' (fun W => Kd.C kPr W A5 t.toks.length t.toks) ∧ t.toks.length ≤ c5 ∧ Below w.heap.size w w' := by
  unfold doSt at hd
  have keep : ∀ {w' : World} {xs : List Pr} {A : Option Addr}, Ft ok w (fun W => Kd.C kPr W A xs.length xs) → Below w.heap.size w w' → Ft (fun k => (ok k ∧ k < w.heap.size) ∨ w.heap.size ≤ k) w' (fun W => Kd.C kPr W A xs.length xs) := fun h hb =>
    ((h.cut).below hb).mono (fun k hk _ => .inl hk)
  split at hd
  next hm =>
    obtain ⟨rfl, rfl⟩ := Prod.mk.inj hd
    refine (do57_bad A1 A2 A3 c1 c2 c3 s b w h1.self h2.self h3 hm).mono ?_
    rintro e w' ⟨rfl, hb⟩
    exact ⟨A1, c1, A2, c2, rfl, keep h1 hb, l1, keep h2 hb, l2, hb⟩
  next hm =>
    have hm : b.may = true := by simpa using hm
    split at hd
    next ht =>
      obtain ⟨rfl, rfl⟩ := Prod.mk.inj hd
      refine (do57_there A1 A2 A3 c1 c2 c3 s b w h1.self h2.self h3 hm ht).mono ?_
      rintro e w' ⟨rfl, hb⟩
      exact ⟨A1, c1, A2, c2, rfl, keep h1 hb, l1, keep h2 hb, l2, hb⟩
    next ht =>
      have ht : (tFind s.toks b.tok).2 = false := by simpa using ht
      obtain ⟨rfl, rfl⟩ := Prod.mk.inj hd
      have hl := (may_ok hm).len
      refine (do57_ok A1 A2 A3 c1 c2 c3 s b w h1.self h2.self h3 hm ht l1 l2 (by omega) (by omega)).mono ?_
      rintro e w' ⟨A4, c4, A5, c5, rfl, f1, k1, f2, k2, hb⟩
      exact ⟨A4, c4, A5, c5, rfl, f1.mono (fun k hk _ => .inr hk), k1, f2.mono (fun k hk _ => .inr hk), k2, hb⟩
theorem ek_self (a : ByteArray) : ek a a = true := (ek_iff a a).2 rfl
/-- What was put is found. -/
theorem tFind_tPut (L : List Pr) (key val : ByteArray) : tFind (tPut L key val) key = (val, true) := by
  unfold tFind tPut
  rcases fidx_find (fun x => ek x.key key) L with ⟨hi, hi2, hn⟩ | ⟨k, hk, hi2, hf⟩
  · rw [hi2, if_neg (by omega)]
    rw [List.find?_eq_none] at hn
    rcases fidx_find (fun x => bl key x.key) L with ⟨hj, hj2, _⟩ | ⟨k, hk, hj2, _⟩
    · rw [hj2, if_neg (by omega), List.find?_append, List.find?_eq_none.2 hn]
      simp [ek_self]
    · rw [hj2, if_pos (by omega), Int.toNat_natCast, List.find?_append, List.find?_eq_none.2 (fun x hx => hn x (List.mem_of_mem_take hx))]
      simp [ek_self]
  · rw [hi2, if_pos (by omega), Int.toNat_natCast]
    have hfi : fidx (fun x => ek x.key key) L = (k : Int) := hi2
    have hnn : ∀ j (hj : j < k), ek (L[j]'(by omega)).key key = false := by
      unfold fidx at hi2
      cases e : L.findIdx? (fun x => ek x.key key) with
      | none => rw [e] at hi2; simp only [] at hi2; omega
      | some i =>
        rw [e] at hi2
        have hik : i = k := by simp only [] at hi2; omega
        subst hik
        obtain ⟨_, _, hn⟩ := List.findIdx?_eq_some_iff_getElem.1 e
        exact fun j hj => by simpa using hn j hj
    have : (L.set k ⟨key, val⟩).find? (fun x => ek x.key key) = some ⟨key, val⟩ := by
      rw [List.find?_eq_some_iff_getElem]
      refine ⟨ek_self key, k, by rw [List.length_set]; exact hk, by simp, fun j hj => ?_⟩
      rw [List.getElem_set_ne (by omega)]
      simp [hnn j hj]
    rw [this]
theorem tApply_len (ws : List Wr) : ∀ L : List Pr, (tApply L ws).length ≤ L.length + ws.length := by
  induction ws with
  | nil => intro L; exact Nat.le_refl _
  | cons x t ih =>
    intro L
    have h1 := ih (tWrite L x)
    have h2 := tWrite_len L x
    show (tApply (tWrite L x) t).length ≤ _
    rw [List.length_cons]
    omega
/-- A batch that comes: its token is decided, or nothing turned. -/
theorem doSt_law (s t : St) (b : Bt) (err : Int) (h : doSt s b = (t, err)) :
    t.data.length ≤ s.data.length + 24 ∧ t.toks.length ≤ s.toks.length + 1 ∧
    ((err ≠ 0 ∧ t = s) ∨ (err = 0 ∧ (tFind s.toks b.tok).2 = false ∧ tFind t.toks b.tok = (howB b.kind, true) ∧ (b.kind = 1 ∨ b.kind = 2) ∧ doSt t b = (t, 8))) := by
  unfold doSt at h
  split at h
  next hm =>
    obtain ⟨rfl, rfl⟩ := Prod.mk.inj h
    exact ⟨by omega, by omega, .inl ⟨by decide, rfl⟩⟩
  next hm =>
    have hm : b.may = true := by simpa using hm
    split at h
    next ht =>
      obtain ⟨rfl, rfl⟩ := Prod.mk.inj h
      exact ⟨by omega, by omega, .inl ⟨by decide, rfl⟩⟩
    next ht =>
      have ht : (tFind s.toks b.tok).2 = false := by simpa using ht
      obtain ⟨rfl, rfl⟩ := Prod.mk.inj h
      have ok := may_ok hm
      have hf := tFind_tPut s.toks b.tok (howB b.kind)
      refine ⟨by have := tApply_len b.ws s.data; have := ok.len; show (tApply _ _).length ≤ _; omega, tPut_len _ _ _, .inr ⟨rfl, ht, hf, ok.kind, ?_⟩⟩
      unfold doSt
      rw [if_neg (by rw [hm]; simp), if_pos (by show (tFind (tPut _ _ _) _).2 = true; rw [hf])]
end Go.Proofs.Ytkcebmamohimoaa
