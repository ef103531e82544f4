/- Equality of rows of records. -/
import Derived.Test.YtkcebmamohimoaaE1
import Derived.Test.YtkcebmamohimoaaA4
import Derived.BigRegion
namespace Go.Proofs.Ytkcebmamohimoaa
open Go.RowKit Go.Proofs.YtkcebmamohimoaaW.PrintWords
set_option linter.unusedVariables false
set_option linter.unusedSimpArgs false
attribute [local go_sem] bl_refl bl_alloc bl_drew bl_drewN
attribute [local go_sem high] eqA78 eqA175 eqA161 eqA127 eqA110
theorem row_ext {α : Type} [Inhabited α] {L M : List α} (hl : L.length = M.length) (h : ∀ j, j < L.length → L[j]! = M[j]!) : L = M := by
  refine List.ext_getElem hl (fun i h1 h2 => ?_)
  have := h i h1
  rwa [getElem!_pos L i h1, getElem!_pos M i h2] at this
theorem neq_eqSes120 (x y : Ses) : (!(x.id == y.id) || (!(x.seq == y.seq) || (!(x.busy == y.busy) || (!(x.last.toList == y.last.toList) || (!(x.txn == y.txn) || (!(x.conn == y.conn))))))) = !eqSes x y := by unfold eqSes; simp only [Bool.not_and]
set_option maxHeartbeats 8000000 in
set_option maxRecDepth 100000 in
theorem equal120 (A1 A2 : Option Addr) (c1 c2 : Nat) (L M : List Ses) (b : Bool) (hb : b = true ↔ L = M) (w : World) (h1 : Kd.C kSes w A1 L.length L) (h2 : Kd.C kSes w A2 M.length M) :
    Calls Try.prog 120 #[.slice A1 L.length c1, .slice A2 M.length c2] w fun e w' => e = .returned (.bool b) ∧ Below w.heap.size w w' := by
  by_cases hl : L.length = M.length
  rotate_left
  · have hlz : ¬ ((L.length : Int) = (M.length : Int)) := by omega
    obtain rfl : b = false := by
      cases b with
      | false => rfl
      | true => exact absurd (congrArg List.length (hb.1 rfl)) hl
    have B0 := bl_refl w
    clear h1 h2 hb hl
    go_enter Try.func120, Try.ntmps120
    go_wp2
    go_ret
    exact ⟨rfl, B0⟩
  have hm : L.length ≤ 9223372036854775807 := h1.2.1
  have HC1 := Lib.hid h1
  have HC2 := Lib.hid (show Kd.C kSes w A2 L.length M by rw [hl]; exact h2)
  have HL := Lib.hid hl
  have HBB := Lib.hid hb
  rw [← hl]
  clear h1 h2 hl hb
  go_enter Try.func120, Try.ntmps120
  go_wp2
  go_loopg [13] L.length (fun gg s13 wr => ∃ kk : Nat, kk ≤ L.length ∧ L.length - kk ≤ gg ∧ s13 = .int .i64 kk ∧ Hid (Below w.heap.size w wr) ∧ Hid (∀ j, j < kk → L[j]! = M[j]!))
  case atStart => exact ⟨0, Nat.zero_le _, by omega, rfl, Below.refl _ _, fun j hj => absurd hj (Nat.not_lt_zero _)⟩
  case round =>
    obtain ⟨kk, hkk, hg, rfl, HB, HE⟩ := hrel
    by_cases hlt : kk < L.length
    · have hltz : (kk : Int) < (L.length : Int) := by omega
      have hk0 : (0 : Int) ≤ (kk : Int) := by omega
      obtain ⟨x, hx⟩ : ∃ x, L[kk]! = x := ⟨_, rfl⟩
      obtain ⟨y, hy⟩ : ∃ y, M[kk]! = y := ⟨_, rfl⟩
      obtain ⟨ad, rfl, x0, x1, x2, x3, x4, x5⟩ := Ses.at (Kd.C_below HC1.out HB.out) kk hlt
      obtain ⟨bd, rfl, y0, y1, y2, y3, y4, y5⟩ := Ses.at (Kd.C_below (show Kd.C kSes w A2 M.length M by rw [← HL.out]; exact HC2.out) HB.out) kk (by rw [← HL.out]; exact hlt)
      rw [hx] at x0 x1 x2 x3 x4 x5
      rw [hy] at y0 y1 y2 y3 y4 y5
      have p0 := cell_rule x0
      have q0 := cell_rule y0
      have p1 := cell_rule x1
      have q1 := cell_rule y1
      have p2 := cell_rule x2
      have q2 := cell_rule y2
      have p3 := cell_rule x3
      have q3 := cell_rule y3
      have p4 := cell_rule x4
      have q4 := cell_rule y4
      have p5 := cell_rule x5
      have q5 := cell_rule y5
      have Br := bl_refl wr
      have HX := Lib.hid hx
      have HY := Lib.hid hy
      clear hx hy x0 x1 x2 x3 x4 x5 y0 y1 y2 y3 y4 y5
      cases hq : eqSes x y with
      | true =>
        have HQ := Lib.hid hq
        have hq1 : (!(x.id == y.id) || (!(x.seq == y.seq) || (!(x.busy == y.busy) || (!(x.last.toList == y.last.toList) || (!(x.txn == y.txn) || (!(x.conn == y.conn))))))) = false := by rw [neq_eqSes120, hq]; rfl
        clear hq
        go_wp2
        go_big_region
        go_wp2
        go_roundg (L.length - (kk + 1))
        case measure => omega
        case rel =>
          refine ⟨kk + 1, by omega, by omega, by go_num, bl_drewB HB.out, fun j hj => ?_⟩
          by_cases e : j = kk
          · rw [e, HX.out, HY.out]; exact (eqSes_iff x y).1 HQ.out
          · exact HE.out j (by omega)
      | false =>
        obtain rfl : b = false := by
          cases b with
          | false => rfl
          | true =>
            have e := HBB.out.1 rfl
            rw [← e, HX.out] at HY
            have e2 : x = y := HY.out
            rw [(eqSes_iff x y).2 e2] at hq
            cases hq
        have hq1 : (!(x.id == y.id) || (!(x.seq == y.seq) || (!(x.busy == y.busy) || (!(x.last.toList == y.last.toList) || (!(x.txn == y.txn) || (!(x.conn == y.conn))))))) = true := by rw [neq_eqSes120, hq]; rfl
        clear hq
        go_wp2
        go_big_region
        go_wp2
        go_ret
        exact ⟨rfl, bl_drewB HB.out⟩
    · have hltz : ¬ (kk : Int) < (L.length : Int) := by omega
      obtain rfl : b = true := HBB.out.2 (row_ext HL.out (fun j hj => HE.out j (by omega)))
      go_wp2
      go_ret
      exact ⟨rfl, HB.out⟩
theorem neq_eqAlm121 (x y : Alm) : (!(x.due == y.due) || (!(x.id == y.id))) = !eqAlm x y := by unfold eqAlm; simp only [Bool.not_and]
set_option maxHeartbeats 8000000 in
set_option maxRecDepth 100000 in
theorem equal121 (A1 A2 : Option Addr) (c1 c2 : Nat) (L M : List Alm) (b : Bool) (hb : b = true ↔ L = M) (w : World) (h1 : Kd.C kAlm w A1 L.length L) (h2 : Kd.C kAlm w A2 M.length M) :
    Calls Try.prog 121 #[.slice A1 L.length c1, .slice A2 M.length c2] w fun e w' => e = .returned (.bool b) ∧ Below w.heap.size w w' := by
  by_cases hl : L.length = M.length
  rotate_left
  · have hlz : ¬ ((L.length : Int) = (M.length : Int)) := by omega
    obtain rfl : b = false := by
      cases b with
      | false => rfl
      | true => exact absurd (congrArg List.length (hb.1 rfl)) hl
    have B0 := bl_refl w
    clear h1 h2 hb hl
    go_enter Try.func121, Try.ntmps121
    go_wp2
    go_ret
    exact ⟨rfl, B0⟩
  have hm : L.length ≤ 9223372036854775807 := h1.2.1
  have HC1 := Lib.hid h1
  have HC2 := Lib.hid (show Kd.C kAlm w A2 L.length M by rw [hl]; exact h2)
  have HL := Lib.hid hl
  have HBB := Lib.hid hb
  rw [← hl]
  clear h1 h2 hl hb
  go_enter Try.func121, Try.ntmps121
  go_wp2
  go_loopg [13] L.length (fun gg s13 wr => ∃ kk : Nat, kk ≤ L.length ∧ L.length - kk ≤ gg ∧ s13 = .int .i64 kk ∧ Hid (Below w.heap.size w wr) ∧ Hid (∀ j, j < kk → L[j]! = M[j]!))
  case atStart => exact ⟨0, Nat.zero_le _, by omega, rfl, Below.refl _ _, fun j hj => absurd hj (Nat.not_lt_zero _)⟩
  case round =>
    obtain ⟨kk, hkk, hg, rfl, HB, HE⟩ := hrel
    by_cases hlt : kk < L.length
    · have hltz : (kk : Int) < (L.length : Int) := by omega
      have hk0 : (0 : Int) ≤ (kk : Int) := by omega
      obtain ⟨x, hx⟩ : ∃ x, L[kk]! = x := ⟨_, rfl⟩
      obtain ⟨y, hy⟩ : ∃ y, M[kk]! = y := ⟨_, rfl⟩
      obtain ⟨ad, rfl, x0, x1⟩ := Alm.at (Kd.C_below HC1.out HB.out) kk hlt
      obtain ⟨bd, rfl, y0, y1⟩ := Alm.at (Kd.C_below (show Kd.C kAlm w A2 M.length M by rw [← HL.out]; exact HC2.out) HB.out) kk (by rw [← HL.out]; exact hlt)
      rw [hx] at x0 x1
      rw [hy] at y0 y1
      have p0 := cell_rule x0
      have q0 := cell_rule y0
      have p1 := cell_rule x1
      have q1 := cell_rule y1
      have Br := bl_refl wr
      have HX := Lib.hid hx
      have HY := Lib.hid hy
      clear hx hy x0 x1 y0 y1
      cases hq : eqAlm x y with
      | true =>
        have HQ := Lib.hid hq
        have hq1 : (!(x.due == y.due) || (!(x.id == y.id))) = false := by rw [neq_eqAlm121, hq]; rfl
        clear hq
        go_wp2
        go_big_region
        go_wp2
        go_roundg (L.length - (kk + 1))
        case measure => omega
        case rel =>
          refine ⟨kk + 1, by omega, by omega, by go_num, bl_drewB HB.out, fun j hj => ?_⟩
          by_cases e : j = kk
          · rw [e, HX.out, HY.out]; exact (eqAlm_iff x y).1 HQ.out
          · exact HE.out j (by omega)
      | false =>
        obtain rfl : b = false := by
          cases b with
          | false => rfl
          | true =>
            have e := HBB.out.1 rfl
            rw [← e, HX.out] at HY
            have e2 : x = y := HY.out
            rw [(eqAlm_iff x y).2 e2] at hq
            cases hq
        have hq1 : (!(x.due == y.due) || (!(x.id == y.id))) = true := by rw [neq_eqAlm121, hq]; rfl
        clear hq
        go_wp2
        go_big_region
        go_wp2
        go_ret
        exact ⟨rfl, bl_drewB HB.out⟩
    · have hltz : ¬ (kk : Int) < (L.length : Int) := by omega
      obtain rfl : b = true := HBB.out.2 (row_ext HL.out (fun j hj => HE.out j (by omega)))
      go_wp2
      go_ret
      exact ⟨rfl, HB.out⟩
theorem neq_eqSes52 (x y : Ses) : (!(x.id == y.id) || (!(x.seq == y.seq) || (!(x.busy == y.busy) || (!(x.last.toList == y.last.toList) || (!(x.txn == y.txn) || (!(x.conn == y.conn))))))) = !eqSes x y := by unfold eqSes; simp only [Bool.not_and]
set_option maxHeartbeats 8000000 in
set_option maxRecDepth 100000 in
theorem equal52 (A1 A2 : Option Addr) (c1 c2 : Nat) (L M : List Ses) (b : Bool) (hb : b = true ↔ L = M) (w : World) (h1 : Kd.C kSes w A1 L.length L) (h2 : Kd.C kSes w A2 M.length M) :
    Calls Try.prog 52 #[.slice A1 L.length c1, .slice A2 M.length c2] w fun e w' => e = .returned (.bool b) ∧ Below w.heap.size w w' := by
  by_cases hl : L.length = M.length
  rotate_left
  · have hlz : ¬ ((L.length : Int) = (M.length : Int)) := by omega
    obtain rfl : b = false := by
      cases b with
      | false => rfl
      | true => exact absurd (congrArg List.length (hb.1 rfl)) hl
    have B0 := bl_refl w
    clear h1 h2 hb hl
    go_enter Try.func52, Try.ntmps52
    go_wp2
    go_ret
    exact ⟨rfl, B0⟩
  have hm : L.length ≤ 9223372036854775807 := h1.2.1
  have HC1 := Lib.hid h1
  have HC2 := Lib.hid (show Kd.C kSes w A2 L.length M by rw [hl]; exact h2)
  have HL := Lib.hid hl
  have HBB := Lib.hid hb
  rw [← hl]
  clear h1 h2 hl hb
  go_enter Try.func52, Try.ntmps52
  go_wp2
  go_loopg [5] L.length (fun gg s5 wr => ∃ kk : Nat, kk ≤ L.length ∧ L.length - kk ≤ gg ∧ s5 = .int .i64 kk ∧ Hid (Below w.heap.size w wr) ∧ Hid (∀ j, j < kk → L[j]! = M[j]!))
  case atStart => exact ⟨0, Nat.zero_le _, by omega, rfl, Below.refl _ _, fun j hj => absurd hj (Nat.not_lt_zero _)⟩
  case round =>
    obtain ⟨kk, hkk, hg, rfl, HB, HE⟩ := hrel
    by_cases hlt : kk < L.length
    · have hltz : (kk : Int) < (L.length : Int) := by omega
      have hk0 : (0 : Int) ≤ (kk : Int) := by omega
      obtain ⟨x, hx⟩ : ∃ x, L[kk]! = x := ⟨_, rfl⟩
      obtain ⟨y, hy⟩ : ∃ y, M[kk]! = y := ⟨_, rfl⟩
      obtain ⟨ad, rfl, x0, x1, x2, x3, x4, x5⟩ := Ses.at (Kd.C_below HC1.out HB.out) kk hlt
      obtain ⟨bd, rfl, y0, y1, y2, y3, y4, y5⟩ := Ses.at (Kd.C_below (show Kd.C kSes w A2 M.length M by rw [← HL.out]; exact HC2.out) HB.out) kk (by rw [← HL.out]; exact hlt)
      rw [hx] at x0 x1 x2 x3 x4 x5
      rw [hy] at y0 y1 y2 y3 y4 y5
      have p0 := cell_rule x0
      have q0 := cell_rule y0
      have p1 := cell_rule x1
      have q1 := cell_rule y1
      have p2 := cell_rule x2
      have q2 := cell_rule y2
      have p3 := cell_rule x3
      have q3 := cell_rule y3
      have p4 := cell_rule x4
      have q4 := cell_rule y4
      have p5 := cell_rule x5
      have q5 := cell_rule y5
      have Br := bl_refl wr
      have HX := Lib.hid hx
      have HY := Lib.hid hy
      clear hx hy x0 x1 x2 x3 x4 x5 y0 y1 y2 y3 y4 y5
      cases hq : eqSes x y with
      | true =>
        have HQ := Lib.hid hq
        have hq1 : (!(x.id == y.id) || (!(x.seq == y.seq) || (!(x.busy == y.busy) || (!(x.last.toList == y.last.toList) || (!(x.txn == y.txn) || (!(x.conn == y.conn))))))) = false := by rw [neq_eqSes52, hq]; rfl
        clear hq
        go_wp2
        go_big_region
        go_wp2
        go_roundg (L.length - (kk + 1))
        case measure => omega
        case rel =>
          refine ⟨kk + 1, by omega, by omega, by go_num, bl_drewB HB.out, fun j hj => ?_⟩
          by_cases e : j = kk
          · rw [e, HX.out, HY.out]; exact (eqSes_iff x y).1 HQ.out
          · exact HE.out j (by omega)
      | false =>
        obtain rfl : b = false := by
          cases b with
          | false => rfl
          | true =>
            have e := HBB.out.1 rfl
            rw [← e, HX.out] at HY
            have e2 : x = y := HY.out
            rw [(eqSes_iff x y).2 e2] at hq
            cases hq
        have hq1 : (!(x.id == y.id) || (!(x.seq == y.seq) || (!(x.busy == y.busy) || (!(x.last.toList == y.last.toList) || (!(x.txn == y.txn) || (!(x.conn == y.conn))))))) = true := by rw [neq_eqSes52, hq]; rfl
        clear hq
        go_wp2
        go_big_region
        go_wp2
        go_ret
        exact ⟨rfl, bl_drewB HB.out⟩
    · have hltz : ¬ (kk : Int) < (L.length : Int) := by omega
      obtain rfl : b = true := HBB.out.2 (row_ext HL.out (fun j hj => HE.out j (by omega)))
      go_wp2
      go_ret
      exact ⟨rfl, HB.out⟩
theorem neq_eqAlm89 (x y : Alm) : (!(x.due == y.due) || (!(x.id == y.id))) = !eqAlm x y := by unfold eqAlm; simp only [Bool.not_and]
set_option maxHeartbeats 8000000 in
set_option maxRecDepth 100000 in
theorem equal89 (A1 A2 : Option Addr) (c1 c2 : Nat) (L M : List Alm) (b : Bool) (hb : b = true ↔ L = M) (w : World) (h1 : Kd.C kAlm w A1 L.length L) (h2 : Kd.C kAlm w A2 M.length M) :
    Calls Try.prog 89 #[.slice A1 L.length c1, .slice A2 M.length c2] w fun e w' => e = .returned (.bool b) ∧ Below w.heap.size w w' := by
  by_cases hl : L.length = M.length
  rotate_left
  · have hlz : ¬ ((L.length : Int) = (M.length : Int)) := by omega
    obtain rfl : b = false := by
      cases b with
      | false => rfl
      | true => exact absurd (congrArg List.length (hb.1 rfl)) hl
    have B0 := bl_refl w
    clear h1 h2 hb hl
    go_enter Try.func89, Try.ntmps89
    go_wp2
    go_ret
    exact ⟨rfl, B0⟩
  have hm : L.length ≤ 9223372036854775807 := h1.2.1
  have HC1 := Lib.hid h1
  have HC2 := Lib.hid (show Kd.C kAlm w A2 L.length M by rw [hl]; exact h2)
  have HL := Lib.hid hl
  have HBB := Lib.hid hb
  rw [← hl]
  clear h1 h2 hl hb
  go_enter Try.func89, Try.ntmps89
  go_wp2
  go_loopg [5] L.length (fun gg s5 wr => ∃ kk : Nat, kk ≤ L.length ∧ L.length - kk ≤ gg ∧ s5 = .int .i64 kk ∧ Hid (Below w.heap.size w wr) ∧ Hid (∀ j, j < kk → L[j]! = M[j]!))
  case atStart => exact ⟨0, Nat.zero_le _, by omega, rfl, Below.refl _ _, fun j hj => absurd hj (Nat.not_lt_zero _)⟩
  case round =>
    obtain ⟨kk, hkk, hg, rfl, HB, HE⟩ := hrel
    by_cases hlt : kk < L.length
    · have hltz : (kk : Int) < (L.length : Int) := by omega
      have hk0 : (0 : Int) ≤ (kk : Int) := by omega
      obtain ⟨x, hx⟩ : ∃ x, L[kk]! = x := ⟨_, rfl⟩
      obtain ⟨y, hy⟩ : ∃ y, M[kk]! = y := ⟨_, rfl⟩
      obtain ⟨ad, rfl, x0, x1⟩ := Alm.at (Kd.C_below HC1.out HB.out) kk hlt
      obtain ⟨bd, rfl, y0, y1⟩ := Alm.at (Kd.C_below (show Kd.C kAlm w A2 M.length M by rw [← HL.out]; exact HC2.out) HB.out) kk (by rw [← HL.out]; exact hlt)
      rw [hx] at x0 x1
      rw [hy] at y0 y1
      have p0 := cell_rule x0
      have q0 := cell_rule y0
      have p1 := cell_rule x1
      have q1 := cell_rule y1
      have Br := bl_refl wr
      have HX := Lib.hid hx
      have HY := Lib.hid hy
      clear hx hy x0 x1 y0 y1
      cases hq : eqAlm x y with
      | true =>
        have HQ := Lib.hid hq
        have hq1 : (!(x.due == y.due) || (!(x.id == y.id))) = false := by rw [neq_eqAlm89, hq]; rfl
        clear hq
        go_wp2
        go_big_region
        go_wp2
        go_roundg (L.length - (kk + 1))
        case measure => omega
        case rel =>
          refine ⟨kk + 1, by omega, by omega, by go_num, bl_drewB HB.out, fun j hj => ?_⟩
          by_cases e : j = kk
          · rw [e, HX.out, HY.out]; exact (eqAlm_iff x y).1 HQ.out
          · exact HE.out j (by omega)
      | false =>
        obtain rfl : b = false := by
          cases b with
          | false => rfl
          | true =>
            have e := HBB.out.1 rfl
            rw [← e, HX.out] at HY
            have e2 : x = y := HY.out
            rw [(eqAlm_iff x y).2 e2] at hq
            cases hq
        have hq1 : (!(x.due == y.due) || (!(x.id == y.id))) = true := by rw [neq_eqAlm89, hq]; rfl
        clear hq
        go_wp2
        go_big_region
        go_wp2
        go_ret
        exact ⟨rfl, bl_drewB HB.out⟩
    · have hltz : ¬ (kk : Int) < (L.length : Int) := by omega
      obtain rfl : b = true := HBB.out.2 (row_ext HL.out (fun j hj => HE.out j (by omega)))
      go_wp2
      go_ret
      exact ⟨rfl, HB.out⟩
end Go.Proofs.Ytkcebmamohimoaa
