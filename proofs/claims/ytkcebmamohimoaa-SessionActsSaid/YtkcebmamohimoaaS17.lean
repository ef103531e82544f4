/- Sessions: Same of any two, the program's and the reference's. -/
import Derived.Test.YtkcebmamohimoaaS16
import Derived.Test.YtkcebmamohimoaaE2
namespace Go.Proofs.Ytkcebmamohimoaa
open Go.RowKit Go.Proofs.YtkcebmamohimoaaW.PrintWords
set_option linter.unusedVariables false
set_option linter.unusedSimpArgs false
attribute [local go_sem] bl_refl bl_alloc bl_drew bl_drewN
def SS.eqv (s o : SS) : Prop := s.epoch = o.epoch ∧ s.L = o.L ∧ s.H = o.H ∧ s.next = o.next ∧ s.now = o.now
theorem bool_false {b : Bool} {P : Prop} (h : b = true ↔ P) (hn : ¬ P) : b = false := by cases b with | false => rfl | true => exact absurd (h.1 rfl) hn
set_option maxHeartbeats 16000000 in
set_option maxRecDepth 100000 in
theorem sames53 (ok1 ok2 : Nat → Prop) (v1 v2 : Value) (s o : SS) (w : World) (h : IsSS ok1 w v1 s) (h' : IsSS ok2 w v2 o) (b : Bool) (hb : b = true ↔ s.eqv o) :
    Calls Try.prog 53 #[v1, v2] w fun e w' => e = .returned (.bool b) ∧ Below w.heap.size w w' := by
  obtain ⟨A1, c1, A2, c2, rfl, h1, l1, h2, l2⟩ := h
  obtain ⟨A3, c3, A4, c4, rfl, h3, l3, h4, l4⟩ := h'
  obtain ⟨W, hW, K1, K2, HW, hs⟩ := boxes2 w #[.int .i64 s.epoch, .slice A1 s.L.length c1, .slice A2 s.H.length c2, .int .i64 s.next, .int .u64 s.now] 26 #[.int .i64 o.epoch, .slice A3 o.L.length c3, .slice A4 o.H.length c4, .int .i64 o.next, .int .u64 o.now] 26
  obtain ⟨bL, hbL⟩ : ∃ bL : Bool, bL = true ↔ s.L = o.L := by
    by_cases h : s.L = o.L
    · exact ⟨true, by simp [h]⟩
    · exact ⟨false, by simp [h]⟩
  obtain ⟨bH, hbH⟩ : ∃ bH : Bool, bH = true ↔ s.H = o.H := by
    by_cases h : s.H = o.H
    · exact ⟨true, by simp [h]⟩
    · exact ⟨false, by simp [h]⟩
  have H1 := Lib.hid (Kd.C_below h1.self HW)
  have H2 := Lib.hid (Kd.C_below h2.self HW)
  have H3 := Lib.hid (Kd.C_below h3.self HW)
  have H4 := Lib.hid (Kd.C_below h4.self HW)
  have HL := Lib.hid (fun W' h1 h3 => equal120 A1 A3 c1 c3 s.L o.L bL hbL W' h1 h3)
  have HH := Lib.hid (fun W' h2 h4 => equal121 A2 A4 c2 c4 s.H o.H bH hbH W' h2 h4)
  have r1 := blk_cells K1
  have r2 := blk_cells K2
  have HWW := Lib.hid hW
  have HWB := Lib.hid HW
  have n12 : w.heap.size ≠ w.heap.size + 1 := by omega
  have B0 : Below W.heap.size W W := bl_refl W
  unfold SS.eqv at hb
  clear h1 h2 h3 h4 l1 l2 l3 l4 hW HW K1 K2 hs
  cases e0 : (s.epoch == o.epoch) with
  | false =>
    obtain rfl : b = false := bool_false hb (fun h => by rw [h.1] at e0; simp at e0)
    have m0 : (s.epoch != o.epoch) = true := by simpa using e0
    clear hb hbL hbH
    go_enter Try.func53, Try.ntmps53
    go_wp2
    rw [HWW.out]
    go_ret
    exact ⟨rfl, HWB.out⟩
  | true =>
    have m0 : (s.epoch != o.epoch) = false := by simpa using e0
    cases bL with
    | false =>
      obtain rfl : b = false := bool_false hb (fun h => by have := hbL.2 h.2.1; cases this)
      clear hb hbL hbH
      go_enter Try.func53, Try.ntmps53
      go_wp2_with fail
      rw [HWW.out]
      refine (HL.out W H1.out H3.out).mono ?_
      rintro e w1 ⟨rfl, hb1⟩
      have B1 : Below W.heap.size W w1 := hb1
      clear hb1
      go_wp2
      go_ret
      exact ⟨rfl, bl_trans HWB.out B1⟩
    | true =>
      cases bH with
      | false =>
        obtain rfl : b = false := bool_false hb (fun h => by have := hbH.2 h.2.2.1; cases this)
        clear hb hbL hbH
        go_enter Try.func53, Try.ntmps53
        go_wp2_with fail
        rw [HWW.out]
        refine (HL.out W H1.out H3.out).mono ?_
        rintro e w1 ⟨rfl, hb1⟩
        have B1 : Below W.heap.size W w1 := hb1
        clear hb1
        go_wp2_with fail
        refine (HH.out w1 (Kd.C_below H2.out B1) (Kd.C_below H4.out B1)).mono ?_
        rintro e w2 ⟨rfl, hb2⟩
        have B2 : Below W.heap.size W w2 := bl_trans B1 hb2
        clear hb2
        go_wp2
        go_ret
        exact ⟨rfl, bl_trans HWB.out B2⟩
      | true =>
        cases e3 : (s.next == o.next) with
        | false =>
          obtain rfl : b = false := bool_false hb (fun h => by rw [h.2.2.2.1] at e3; simp at e3)
          have m3 : (s.next != o.next) = true := by simpa using e3
          clear hb hbL hbH
          go_enter Try.func53, Try.ntmps53
          go_wp2_with fail
          rw [HWW.out]
          refine (HL.out W H1.out H3.out).mono ?_
          rintro e w1 ⟨rfl, hb1⟩
          have B1 : Below W.heap.size W w1 := hb1
          clear hb1
          go_wp2_with fail
          refine (HH.out w1 (Kd.C_below H2.out B1) (Kd.C_below H4.out B1)).mono ?_
          rintro e w2 ⟨rfl, hb2⟩
          have B2 : Below W.heap.size W w2 := bl_trans B1 hb2
          clear hb2
          go_wp2
          go_ret
          exact ⟨rfl, bl_trans HWB.out B2⟩
        | true =>
          have m3 : (s.next != o.next) = false := by simpa using e3
          cases e4 : (s.now == o.now) with
          | false =>
            obtain rfl : b = false := bool_false hb (fun h => by rw [h.2.2.2.2] at e4; simp at e4)
            have m4 : (s.now != o.now) = true := by simpa using e4
            clear hb hbL hbH
            go_enter Try.func53, Try.ntmps53
            go_wp2_with fail
            rw [HWW.out]
            refine (HL.out W H1.out H3.out).mono ?_
            rintro e w1 ⟨rfl, hb1⟩
            have B1 : Below W.heap.size W w1 := hb1
            clear hb1
            go_wp2_with fail
            refine (HH.out w1 (Kd.C_below H2.out B1) (Kd.C_below H4.out B1)).mono ?_
            rintro e w2 ⟨rfl, hb2⟩
            have B2 : Below W.heap.size W w2 := bl_trans B1 hb2
            clear hb2
            go_wp2
            go_ret
            exact ⟨rfl, bl_trans HWB.out B2⟩
          | true =>
            have m4 : (s.now != o.now) = false := by simpa using e4
            obtain rfl : b = true := hb.2 ⟨of_decide_eq_true (by simpa using e0), hbL.1 rfl, hbH.1 rfl, of_decide_eq_true (by simpa using e3), of_decide_eq_true (by simpa using e4)⟩
            clear hb hbL hbH
            go_enter Try.func53, Try.ntmps53
            go_wp2_with fail
            rw [HWW.out]
            refine (HL.out W H1.out H3.out).mono ?_
            rintro e w1 ⟨rfl, hb1⟩
            have B1 : Below W.heap.size W w1 := hb1
            clear hb1
            go_wp2_with fail
            refine (HH.out w1 (Kd.C_below H2.out B1) (Kd.C_below H4.out B1)).mono ?_
            rintro e w2 ⟨rfl, hb2⟩
            have B2 : Below W.heap.size W w2 := bl_trans B1 hb2
            clear hb2
            go_wp2
            go_ret
            exact ⟨rfl, bl_trans HWB.out B2⟩
set_option maxHeartbeats 16000000 in
set_option maxRecDepth 100000 in
theorem sames27 (ok1 ok2 : Nat → Prop) (v1 v2 : Value) (s o : SS) (w : World) (h : IsSS ok1 w v1 s) (h' : IsSS ok2 w v2 o) (b : Bool) (hb : b = true ↔ s.eqv o) :
    Calls Try.prog 27 #[v1, v2] w fun e w' => e = .returned (.bool b) ∧ Below w.heap.size w w' := by
  obtain ⟨A1, c1, A2, c2, rfl, h1, l1, h2, l2⟩ := h
  obtain ⟨A3, c3, A4, c4, rfl, h3, l3, h4, l4⟩ := h'
  obtain ⟨W, hW, K1, K2, HW, hs⟩ := boxes2 w #[.int .i64 s.epoch, .slice A1 s.L.length c1, .slice A2 s.H.length c2, .int .i64 s.next, .int .u64 s.now] 26 #[.int .i64 o.epoch, .slice A3 o.L.length c3, .slice A4 o.H.length c4, .int .i64 o.next, .int .u64 o.now] 26
  obtain ⟨bL, hbL⟩ : ∃ bL : Bool, bL = true ↔ s.L = o.L := by
    by_cases h : s.L = o.L
    · exact ⟨true, by simp [h]⟩
    · exact ⟨false, by simp [h]⟩
  obtain ⟨bH, hbH⟩ : ∃ bH : Bool, bH = true ↔ s.H = o.H := by
    by_cases h : s.H = o.H
    · exact ⟨true, by simp [h]⟩
    · exact ⟨false, by simp [h]⟩
  have H1 := Lib.hid (Kd.C_below h1.self HW)
  have H2 := Lib.hid (Kd.C_below h2.self HW)
  have H3 := Lib.hid (Kd.C_below h3.self HW)
  have H4 := Lib.hid (Kd.C_below h4.self HW)
  have HL := Lib.hid (fun W' h1 h3 => equal52 A1 A3 c1 c3 s.L o.L bL hbL W' h1 h3)
  have HH := Lib.hid (fun W' h2 h4 => equal89 A2 A4 c2 c4 s.H o.H bH hbH W' h2 h4)
  have r1 := blk_cells K1
  have r2 := blk_cells K2
  have HWW := Lib.hid hW
  have HWB := Lib.hid HW
  have n12 : w.heap.size ≠ w.heap.size + 1 := by omega
  have B0 : Below W.heap.size W W := bl_refl W
  unfold SS.eqv at hb
  clear h1 h2 h3 h4 l1 l2 l3 l4 hW HW K1 K2 hs
  cases bL with
  | false =>
    obtain rfl : b = false := bool_false hb (fun h => by have := hbL.2 h.2.1; cases this)
    clear hb hbL hbH
    go_enter Try.func27, Try.ntmps27
    go_wp2_with fail
    rw [HWW.out]
    refine (HL.out W H1.out H3.out).mono ?_
    rintro e w1 ⟨rfl, hb1⟩
    have B1 : Below W.heap.size W w1 := hb1
    clear hb1
    go_wp2_with fail
    refine (HH.out w1 (Kd.C_below H2.out B1) (Kd.C_below H4.out B1)).mono ?_
    rintro e w2 ⟨rfl, hb2⟩
    have B2 : Below W.heap.size W w2 := bl_trans B1 hb2
    clear hb2
    go_wp2
    go_ret
    exact ⟨rfl, bl_trans HWB.out B2⟩
  | true =>
    cases bH with
    | false =>
      obtain rfl : b = false := bool_false hb (fun h => by have := hbH.2 h.2.2.1; cases this)
      clear hb hbL hbH
      go_enter Try.func27, Try.ntmps27
      go_wp2_with fail
      rw [HWW.out]
      refine (HL.out W H1.out H3.out).mono ?_
      rintro e w1 ⟨rfl, hb1⟩
      have B1 : Below W.heap.size W w1 := hb1
      clear hb1
      go_wp2_with fail
      refine (HH.out w1 (Kd.C_below H2.out B1) (Kd.C_below H4.out B1)).mono ?_
      rintro e w2 ⟨rfl, hb2⟩
      have B2 : Below W.heap.size W w2 := bl_trans B1 hb2
      clear hb2
      go_wp2
      go_ret
      exact ⟨rfl, bl_trans HWB.out B2⟩
    | true =>
      cases e0 : (s.epoch == o.epoch) with
      | false =>
        obtain rfl : b = false := bool_false hb (fun h => by rw [h.1] at e0; simp at e0)
        have m0 : (s.epoch != o.epoch) = true := by simpa using e0
        clear hb hbL hbH
        go_enter Try.func27, Try.ntmps27
        go_wp2_with fail
        rw [HWW.out]
        refine (HL.out W H1.out H3.out).mono ?_
        rintro e w1 ⟨rfl, hb1⟩
        have B1 : Below W.heap.size W w1 := hb1
        clear hb1
        go_wp2_with fail
        refine (HH.out w1 (Kd.C_below H2.out B1) (Kd.C_below H4.out B1)).mono ?_
        rintro e w2 ⟨rfl, hb2⟩
        have B2 : Below W.heap.size W w2 := bl_trans B1 hb2
        clear hb2
        go_wp2
        go_ret
        exact ⟨rfl, bl_trans HWB.out B2⟩
      | true =>
        have m0 : (s.epoch != o.epoch) = false := by simpa using e0
        cases e3 : (s.next == o.next) with
        | false =>
          obtain rfl : b = false := bool_false hb (fun h => by rw [h.2.2.2.1] at e3; simp at e3)
          have m3 : (s.next != o.next) = true := by simpa using e3
          clear hb hbL hbH
          go_enter Try.func27, Try.ntmps27
          go_wp2_with fail
          rw [HWW.out]
          refine (HL.out W H1.out H3.out).mono ?_
          rintro e w1 ⟨rfl, hb1⟩
          have B1 : Below W.heap.size W w1 := hb1
          clear hb1
          go_wp2_with fail
          refine (HH.out w1 (Kd.C_below H2.out B1) (Kd.C_below H4.out B1)).mono ?_
          rintro e w2 ⟨rfl, hb2⟩
          have B2 : Below W.heap.size W w2 := bl_trans B1 hb2
          clear hb2
          go_wp2
          go_ret
          exact ⟨rfl, bl_trans HWB.out B2⟩
        | true =>
          have m3 : (s.next != o.next) = false := by simpa using e3
          cases e4 : (s.now == o.now) with
          | false =>
            obtain rfl : b = false := bool_false hb (fun h => by rw [h.2.2.2.2] at e4; simp at e4)
            have m4 : (s.now != o.now) = true := by simpa using e4
            clear hb hbL hbH
            go_enter Try.func27, Try.ntmps27
            go_wp2_with fail
            rw [HWW.out]
            refine (HL.out W H1.out H3.out).mono ?_
            rintro e w1 ⟨rfl, hb1⟩
            have B1 : Below W.heap.size W w1 := hb1
            clear hb1
            go_wp2_with fail
            refine (HH.out w1 (Kd.C_below H2.out B1) (Kd.C_below H4.out B1)).mono ?_
            rintro e w2 ⟨rfl, hb2⟩
            have B2 : Below W.heap.size W w2 := bl_trans B1 hb2
            clear hb2
            go_wp2
            go_ret
            exact ⟨rfl, bl_trans HWB.out B2⟩
          | true =>
            have m4 : (s.now != o.now) = false := by simpa using e4
            obtain rfl : b = true := hb.2 ⟨of_decide_eq_true (by simpa using e0), hbL.1 rfl, hbH.1 rfl, of_decide_eq_true (by simpa using e3), of_decide_eq_true (by simpa using e4)⟩
            clear hb hbL hbH
            go_enter Try.func27, Try.ntmps27
            go_wp2_with fail
            rw [HWW.out]
            refine (HL.out W H1.out H3.out).mono ?_
            rintro e w1 ⟨rfl, hb1⟩
            have B1 : Below W.heap.size W w1 := hb1
            clear hb1
            go_wp2_with fail
            refine (HH.out w1 (Kd.C_below H2.out B1) (Kd.C_below H4.out B1)).mono ?_
            rintro e w2 ⟨rfl, hb2⟩
            have B2 : Below W.heap.size W w2 := bl_trans B1 hb2
            clear hb2
            go_wp2
            go_ret
            exact ⟨rfl, bl_trans HWB.out B2⟩
end Go.Proofs.Ytkcebmamohimoaa
