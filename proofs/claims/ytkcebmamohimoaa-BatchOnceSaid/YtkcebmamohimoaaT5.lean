/- What came in: batches. The law BatchBack, walked. -/
import Derived.Test.YtkcebmamohimoaaB7
import Derived.Test.YtkcebmamohimoaaR1
namespace Go.Proofs.Ytkcebmamohimoaa
open Go.RowKit Go.Proofs.YtkcebmamohimoaaW.PrintWords
set_option linter.unusedVariables false
set_option linter.unusedSimpArgs false
theorem cells127 : Try.prog.cellsOf 127 = 3 := by kernel_rfl
theorem cells50 : Try.prog.cellsOf 50 = 3 := by kernel_rfl
theorem cells48 : Try.prog.cellsOf 48 = 1 := by kernel_rfl
theorem cells3 : Try.prog.cellsOf 3 = 1 := by kernel_rfl
theorem cells4 : Try.prog.cellsOf 4 = 1 := by kernel_rfl
theorem cells9 : Try.prog.cellsOf 9 = 1 := by kernel_rfl
theorem rd127 {H : Type} {enc : TypeId × Value → H} {w : World} {cs : List Value} (h : Rd enc w 127 cs) : ∃ x : Wr, cs = x.cells ∧ (x.key.size ≤ maxLen ∧ x.val.size ≤ maxLen) := by
  have hl := Rd.len Try.underlying127 h
  rw [cells127] at hl
  match cs, hl with
  | [c0, c1, c2], _ =>
    obtain ⟨n0, e0, w0⟩ := Rd.string Try.underlying9 (Rd.fld Try.underlying127 h 0 _ rfl [c0] (by simp [cells9]))
    simp only [List.cons.injEq, and_true] at e0
    subst e0
    obtain ⟨n1, e1, w1⟩ := Rd.string Try.underlying9 (Rd.fld Try.underlying127 h 1 _ rfl [c1] (by simp [cells9]))
    simp only [List.cons.injEq, and_true] at e1
    subst e1
    obtain ⟨n2, e2⟩ := Rd.bool Try.underlying4 (Rd.fld Try.underlying127 h 2 _ rfl [c2] (by simp [cells4]))
    simp only [List.cons.injEq, and_true] at e2
    subst e2
    exact ⟨⟨n0, n1, n2⟩, rfl, w0, w1⟩
theorem rd48 {H : Type} {enc : TypeId × Value → H} {w : World} {cs : List Value} (h : Rd enc w 48 cs) : ∃ (A : Option Addr) (L : List Wr) (cap : Nat), cs = [.slice A L.length cap] ∧ Kd.C kWr w A L.length L ∧ L.length ≤ cap ∧ ∀ x ∈ L, x.key.size ≤ maxLen ∧ x.val.size ≤ maxLen :=
  Rd.row Try.underlying48 cells127 (fun x : Wr => x.key.size ≤ maxLen ∧ x.val.size ≤ maxLen) (fun _ h => rd127 h) h
theorem rd50 {H : Type} {enc : TypeId × Value → H} {w : World} {cs : List Value} (h : Rd enc w 50 cs) : ∃ (b : Bt) (A : Option Addr) (c : Nat), cs = [.int .i64 b.kind, .string b.tok, .slice A b.ws.length c] ∧ Kd.C kWr w A b.ws.length b.ws ∧ b.ws.length ≤ c ∧ ∀ x ∈ b.ws, x.key.size ≤ maxLen ∧ x.val.size ≤ maxLen := by
  have hl := Rd.len Try.underlying50 h
  rw [cells50] at hl
  match cs, hl with
  | [c0, c1, c2], _ =>
    obtain ⟨n0, e0, w0⟩ := Rd.int Try.underlying3 (Rd.fld Try.underlying50 h 0 _ rfl [c0] (by simp [cells3]))
    simp only [List.cons.injEq, and_true] at e0
    subst e0
    obtain ⟨n1, e1, w1⟩ := Rd.string Try.underlying9 (Rd.fld Try.underlying50 h 1 _ rfl [c1] (by simp [cells9]))
    simp only [List.cons.injEq, and_true] at e1
    subst e1
    obtain ⟨A2, L2, p2, e2, g2, l2, q2⟩ := rd48 (Rd.fld Try.underlying50 h 2 _ rfl [c2] (by simp [cells48]))
    simp only [List.cons.injEq, and_true] at e2
    subst e2
    exact ⟨⟨n0, n1, L2⟩, A2, p2, rfl, g2, l2, q2⟩
theorem bS_more (l : Bs) : bS l ++ (⟨#[48]⟩ : ByteArray) = bS (l ++ [48]) := bS_app l [48]
theorem bytes_len {b : Bt} (h : b.may = true) : b.bytes.length ≤ 5000 := by
  have ok := may_ok h
  have h1 := pre_len ok
  have h2 := flat_len b.ws ok.fine
  have h3 := ok.len
  unfold Bt.bytes
  rw [List.length_append]
  omega
attribute [local go_sem] bl_refl bl_alloc bl_drew bl_drewN bS_app bS_size bS_more
set_option maxHeartbeats 16000000 in
set_option maxRecDepth 100000 in
theorem back5 (A : Option Addr) (c : Nat) (b : Bt) (cut : Int) (w : World) (h : Kd.C kWr w A b.ws.length b.ws) :
    Calls Try.prog 5 #[.agg #[.int .i64 b.kind, .string b.tok, .slice A b.ws.length c], .int .i64 cut] w fun e w' => e = .returned (.bool true) ∧ Below w.heap.size w w' := by
  cases hm : b.may with
  | false =>
    have HM := Lib.hid hm
    obtain ⟨W, hW, K1, HW, hs⟩ := boxes1 w #[.int .i64 b.kind, .string b.tok, .slice A b.ws.length c] 50
    have HC := Lib.hid (Kd.C_below h HW)
    have r2 := blk_cells K1
    have HWB := Lib.hid HW
    have HWW := Lib.hid hW
    clear hW K1 HW hs h hm
    go_enter Try.func5, Try.ntmps5
    go_wp2_with fail
    rw [HWW.out]
    refine (shown28 W).mono ?_
    rintro e w1 ⟨rfl, hb⟩
    have B1 : Below W.heap.size W w1 := hb
    clear hb
    go_wp2_with fail
    refine (no29 A c b w1 (Kd.C_below HC.out B1) HM.out).mono ?_
    rintro e w2 ⟨rfl, hb⟩
    have B2 : Below W.heap.size W w2 := bl_trans B1 hb
    clear hb B1
    go_wp2_with fail
    refine (may34 A c b w2 (Kd.C_below HC.out B2)).mono ?_
    rintro e w3 ⟨rfl, hb⟩
    rw [HM.out]
    have HB3 := Lib.hid (bl_trans HWB.out (bl_trans B2 hb))
    clear hb B2
    go_wp2
    go_ret
    exact ⟨rfl, HB3.out⟩
  | true =>
    obtain ⟨kind, tok, ws⟩ := b
    have hk0 := (may_ok hm).kind
    simp only [] at hk0 h
    obtain ⟨k, rfl⟩ : ∃ k : Nat, kind = k := ⟨kind.toNat, by omega⟩
    have hlen := bytes_len hm
    have ht1 := take_back hm
    have ht2 := take_more hm [48] (by simp)
    have ht3 := fun cut hc => take_less hm cut hc
    have hy := fun w h => yes29 A c k tok ws w h hm
    obtain ⟨LL, hLL⟩ : ∃ LL, (⟨(k : Int), tok, ws⟩ : Bt).bytes = LL := ⟨_, rfl⟩
    rw [hLL] at hlen ht1 ht2 ht3 hy
    have c1 := fun w => take31 LL (by omega) w
    have c2 := fun w => take31 (LL ++ [48]) (by rw [List.length_append]; simp; omega) w
    rw [ht1] at c1
    rw [ht2] at c2
    have C1 := Lib.hid c1
    have C2 := Lib.hid c2
    have HY := Lib.hid hy
    have HT3 := Lib.hid ht3
    have HLN := Lib.hid hlen
    have hsz : LL.length + 1 ≤ 9223372036854775807 := by omega
    obtain ⟨W, hW, K1, HW, hs⟩ := boxes1 w #[.int .i64 (k : Int), .string tok, .slice A ws.length c] 50
    have HC := Lib.hid (Kd.C_below h HW)
    have r2 := blk_cells K1
    have HWB := Lib.hid HW
    have HWW := Lib.hid hW
    clear hW K1 HW hs h hm hk0 ht1 ht2 ht3 hy hLL c1 c2 hlen
    go_enter Try.func5, Try.ntmps5
    go_wp2_with fail
    rw [HWW.out]
    refine (shown28 W).mono ?_
    rintro e w1 ⟨rfl, hb⟩
    have B1 : Below W.heap.size W w1 := hb
    clear hb
    go_wp2_with fail
    refine (HY.out w1 (Kd.C_below HC.out B1)).mono ?_
    rintro e w2 ⟨rfl, hb⟩
    have B2 : Below W.heap.size W w2 := bl_trans B1 hb
    clear hb B1
    go_wp2_with fail
    refine (C1.out w2).mono ?_
    rintro e w3 ⟨A1, c1, rfl, hR, hb⟩
    have B3 : Below W.heap.size W w3 := bl_trans B2 hb
    have HCA := Lib.hid (Kd.R_reads' hR).2.2
    clear hb B2 hR
    go_wp2_with fail
    refine (same33 A A1 c c1 ⟨(k : Int), tok, ws⟩ _ (Kd.C_below HC.out (bl_alloc _ B3)) (Kd.C_below HCA.out (bl_alloc _ (bl_refl w3)))).mono ?_
    rintro e w4 ⟨rfl, hb⟩
    have HB4 := Lib.hid (bl_trans HWB.out (bl_trans (bl_alloc _ B3) hb))
    clear hb B3 r2
    go_wp2_with fail
    refine (C2.out w4).mono ?_
    rintro e w5 ⟨A2, c2, rfl, hR, hb⟩
    have HB5 := Lib.hid (bl_trans HB4.out hb)
    clear hb hR
    by_cases hc0 : cut < 0
    · go_wp2
      go_ret
      exact ⟨rfl, bl_alloc _ HB5.out⟩
    · by_cases hc1 : (LL.length : Int) ≤ cut
      · go_wp2
        go_ret
        exact ⟨rfl, bl_alloc _ HB5.out⟩
      · obtain ⟨q, rfl⟩ : ∃ q : Nat, cut = q := ⟨cut.toNat, by omega⟩
        have hq : q < LL.length := by omega
        have hqz : (q : Int) < (LL.length : Int) := by omega
        have hq0 : (0 : Int) ≤ (q : Int) := by omega
        have hql : (q : Int) ≤ (LL.length : Int) := by omega
        have c3 := fun w => take31 (LL.take q) (by rw [List.length_take]; have := HLN.out; omega) w
        rw [HT3.out q hq] at c3
        have C3 := Lib.hid c3
        have HX := Lib.hid (show (bS LL).extract 0 q = bS (LL.take q) by rw [extract_T, bS_toList])
        clear c3 hc0 hc1 hq
        go_wp2_with fail
        rw [HX.out]
        refine (C3.out _).mono ?_
        rintro e w6 ⟨A3, c3, rfl, hR, hb⟩
        have HB6 := Lib.hid (bl_trans (bl_alloc _ HB5.out) hb)
        clear hb hR
        go_wp2
        go_ret
        exact ⟨rfl, bl_alloc _ HB6.out⟩
end Go.Proofs.Ytkcebmamohimoaa
