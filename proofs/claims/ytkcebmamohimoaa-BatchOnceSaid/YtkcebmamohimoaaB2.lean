/- May a batch be: the program's and the reference's. -/
import Derived.Test.YtkcebmamohimoaaB1
import Derived.Test.YtkcebmamohimoaaS1
namespace Go.Proofs.Ytkcebmamohimoaa
open Go.RowKit Go.Proofs.YtkcebmamohimoaaW.PrintWords
set_option linter.unusedVariables false
set_option linter.unusedSimpArgs false
attribute [local go_sem] bl_refl bl_alloc bl_drew bl_drewN
set_option maxHeartbeats 2000000 in
set_option maxRecDepth 100000 in
theorem pred100 (w : World) : PredB 100 #[] Wr.cells Wr.odd w := by
  intro x W hb
  clear hb
  show Calls Try.prog 100 #[.agg #[.string x.key, .string x.val, .bool x.del]] W _
  obtain ⟨o, ho⟩ : ∃ o, x.odd = o := ⟨_, rfl⟩
  rw [ho]
  have HO := Lib.hid ho
  clear ho
  by_cases h1 : x.key.size < 1
  · have hz : (x.key.size : Int) < 1 := by omega
    have HR := Lib.hid (show o = true by rw [← HO.out]; unfold Wr.odd; simp [h1])
    clear h1
    go_enter Try.func100, Try.ntmps100
    go_wp2
    go_ret
    exact ⟨by rw [HR.out]; rfl, bl_alloc _ (bl_refl _)⟩
  have hz : ¬ (x.key.size : Int) < 1 := by omega
  by_cases h2 : 32 < x.key.size
  · have hz2 : (32 : Int) < (x.key.size : Int) := by omega
    have HR := Lib.hid (show o = true by rw [← HO.out]; unfold Wr.odd; simp [h2])
    clear h1 h2
    go_enter Try.func100, Try.ntmps100
    go_wp2
    go_ret
    exact ⟨by rw [HR.out]; rfl, bl_alloc _ (bl_refl _)⟩
  have hz2 : ¬ (32 : Int) < (x.key.size : Int) := by omega
  by_cases h3 : 64 < x.val.size
  · have hz3 : (64 : Int) < (x.val.size : Int) := by omega
    have HR := Lib.hid (show o = true by rw [← HO.out]; unfold Wr.odd; simp [h3])
    clear h1 h2 h3
    go_enter Try.func100, Try.ntmps100
    go_wp2
    go_ret
    exact ⟨by rw [HR.out]; rfl, bl_alloc _ (bl_refl _)⟩
  have hz3 : ¬ (64 : Int) < (x.val.size : Int) := by omega
  cases hd : x.del with
  | false =>
    have HR := Lib.hid (show o = false by rw [← HO.out]; unfold Wr.odd; simp [h1, h2, h3, hd])
    clear h1 h2 h3 hd
    go_enter Try.func100, Try.ntmps100
    go_wp2
    go_ret
    exact ⟨by rw [HR.out]; rfl, bl_alloc _ (bl_refl _)⟩
  | true =>
    have HR := Lib.hid (show o = !x.val.toList.isEmpty by rw [← HO.out]; unfold Wr.odd; rw [hd, decide_eq_false h1, decide_eq_false h2, decide_eq_false h3]; rfl)
    clear h1 h2 h3 hd
    go_enter Try.func100, Try.ntmps100
    go_wp2
    go_ret
    exact ⟨by rw [HR.out]; rfl, bl_alloc _ (bl_refl _)⟩
theorem enters100 : ∀ args w, (callFunc 100 args).run Try.prog w = .ok (.enter 100 args) w := enters_of Try.func100 (by kernel_rfl) rfl
set_option maxHeartbeats 16000000 in
set_option maxRecDepth 100000 in
theorem may34 (A : Option Addr) (c : Nat) (b : Bt) (w : World) (h : Kd.C kWr w A b.ws.length b.ws) :
    Calls Try.prog 34 #[.agg #[.int .i64 b.kind, .string b.tok, .slice A b.ws.length c]] w fun e w' => e = .returned (.bool b.may) ∧ Below w.heap.size w w' := by
  have HC0 := Lib.hid h
  have hm0 : b.ws.length ≤ 9223372036854775807 := h.2.1

  clear h
  have hkk : b.kind < 1 ∨ 2 < b.kind ∨ b.kind = 1 ∨ b.kind = 2 := by omega
  have hbad : b.kind < 1 ∨ 2 < b.kind → b.may = false := fun h => by unfold Bt.may Bt.head; rw [beq_eq_false_iff_ne.2 (show b.kind ≠ 1 by omega), beq_eq_false_iff_ne.2 (show b.kind ≠ 2 by omega)]; rfl
  have hmay : b.may = (b.head && risesB b.ws && !(b.ws.any Wr.odd)) := rfl
  have hhd : b.head = ((b.kind == 1 || b.kind == 2) && decide (1 ≤ b.tok.size) && decide (b.tok.size ≤ 16) && decide (b.ws.length ≤ 24) && !(b.kind == 2 && decide (0 < b.ws.length))) := rfl
  obtain ⟨m, hm⟩ : ∃ m, b.may = m := ⟨_, rfl⟩
  rw [hm] at hbad hmay ⊢
  have HBAD := Lib.hid hbad
  have HMAY := Lib.hid hmay
  have HHD := Lib.hid hhd
  clear hm hbad hmay hhd
  rcases hkk with hk | hk | hk | hk
  · have e1 : (b.kind != 1) = true := by rw [bne_iff_ne]; omega
    have e2 : (b.kind != 2) = true := by rw [bne_iff_ne]; omega
    have e3 : (b.kind == 2) = false := by rw [beq_eq_false_iff_ne]; omega
    have z1 : b.kind < 1 := by omega
    have HR := Lib.hid (show m = false from HBAD.out (.inl hk))
    clear hk
    go_enter Try.func34, Try.ntmps34
    go_wp2
    go_ret
    exact ⟨by rw [HR.out]; rfl, bl_alloc _ (bl_refl _)⟩
  · have e1 : (b.kind != 1) = true := by rw [bne_iff_ne]; omega
    have e2 : (b.kind != 2) = true := by rw [bne_iff_ne]; omega
    have e3 : (b.kind == 2) = false := by rw [beq_eq_false_iff_ne]; omega
    have z1 : ¬ b.kind < 1 := by omega
    have z2 : 2 < b.kind := by omega
    have HR := Lib.hid (show m = false from HBAD.out (.inr hk))
    clear hk
    go_enter Try.func34, Try.ntmps34
    go_wp2
    go_ret
    exact ⟨by rw [HR.out]; rfl, bl_alloc _ (bl_refl _)⟩
  · have e1 : (b.kind != 1) = false := by rw [hk]; rfl
    have e3 : (b.kind == 2) = false := by rw [hk]; rfl
    have z1 : ¬ b.kind < 1 := by omega
    have z2 : ¬ 2 < b.kind := by omega
    have HK := Lib.hid hk
    clear hk
    by_cases t1 : b.tok.size < 1
    · have t1z : (b.tok.size : Int) < 1 := by omega
      have HR := Lib.hid (show m = false by rw [HMAY.out, HHD.out, decide_eq_false (show ¬ 1 ≤ b.tok.size by omega)]; simp)
      clear t1
      go_enter Try.func34, Try.ntmps34
      go_wp2
      go_ret
      exact ⟨by rw [HR.out]; rfl, bl_alloc _ (bl_refl _)⟩
    have t1z : ¬ (b.tok.size : Int) < 1 := by omega
    by_cases t2 : 16 < b.tok.size
    · have t2z : (16 : Int) < (b.tok.size : Int) := by omega
      have HR := Lib.hid (show m = false by rw [HMAY.out, HHD.out, decide_eq_false (show ¬ b.tok.size ≤ 16 by omega)]; simp)
      clear t1 t2
      go_enter Try.func34, Try.ntmps34
      go_wp2
      go_ret
      exact ⟨by rw [HR.out]; rfl, bl_alloc _ (bl_refl _)⟩
    have t2z : ¬ (16 : Int) < (b.tok.size : Int) := by omega
    by_cases t3 : 24 < b.ws.length
    · have t3z : (24 : Int) < (b.ws.length : Int) := by omega
      have HR := Lib.hid (show m = false by rw [HMAY.out, HHD.out, decide_eq_false (show ¬ b.ws.length ≤ 24 by omega)]; simp)
      clear t1 t2 t3
      go_enter Try.func34, Try.ntmps34
      go_wp2
      go_ret
      exact ⟨by rw [HR.out]; rfl, bl_alloc _ (bl_refl _)⟩
    have t3z : ¬ (24 : Int) < (b.ws.length : Int) := by omega
    have HD := Lib.hid (show b.head = true by rw [HHD.out, HK.out, decide_eq_true (show 1 ≤ b.tok.size by omega), decide_eq_true (show b.tok.size ≤ 16 by omega), decide_eq_true (show b.ws.length ≤ 24 by omega)]; rfl)
    clear t1 t2 t3
    obtain ⟨W, hW, K1, HW, hs⟩ := boxes1 w #[.int .i64 b.kind, .string b.tok, .slice A b.ws.length c] 50
    have HC := Lib.hid (Kd.C_below HC0.out HW)
    have r1 := blk_cells K1
    have HWB := Lib.hid HW
    have HSZ := Lib.hid hs
    have HWW := Lib.hid hW
    have B0 := bl_refl W
    clear hW K1 HW hs
    go_enter Try.func34, Try.ntmps34
    go_wp2_with fail
    rw [HWW.out]
    go_loopg [4] b.ws.length (fun gg s4 wr => ∃ p : Nat, b.ws.length - p ≤ gg ∧ (p ≤ b.ws.length) ∧ s4 = .int .i64 ((p + 1 : Nat) : Int) ∧ Hid (Below W.heap.size W wr) ∧ Hid (∀ j, j < p → j + 1 < b.ws.length → bl b.ws[j]!.key b.ws[j + 1]!.key = true))
    case atStart => exact ⟨0, by omega, Nat.zero_le _, rfl, bl_refl _, fun j hj => absurd hj (Nat.not_lt_zero _)⟩
    case round =>
      obtain ⟨p, hgg, hpl, rfl, HB, HN⟩ := hrel
      have Bw : Below W.heap.size W wr := HB.out
      have Br := bl_refl wr
      have hp0 : (0 : Int) ≤ (p : Int) := by omega
      by_cases hlt : p + 1 < b.ws.length
      · have hz1 : (p : Int) + 1 < (b.ws.length : Int) := by omega
        have hz2 : (p : Int) < (b.ws.length : Int) := by omega
        obtain ⟨x, hx⟩ : ∃ x, b.ws[p]! = x := ⟨_, rfl⟩
        obtain ⟨y, hy⟩ : ∃ y, b.ws[p + 1]! = y := ⟨_, rfl⟩
        obtain ⟨ad, rfl, x0, _, _⟩ := Wr.at (Kd.C_below HC.out Bw) p (by omega)
        obtain ⟨ad', e', y0, _, _⟩ := Wr.at (Kd.C_below HC.out Bw) (p + 1) hlt
        obtain rfl : ad = ad' := by injection e'
        rw [hx] at x0
        rw [hy] at y0
        have p0 := cell_rule x0
        have q0 := cell_rule y0
        have HX := Lib.hid hx
        have HY := Lib.hid hy
        have HLT := Lib.hid hlt
        clear x0 y0 e' hx hy hlt
        cases hq : Op.bytesLess x.key.toList y.key.toList with
        | true =>
          have HQ := Lib.hid (show bl b.ws[p]!.key b.ws[p + 1]!.key = true by rw [HX.out, HY.out]; exact hq)
          go_wp2
          go_big_region
          go_wp2
          go_roundg (b.ws.length - (p + 1))
          case measure => have := HLT.out; omega
          case rel =>
            refine ⟨p + 1, Nat.le_refl _, by have := HLT.out; omega, by go_num, bl_drew HB.out, fun j h1 h2 => ?_⟩
            by_cases e : j = p
            · subst e; exact HQ.out
            · exact HN.out j (by omega) h2
        | false =>
          have HR := Lib.hid (show m = false by
            rw [HMAY.out, show risesB b.ws = false from ?_]
            · simp
            · rw [Bool.eq_false_iff]
              intro h
              have := (risesB_iff b.ws).1 h p HLT.out
              rw [HX.out, HY.out] at this
              exact absurd (show Op.bytesLess x.key.toList y.key.toList = true from this) (by rw [hq]; simp))
          go_wp2
          go_big_region
          go_wp2
          go_ret
          exact ⟨by rw [HR.out]; rfl, bl_drew (bl_trans HWB.out HB.out)⟩
      · have hz1 : ¬ (p : Int) + 1 < (b.ws.length : Int) := by omega
        have HLT := Lib.hid hlt
        have HCF := Lib.hid (fun W' h => containsFunc101 A c b.ws 100 #[] Wr.odd enters100 W' h (pred100 W'))
        have HR := Lib.hid (show m = !(b.ws.any Wr.odd) by
          rw [HMAY.out, HD.out, (risesB_iff b.ws).2 (fun i hi => HN.out i (by have := HLT.out; omega) hi)]; rfl)
        clear hlt
        cases ho : b.ws.any Wr.odd with
        | true =>
          rw [ho] at HCF HR
          clear ho
          go_wp2_with fail
          refine (HCF.out wr (Kd.C_below HC.out HB.out)).mono ?_
          rintro e w2 ⟨rfl, hb⟩
          have HB2 := Lib.hid (bl_trans HB.out hb)
          clear hb
          go_wp2
          go_ret
          exact ⟨by rw [HR.out]; rfl, bl_trans HWB.out HB2.out⟩
        | false =>
          rw [ho] at HCF HR
          clear ho
          go_wp2_with fail
          refine (HCF.out wr (Kd.C_below HC.out HB.out)).mono ?_
          rintro e w2 ⟨rfl, hb⟩
          have HB2 := Lib.hid (bl_trans HB.out hb)
          clear hb
          go_wp2
          go_ret
          exact ⟨by rw [HR.out]; rfl, bl_trans HWB.out HB2.out⟩
  · have e1 : (b.kind != 1) = true := by rw [hk]; rfl
    have e2 : (b.kind != 2) = false := by rw [hk]; rfl
    have e3 : (b.kind == 2) = true := by rw [hk]; rfl
    have z1 : ¬ b.kind < 1 := by omega
    have z2 : ¬ 2 < b.kind := by omega
    have HK := Lib.hid hk
    clear hk
    by_cases t1 : b.tok.size < 1
    · have t1z : (b.tok.size : Int) < 1 := by omega
      have HR := Lib.hid (show m = false by rw [HMAY.out, HHD.out, decide_eq_false (show ¬ 1 ≤ b.tok.size by omega)]; simp)
      clear t1
      go_enter Try.func34, Try.ntmps34
      go_wp2
      go_ret
      exact ⟨by rw [HR.out]; rfl, bl_alloc _ (bl_refl _)⟩
    have t1z : ¬ (b.tok.size : Int) < 1 := by omega
    by_cases t2 : 16 < b.tok.size
    · have t2z : (16 : Int) < (b.tok.size : Int) := by omega
      have HR := Lib.hid (show m = false by rw [HMAY.out, HHD.out, decide_eq_false (show ¬ b.tok.size ≤ 16 by omega)]; simp)
      clear t1 t2
      go_enter Try.func34, Try.ntmps34
      go_wp2
      go_ret
      exact ⟨by rw [HR.out]; rfl, bl_alloc _ (bl_refl _)⟩
    have t2z : ¬ (16 : Int) < (b.tok.size : Int) := by omega
    by_cases t3 : 24 < b.ws.length
    · have t3z : (24 : Int) < (b.ws.length : Int) := by omega
      have HR := Lib.hid (show m = false by rw [HMAY.out, HHD.out, decide_eq_false (show ¬ b.ws.length ≤ 24 by omega)]; simp)
      clear t1 t2 t3
      go_enter Try.func34, Try.ntmps34
      go_wp2
      go_ret
      exact ⟨by rw [HR.out]; rfl, bl_alloc _ (bl_refl _)⟩
    have t3z : ¬ (24 : Int) < (b.ws.length : Int) := by omega
    by_cases t4 : 0 < b.ws.length
    · have t4z : (0 : Int) < (b.ws.length : Int) := by omega
      have HR := Lib.hid (show m = false by rw [HMAY.out, HHD.out, HK.out, decide_eq_true t4]; simp)
      clear t1 t2 t3 t4
      go_enter Try.func34, Try.ntmps34
      go_wp2
      go_ret
      exact ⟨by rw [HR.out]; rfl, bl_alloc _ (bl_refl _)⟩
    have t4z : ¬ (0 : Int) < (b.ws.length : Int) := by omega
    have HD := Lib.hid (show b.head = true by rw [HHD.out, HK.out, decide_eq_true (show 1 ≤ b.tok.size by omega), decide_eq_true (show b.tok.size ≤ 16 by omega), decide_eq_true (show b.ws.length ≤ 24 by omega), decide_eq_false t4]; rfl)
    clear t1 t2 t3 t4
    obtain ⟨W, hW, K1, HW, hs⟩ := boxes1 w #[.int .i64 b.kind, .string b.tok, .slice A b.ws.length c] 50
    have HC := Lib.hid (Kd.C_below HC0.out HW)
    have r1 := blk_cells K1
    have HWB := Lib.hid HW
    have HSZ := Lib.hid hs
    have HWW := Lib.hid hW
    have B0 := bl_refl W
    clear hW K1 HW hs
    go_enter Try.func34, Try.ntmps34
    go_wp2_with fail
    rw [HWW.out]
    go_loopg [4] b.ws.length (fun gg s4 wr => ∃ p : Nat, b.ws.length - p ≤ gg ∧ (p ≤ b.ws.length) ∧ s4 = .int .i64 ((p + 1 : Nat) : Int) ∧ Hid (Below W.heap.size W wr) ∧ Hid (∀ j, j < p → j + 1 < b.ws.length → bl b.ws[j]!.key b.ws[j + 1]!.key = true))
    case atStart => exact ⟨0, by omega, Nat.zero_le _, rfl, bl_refl _, fun j hj => absurd hj (Nat.not_lt_zero _)⟩
    case round =>
      obtain ⟨p, hgg, hpl, rfl, HB, HN⟩ := hrel
      have Bw : Below W.heap.size W wr := HB.out
      have Br := bl_refl wr
      have hp0 : (0 : Int) ≤ (p : Int) := by omega
      by_cases hlt : p + 1 < b.ws.length
      · exfalso; omega
      · have hz1 : ¬ (p : Int) + 1 < (b.ws.length : Int) := by omega
        have HLT := Lib.hid hlt
        have HCF := Lib.hid (fun W' h => containsFunc101 A c b.ws 100 #[] Wr.odd enters100 W' h (pred100 W'))
        have HR := Lib.hid (show m = !(b.ws.any Wr.odd) by
          rw [HMAY.out, HD.out, (risesB_iff b.ws).2 (fun i hi => HN.out i (by have := HLT.out; omega) hi)]; rfl)
        clear hlt
        cases ho : b.ws.any Wr.odd with
        | true =>
          rw [ho] at HCF HR
          clear ho
          go_wp2_with fail
          refine (HCF.out wr (Kd.C_below HC.out HB.out)).mono ?_
          rintro e w2 ⟨rfl, hb⟩
          have HB2 := Lib.hid (bl_trans HB.out hb)
          clear hb
          go_wp2
          go_ret
          exact ⟨by rw [HR.out]; rfl, bl_trans HWB.out HB2.out⟩
        | false =>
          rw [ho] at HCF HR
          clear ho
          go_wp2_with fail
          refine (HCF.out wr (Kd.C_below HC.out HB.out)).mono ?_
          rintro e w2 ⟨rfl, hb⟩
          have HB2 := Lib.hid (bl_trans HB.out hb)
          clear hb
          go_wp2
          go_ret
          exact ⟨by rw [HR.out]; rfl, bl_trans HWB.out HB2.out⟩
end Go.Proofs.Ytkcebmamohimoaa
