/- The reference's sessions: at, put, renewed. -/
import Derived.Test.YtkcebmamohimoaaS4
namespace Go.Proofs.Ytkcebmamohimoaa
open Go.RowKit Go.Proofs.YtkcebmamohimoaaW.PrintWords
set_option linter.unusedVariables false
set_option linter.unusedSimpArgs false
attribute [local go_sem] bl_refl bl_alloc bl_drew bl_drewN
set_option maxHeartbeats 8000000 in
set_option maxRecDepth 100000 in
theorem at110 (e : Int) (A1 : Option Addr) (c1 : Nat) (L : List Ses) (u2 : Value) (h1 : u2.oneCell' = true) (n t id : Int) (w : World) (h : Kd.C kSes w A1 L.length L) :
    Calls Try.prog 110 #[.agg #[.int .i64 e, .slice A1 L.length c1, u2, .int .i64 n, .int .u64 t], .int .i64 id] w fun e w' => e = .returned (.int .i64 (fidx (fun x => x.id == id) L)) ∧ Below w.heap.size w w' := by
  have hm : L.length ≤ 9223372036854775807 := h.2.1
  obtain ⟨W, hW, K1, HW, hs⟩ := boxes1 w #[.int .i64 e, .slice A1 L.length c1, u2, .int .i64 n, .int .u64 t] 26
  have HC := Lib.hid (Kd.C_below h HW)
  have r1 := blk_cells K1
  have HWW := Lib.hid hW
  have HWB := Lib.hid HW
  clear h hW HW K1 hs
  go_enter Try.func110, Try.ntmps110
  go_wp2_with fail
  rw [HWW.out]
  have B0 : Below W.heap.size W W := bl_refl W
  go_loopg [5] L.length (fun gg s5 wr => ∃ kk : Nat, kk ≤ L.length ∧ L.length - kk ≤ gg ∧ s5 = .int .i64 kk ∧ wr = W ∧ Hid (∀ j, j < kk → (L[j]!.id == id) = false))
  case atStart => exact ⟨0, Nat.zero_le _, by omega, rfl, rfl, fun j hj => absurd hj (Nat.not_lt_zero _)⟩
  case round =>
    obtain ⟨kk, hkk, hg, rfl, rfl, HN⟩ := hrel
    by_cases hlt : kk < L.length
    · have hltz : (kk : Int) < (L.length : Int) := by omega
      obtain ⟨x, hx⟩ : ∃ x, L[kk]! = x := ⟨_, rfl⟩
      obtain ⟨ad, rfl, x0, x1, x2, x3, x4, x5⟩ := Ses.at HC.out kk hlt
      rw [hx] at x0
      have y0 := cell_rule x0
      clear x0 x1 x2 x3 x4 x5
      by_cases hq : x.id = id
      · have hq1 : (x.id == id) = true := by simpa using hq
        have HQ := Lib.hid (show (L[kk]!.id == id) = true by rw [hx]; exact hq1)
        clear hx
        go_wp2
        go_ret
        exact ⟨by rw [fidx_hit _ L kk hlt HQ.out HN.out]; rfl, HWB.out⟩
      · have hq1 : (x.id == id) = false := by simpa using hq
        have HQ := Lib.hid (show (L[kk]!.id == id) = false by rw [hx]; exact hq1)
        clear hx
        go_wp2
        go_roundg (L.length - (kk + 1))
        case measure => omega
        case rel =>
          refine ⟨kk + 1, by omega, by omega, by go_num, rfl, fun j hj => ?_⟩
          by_cases e : j = kk
          · subst e; exact HQ.out
          · exact HN.out j (by omega)
    · have hltz : ¬ (kk : Int) < (L.length : Int) := by omega
      have he : kk = L.length := by omega
      go_wp2
      go_ret
      exact ⟨by rw [fidx_miss _ L (he ▸ HN.out)]; rfl, HWB.out⟩
theorem ses_store {e base g m c : Nat} {ok : Nat → Prop} {W : World} {L : List Ses} (h : Kd.R kSes e W base ok (.slice (some ⟨g, 0, none⟩) m c) L) (k : Nat) (hk : k < L.length) (x : Ses) :
    Kd.R kSes e ((((((W.setCell ⟨g, k * 6, none⟩ (.int .i64 x.id)).setCell ⟨g, k * 6 + 1, none⟩ (.int .i64 x.seq)).setCell ⟨g, k * 6 + 2, none⟩ (.bool x.busy)).setCell ⟨g, k * 6 + 3, none⟩ (.string x.last)).setCell ⟨g, k * 6 + 4, none⟩ (.int .i64 x.txn)).setCell ⟨g, k * 6 + 5, none⟩ (.int .i64 x.conn)) base ok (.slice (some ⟨g, 0, none⟩) m c) (L.set k x) := by
  obtain ⟨y, hy⟩ : ∃ y, L[k]! = y := ⟨_, rfl⟩
  have p0 := flat_put1 h k hk 0 (by omega) (.int .i64 x.id) { y with id := x.id } (by rw [hy]; rfl)
  rw [Nat.add_zero] at p0
  have p := flat_putm (flat_putm (flat_putm (flat_putm (flat_putm p0 hk 1 (by omega) (.int .i64 x.seq) { y with id := x.id, seq := x.seq } rfl) hk 2 (by omega) (.bool x.busy) { y with id := x.id, seq := x.seq, busy := x.busy } rfl) hk 3 (by omega) (.string x.last) { y with id := x.id, seq := x.seq, busy := x.busy, last := x.last } rfl) hk 4 (by omega) (.int .i64 x.txn) { y with id := x.id, seq := x.seq, busy := x.busy, last := x.last, txn := x.txn } rfl) hk 5 (by omega) (.int .i64 x.conn) x rfl
  exact p.1
set_option maxHeartbeats 8000000 in
set_option maxRecDepth 100000 in
theorem put86 (ok : Nat → Prop) (v : Value) (s : SS) (x : Ses) (w : World) (h : IsSS ok w v s) (k : Nat) (hi : fidx (fun y => y.id == x.id) s.L = (k : Int)) (hsm : s.L.length ≤ 1000) :
    Calls Try.prog 86 #[v, x.val] w fun e w' => ∃ v', e = .returned v' ∧ IsSS (fun k => (ok k ∧ k < w.heap.size) ∨ w.heap.size ≤ k) w' v' { s with L := s.L.set k x } ∧ Below w.heap.size w w' := by
  have hk : k < s.L.length := by have := fidx_lt (fun y : Ses => y.id == x.id) s.L; omega
  obtain ⟨A1, c1, A2, c2, rfl, h1, l1, h2, l2⟩ := h
  have HC1 := Lib.hid h1
  have HC2 := Lib.hid h2
  have HL1 := Lib.hid l1
  have HL2 := Lib.hid l2
  have ha := at110 s.epoch A1 c1 s.L (.slice A2 s.H.length c2) rfl s.next s.now x.id
  rw [hi] at ha
  have HA := Lib.hid ha
  obtain ⟨W, hW, K1, K2, K3, HW, hs⟩ := boxes3 w #[.int .i64 s.epoch, .slice A1 s.L.length c1, .slice A2 s.H.length c2, .int .i64 s.next, .int .u64 s.now] 26 #[.int .i64 x.id, .int .i64 x.seq, .bool x.busy, .string x.last, .int .i64 x.txn, .int .i64 x.conn] 78 #[.int .i64 0, .slice none 0 0, .slice none 0 0, .int .i64 0, .int .u64 0] 26
  have HCW := Lib.hid (Kd.C_below (HC1.out.self) HW)
  have r1 := blk_cells K1
  have z1 := blk_frz K1
  have r2 := blk_cells K2
  have r3 := blk_cells K3
  have z3 := blk_frz K3
  have HWW := Lib.hid hW
  have HWB := Lib.hid HW
  have HS := Lib.hid hs
  have n12 : w.heap.size ≠ w.heap.size + 1 := by omega
  have n13 : w.heap.size ≠ w.heap.size + 2 := by omega
  have kz0 : (0 : Int) ≤ (k : Int) := by omega
  have kz1 : (k : Int) < (s.L.length : Int) := by omega
  clear hW HW K1 K2 K3 hs h1 h2 l1 l2 ha hi
  show Calls Try.prog 86 #[_, .agg #[.int .i64 x.id, .int .i64 x.seq, .bool x.busy, .string x.last, .int .i64 x.txn, .int .i64 x.conn]] _ _
  go_enter Try.func86, Try.ntmps86
  have B0 : Below W.heap.size W W := bl_refl W
  go_wp2_with fail
  rw [HWW.out]
  refine (HA.out W HCW.out).mono ?_
  rintro e w1 ⟨rfl, hb⟩
  have B1 : Below W.heap.size W w1 := hb
  clear hb B0
  go_wp2_with ((with_reducible refine gate_dst (N := 10) rfl ?_); refine Stop.go ?_)
  refine ⟨lit0 kSes (w0 := W) W.heap.size 78 rfl (by go_simp) B1 B1.size ?_⟩
  rintro g w2 hR2 rfl hB2 _
  have B2 : Below W.heap.size W w2 := hB2
  have HR2 := Lib.hid hR2
  clear hB2 hR2
  go_wp2_with ((with_reducible refine gate_dst (N := 13) rfl ?_); refine Stop.go ?_)
  refine ⟨flat_app0 (f := Ses.cells) (w0 := W) W.heap.size rfl (.tmp 10) (.tmp 12) 22 78 _ 56 rfl Try.underlying22 info78 rfl (by decide) (by omega) _ ([] : List Ses) s.L A1 s.L.length c1 rfl rfl HR2.out (Kd.C_below HCW.out B2) B2 B2.size (by simp; omega) ?_⟩
  intro v3 w3 hR3 hb3 hk3_ hg3_
  rw [List.nil_append] at hR3
  obtain ⟨b, cap, rfl, hge, hlt_, _⟩ := Kd.R_form hR3 (by omega)
  have B3 : Below W.heap.size W w3 := hb3
  have hs1 := HS.out
  have nb1 : w.heap.size ≠ b := by omega
  have nb2 : w.heap.size + 1 ≠ b := by omega
  have nb3 : w.heap.size + 2 ≠ b := by omega
  have nb1' : b ≠ w.heap.size := by omega
  have nb2' : b ≠ w.heap.size + 1 := by omega
  have nb3' : b ≠ w.heap.size + 2 := by omega
  obtain ⟨hcs, hfs⟩ := flat_own hR3 k hk
  obtain ⟨y, hy⟩ : ∃ y, s.L[k]! = y := ⟨_, rfl⟩
  rw [hy] at hcs
  have q0 := hcs 0 _ rfl
  have q1 := hcs 1 _ rfl
  have q2 := hcs 2 _ rfl
  have q3 := hcs 3 _ rfl
  have q4 := hcs 4 _ rfl
  have q5 := hcs 5 _ rfl
  have f0 := hfs 0
  have f1 := hfs 1
  have f2 := hfs 2
  have f3 := hfs 3
  have f4 := hfs 4
  have f5 := hfs 5
  simp only [Nat.add_zero] at q0 f0
  have HR3 := Lib.hid hR3
  have HGE := Lib.hid hge
  clear hcs hfs hy hR3 hb3 hge hs1 B2 B1 hk3_ hg3_ hlt_
  go_wp2
  have hs1 := HS.out
  have hge1 := HGE.out
  have HB3 : Below w.heap.size w w3 := bl_trans HWB.out B3
  refine bodyPost_ret (v := .agg #[.int .i64 s.epoch, .slice (some ⟨b, 0, none⟩) s.L.length cap, .slice A2 s.H.length c2, .int .i64 s.next, .int .u64 s.now]) (by simp [results, Try.results86, go_sem, r3, z3, B3]) rfl ⟨_, rfl, ⟨some ⟨b, 0, none⟩, cap, A2, c2, by simp, ?_, ?_, ?_, HL2.out⟩, ?_⟩
  · refine (R_ft (e := 78) (base := W.heap.size) (ok := fun _ => True) (m := s.L.length) (c := cap) ?_).mono (fun k hk _ => .inr (by omega))
    iterate 5 refine R_farB ?_ (by omega) _ _
    exact ses_store (R_farB HR3.out (by omega) _ _) k hk x
  · have := (Kd.R_reads' HR3.out).2.1
    simpa using this
  · have hf : Ft (fun k => ok k ∧ k < w.heap.size) w3 (fun W => Kd.C kAlm W A2 s.H.length s.H) := HC2.out.cut.belowB HB3 (fun k hk _ => hk.2)
    refine Ft.mono (ok := fun k => ok k ∧ k < w.heap.size) ?_ (fun k hk _ => .inl hk)
    repeat refine Ft.set ?_ (fun h => by have := h.2; omega)
    exact hf
  · repeat refine bl_set ?_ (by omega)
    exact HB3
set_option maxHeartbeats 8000000 in
set_option maxRecDepth 100000 in
theorem renewed85 (ok : Nat → Prop) (v : Value) (s : SS) (id : Int) (w : World) (h : IsSS ok w v s) (hn : 0 ≤ s.now ∧ s.now < 18446744073709551616) (hsm : s.H.length ≤ 1000) :
    Calls Try.prog 85 #[v, .int .i64 id] w fun e w' => ∃ v', e = .returned v' ∧ IsSS (fun k => (ok k ∧ k < w.heap.size) ∨ w.heap.size ≤ k) w' v' (s.renew id) ∧ Below w.heap.size w w' := by
  obtain ⟨A1, c1, A2, c2, rfl, h1, l1, h2, l2⟩ := h
  have HC1 := Lib.hid h1
  have HC2 := Lib.hid h2
  have HL1 := Lib.hid l1
  have HL2 := Lib.hid l2
  obtain ⟨W, hW, K1, K2, HW, hs⟩ := boxes2 w #[.int .i64 s.epoch, .slice A1 s.L.length c1, .slice A2 s.H.length c2, .int .i64 s.next, .int .u64 s.now] 26 #[.int .i64 0, .slice none 0 0, .slice none 0 0, .int .i64 0, .int .u64 0] 26
  have HCW := Lib.hid (Kd.C_below (HC2.out.self) HW)
  have r1 := blk_cells K1
  have z1 := blk_frz K1
  have r2 := blk_cells K2
  have z2 := blk_frz K2
  have HWW := Lib.hid hW
  have HWB := Lib.hid HW
  have HS := Lib.hid hs
  have HN := Lib.hid hn
  have HSM := Lib.hid hsm
  have n12 : w.heap.size ≠ w.heap.size + 1 := by omega
  clear hW HW K1 K2 hs h1 h2 l1 l2
  have B0 : Below W.heap.size W W := bl_refl W
  rcases Int.lt_or_le 18446744073709551615 (s.now + 20) with hov | hov
  · rw [show s.renew id = { s with H := aPut (aDrop s.H id) ⟨18446744073709551615, id⟩ } from by unfold SS.renew due; rw [if_neg (by omega)]]
    have hwr : IntKind.u64.wrap (s.now + 20) = s.now + 20 - 18446744073709551616 := by rw [IntKind.wrap_u64]; omega
    have hlt : s.now + 20 - 18446744073709551616 < s.now := by omega
    clear hn hsm hov
    go_enter Try.func85, Try.ntmps85
    go_wp2_with fail
    rw [HWW.out]
    refine (drop114 A2 c2 s.H id W HCW.out HL2.out (by have := HSM.out; omega)).mono ?_
    rintro e w1 ⟨v1, rfl, hR1, hb⟩
    obtain ⟨B4, d4, rfl⟩ := Kd.R_slice hR1
    have B1 : Below W.heap.size W w1 := hb
    have hrd := Kd.R_reads' hR1
    have HR1 := Lib.hid hrd
    clear hb hR1 hrd
    go_wp2_with fail
    refine (put151 B4 d4 (aDrop s.H id) ⟨18446744073709551615, id⟩ w1 HR1.out.2.2 HR1.out.2.1 (by have := HSM.out; have := aDrop_length s.H id; omega)).mono ?_
    rintro e w2 ⟨v2, rfl, hR2, hb⟩
    obtain ⟨B5, d5, rfl⟩ := Kd.R_slice hR2
    have B2 : Below W.heap.size W w2 := bl_trans B1 hb
    have HR2 := Lib.hid hR2
    clear hb hR2
    go_wp2
    have hs1 := HS.out
    have HB2 : Below w.heap.size w w2 := bl_trans HWB.out B2
    refine bodyPost_ret (v := .agg #[.int .i64 s.epoch, .slice A1 s.L.length c1, .slice B5 (aPut (aDrop s.H id) ⟨18446744073709551615, id⟩).length d5, .int .i64 s.next, .int .u64 s.now]) (by simp [results, Try.results85, go_sem, r2, z2, B2]) rfl ⟨_, rfl, ⟨A1, c1, B5, d5, rfl, ?_, HL1.out, ?_, (Kd.R_reads' HR2.out).2.1⟩, ?_⟩
    · have hf := HC1.out.cut.belowB HB2 (fun k hk _ => hk.2)
      refine Ft.mono (ok := fun k => ok k ∧ k < w.heap.size) ?_ (fun k hk _ => .inl hk)
      repeat refine Ft.set ?_ (fun h => by have := h.2; omega)
      exact hf
    · refine (R_ft (e := 175) (base := w1.heap.size) (ok := fun _ => True) (m := (aPut (aDrop s.H id) ⟨18446744073709551615, id⟩).length) (c := d5) ?_).mono (fun k hk _ => .inr (by have := B1.size; omega))
      have hs2 := B1.size
      repeat refine R_farB ?_ (by omega) _ _
      exact HR2.out
    · repeat refine bl_set ?_ (by omega)
      exact HB2
  · rw [show s.renew id = { s with H := aPut (aDrop s.H id) ⟨s.now + 20, id⟩ } from by unfold SS.renew due; rw [if_pos (by omega)]]
    have hwr : IntKind.u64.wrap (s.now + 20) = s.now + 20 := by rw [IntKind.wrap_u64]; omega
    have hlt : ¬ s.now + 20 < s.now := by omega
    clear hn hsm hov
    go_enter Try.func85, Try.ntmps85
    go_wp2_with fail
    rw [HWW.out]
    refine (drop114 A2 c2 s.H id W HCW.out HL2.out (by have := HSM.out; omega)).mono ?_
    rintro e w1 ⟨v1, rfl, hR1, hb⟩
    obtain ⟨B4, d4, rfl⟩ := Kd.R_slice hR1
    have B1 : Below W.heap.size W w1 := hb
    have hrd := Kd.R_reads' hR1
    have HR1 := Lib.hid hrd
    clear hb hR1 hrd
    go_wp2_with fail
    refine (put151 B4 d4 (aDrop s.H id) ⟨s.now + 20, id⟩ w1 HR1.out.2.2 HR1.out.2.1 (by have := HSM.out; have := aDrop_length s.H id; omega)).mono ?_
    rintro e w2 ⟨v2, rfl, hR2, hb⟩
    obtain ⟨B5, d5, rfl⟩ := Kd.R_slice hR2
    have B2 : Below W.heap.size W w2 := bl_trans B1 hb
    have HR2 := Lib.hid hR2
    clear hb hR2
    go_wp2
    have hs1 := HS.out
    have HB2 : Below w.heap.size w w2 := bl_trans HWB.out B2
    refine bodyPost_ret (v := .agg #[.int .i64 s.epoch, .slice A1 s.L.length c1, .slice B5 (aPut (aDrop s.H id) ⟨s.now + 20, id⟩).length d5, .int .i64 s.next, .int .u64 s.now]) (by simp [results, Try.results85, go_sem, r2, z2, B2]) rfl ⟨_, rfl, ⟨A1, c1, B5, d5, rfl, ?_, HL1.out, ?_, (Kd.R_reads' HR2.out).2.1⟩, ?_⟩
    · have hf := HC1.out.cut.belowB HB2 (fun k hk _ => hk.2)
      refine Ft.mono (ok := fun k => ok k ∧ k < w.heap.size) ?_ (fun k hk _ => .inl hk)
      repeat refine Ft.set ?_ (fun h => by have := h.2; omega)
      exact hf
    · refine (R_ft (e := 175) (base := w1.heap.size) (ok := fun _ => True) (m := (aPut (aDrop s.H id) ⟨s.now + 20, id⟩).length) (c := d5) ?_).mono (fun k hk _ => .inr (by have := B1.size; omega))
      have hs2 := B1.size
      repeat refine R_farB ?_ (by omega) _ _
      exact HR2.out
    · repeat refine bl_set ?_ (by omega)
      exact HB2
end Go.Proofs.Ytkcebmamohimoaa
