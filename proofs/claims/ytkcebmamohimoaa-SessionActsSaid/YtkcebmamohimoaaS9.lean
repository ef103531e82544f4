/- Sessions: New, Open. -/
import Derived.Test.YtkcebmamohimoaaS8
namespace Go.Proofs.Ytkcebmamohimoaa
open Go.RowKit Go.Proofs.YtkcebmamohimoaaW.PrintWords
set_option linter.unusedVariables false
set_option linter.unusedSimpArgs false
attribute [local go_sem] bl_refl bl_alloc bl_drew bl_drewN
def SS.fresh (epoch : Int) : SS := ⟨epoch, [], [], 1, 0⟩
set_option maxHeartbeats 8000000 in
set_option maxRecDepth 100000 in
theorem new54 (e : Int) (w : World) : Calls Try.prog 54 #[.int .i64 e] w fun r w' => ∃ v, r = .returned v ∧ IsSS (fun _ => False) w' v (SS.fresh e) ∧ Below w.heap.size w w' := by
  obtain ⟨W, hW, K1, HW, hs⟩ := boxes1 w #[.int .i64 0, .slice none 0 0, .slice none 0 0, .int .i64 0, .int .u64 0] 26
  have r1 := blk_cells K1
  have z1 := blk_frz K1
  have HWW := Lib.hid hW
  have HWB := Lib.hid HW
  have B0 : Below W.heap.size W W := bl_refl W
  clear hW HW K1 hs
  go_enter Try.func54, Try.ntmps54
  go_wp2
  refine bodyPost_ret (v := .agg #[.int .i64 e, .slice none 0 0, .slice none 0 0, .int .i64 1, .int .u64 0]) (by simp [results, Try.results54, go_sem]) rfl ⟨_, rfl, ⟨none, 0, none, 0, rfl, fun W' _ => ⟨rfl, by simp [SS.fresh], fun h => absurd h (by simp [SS.fresh])⟩, Nat.le_refl _, fun W' _ => ⟨rfl, by simp [SS.fresh], fun h => absurd h (by simp [SS.fresh])⟩, Nat.le_refl _⟩, ?_⟩
  repeat refine bl_set ?_ (by omega)
  exact (Below.refl _ w).alloc (Nat.le_refl _) _
def SS.added (s : SS) (conn : Int) : SS := { s with L := s.L ++ [⟨s.next, 0, false, ⟨#[]⟩, 0, conn⟩], next := wrap64 (s.next + 1) }
def SS.openF (s : SS) (conn : Int) : SS × Int × Int := if 6 ≤ s.L.length then (s, 0, 11) else if 1073741824 < s.next then (s, 0, 4) else ((s.added conn).renew s.next, s.next, 0)
set_option maxHeartbeats 8000000 in
set_option maxRecDepth 100000 in
theorem open40 (ok : Nat → Prop) (v : Value) (s : SS) (conn : Int) (w : World) (h : IsSS ok w v s) (hn : 0 ≤ s.now ∧ s.now < 18446744073709551616) (hsm : s.L.length ≤ 1000) (hsm2 : s.H.length ≤ 1000) :
    Calls Try.prog 40 #[v, .int .i64 conn] w fun e w' => ∃ v', e = .returned (.tuple #[v', .int .i64 (s.openF conn).2.1, .int .i64 (s.openF conn).2.2]) ∧ IsSS (fun k => (ok k ∧ k < w.heap.size) ∨ w.heap.size ≤ k) w' v' (s.openF conn).1 ∧ Below w.heap.size w w' := by
  have HS0 := Lib.hid (h.mono (fun k hk hl => ⟨hk, hl⟩) : IsSS (fun k => ok k ∧ k < w.heap.size) w v s)
  obtain ⟨A1, c1, A2, c2, rfl, h1, l1, h2, l2⟩ := h
  obtain ⟨W, hW, K1, K2, HW, hs⟩ := boxes2 w #[.int .i64 s.epoch, .slice A1 s.L.length c1, .slice A2 s.H.length c2, .int .i64 s.next, .int .u64 s.now] 26 #[.int .i64 0, .slice none 0 0, .slice none 0 0, .int .i64 0, .int .u64 0] 26
  have HC := Lib.hid (Kd.C_below h1.self HW)
  have HC2 := Lib.hid h2
  have HL1 := Lib.hid l1
  have HL2 := Lib.hid l2
  have r1 := blk_cells K1
  have z1 := blk_frz K1
  have r2 := blk_cells K2
  have z2 := blk_frz K2
  have HK2 := Lib.hid K2
  have HWW := Lib.hid hW
  have HWB := Lib.hid HW
  have HS := Lib.hid hs
  have HS1 := Lib.hid (HS0.out.below HW)
  have n12 : w.heap.size ≠ w.heap.size + 1 := by omega
  have B0 : Below W.heap.size W W := bl_refl W
  clear h1 h2 l1 l2 hW HW K1 K2 hs
  by_cases h6 : 6 ≤ s.L.length
  · rw [show s.openF conn = (s, 0, 11) from by unfold SS.openF; rw [if_pos h6]]
    have h6z : (6 : Int) ≤ (s.L.length : Int) := by omega
    clear hn hsm hsm2
    go_enter Try.func40, Try.ntmps40
    go_wp2_with fail
    refine bodyPost_ret (v := .tuple #[.agg #[.int .i64 s.epoch, .slice A1 s.L.length c1, .slice A2 s.H.length c2, .int .i64 s.next, .int .u64 s.now], .int .i64 0, .int .i64 11]) (by simp [results, Try.results40, go_sem]) rfl ⟨_, rfl, ?_, ?_⟩
    · exact (HS0.out.below (bl_alloc _ (bl_alloc _ (bl_refl _)))).mono (fun k hk _ => .inl hk)
    · exact bl_alloc _ (bl_alloc _ (bl_refl _))
  have h6z : ¬ (6 : Int) ≤ (s.L.length : Int) := by omega
  by_cases hx : 1073741824 < s.next
  · rw [show s.openF conn = (s, 0, 4) from by unfold SS.openF; rw [if_neg h6, if_pos hx]]
    clear hn hsm hsm2
    go_enter Try.func40, Try.ntmps40
    go_wp2_with fail
    refine bodyPost_ret (v := .tuple #[.agg #[.int .i64 s.epoch, .slice A1 s.L.length c1, .slice A2 s.H.length c2, .int .i64 s.next, .int .u64 s.now], .int .i64 0, .int .i64 4]) (by simp [results, Try.results40, go_sem]) rfl ⟨_, rfl, ?_, ?_⟩
    · exact (HS0.out.below (bl_alloc _ (bl_alloc _ (bl_refl _)))).mono (fun k hk _ => .inl hk)
    · exact bl_alloc _ (bl_alloc _ (bl_refl _))
  rw [show s.openF conn = ((s.added conn).renew s.next, s.next, 0) from by unfold SS.openF; rw [if_neg h6, if_neg hx]]
  have hnn : (0 ≤ (s.added conn).now ∧ (s.added conn).now < 18446744073709551616) ∧ (s.added conn).H.length ≤ 1000 := ⟨hn, hsm2⟩
  have HRN := Lib.hid (fun okk v' W' h' => renewed84 okk v' (s.added conn) s.next W' h' hnn.1 hnn.2)
  obtain ⟨s2, hs2⟩ : ∃ s2, (s.added conn).renew s.next = s2 := ⟨_, rfl⟩
  rw [hs2] at HRN ⊢
  have hwr : IntKind.i64.wrap (s.next + 1) = wrap64 (s.next + 1) := Go.Proofs.YtkcebmamohimoaaW.PrintLast.i64_w _
  have HSM := Lib.hid hsm
  clear hn hsm hsm2 hnn hs2 h6
  go_enter Try.func40, Try.ntmps40
  go_wp2_with fail
  rw [HWW.out]
  refine (clone108 A1 c1 s.L _ HC.out HL1.out (by have := HSM.out; omega)).mono ?_
  rintro e w1 ⟨v1, rfl, hR1, hb⟩
  have B1 : Below W.heap.size W w1 := hb
  have HR1 := Lib.hid hR1
  clear hb hR1
  go_wp2_with ((with_reducible refine gate_dst (N := 28) rfl ?_); refine Stop.go ?_)
  refine ⟨flat_app (f := Ses.cells) (w0 := W) W.heap.size rfl (.tmp 23) (.tmp 27) 22 78 _ 56 rfl Try.underlying22 info78 rfl (by decide) (by omega) v1 s.L [⟨s.next, 0, false, ⟨#[]⟩, 0, conn⟩] (some ⟨w1.heap.size, 0, none⟩) 1 1 rfl rfl (by omega) (Kd.R_alloc HR1.out _) (C_one (f := Ses.cells) ⟨s.next, 0, false, ⟨#[]⟩, 0, conn⟩ (blk_new w1 _)) (bl_alloc _ B1) (by have := B1.size; simp; omega) (by have := HSM.out; omega) ?_⟩
  intro g cap w2 hR2 hb2 hge2 hat2_ hg2_ hlt2_
  have B2 : Below W.heap.size W w2 := hb2
  have HR2 := Lib.hid hR2
  have HGE := Lib.hid hge2
  have hs1 := HS.out
  have ng1 : w.heap.size ≠ g := by omega
  have ng2 : g ≠ w.heap.size := by omega
  clear hR2 hb2 hge2 hat2_ hg2_ hlt2_ B1 hs1
  go_wp2_with fail
  have hs1 := HS.out
  have hge := HGE.out
  have HB2 : Below w.heap.size w w2 := bl_trans HWB.out B2
  have hcap := (Kd.R_reads' HR2.out).2.1
  have HSA : IsSS (fun k => (ok k ∧ k < w.heap.size) ∨ W.heap.size ≤ k) w2 (.agg #[.int .i64 s.epoch, .slice (some ⟨g, 0, none⟩) (s.L.length + 1) cap, .slice A2 s.H.length c2, .int .i64 (wrap64 (s.next + 1)), .int .u64 s.now]) (s.added conn) := by
    refine ⟨some ⟨g, 0, none⟩, cap, A2, c2, by simp [SS.added], ?_, ?_, ?_, HL2.out⟩
    · exact (R_ft HR2.out).mono (fun k hk _ => .inr hk)
    · simpa [SS.added] using hcap
    · exact (HC2.out.cut.belowB HB2 (fun k hk _ => hk.2)).mono (fun k hk _ => .inl hk)
  refine (HRN.out (fun k => (ok k ∧ k < w.heap.size) ∨ W.heap.size ≤ k) _ _ ?_).mono ?_
  · repeat refine IsSS.set ?_ (fun h => by rcases h with h | h <;> omega)
    exact HSA
  rintro e w4 ⟨v4, rfl, hS4, hb4⟩
  have hs3 := B2.size
  have K34 : w4.heap[w.heap.size + 1]? = some (.cells #[.int .i64 0, .slice none 0 0, .slice none 0 0, .int .i64 0, .int .u64 0] 26 (0, 0)) := by
    refine blk_below ?_ hb4
    repeat refine blk_far (p := ⟨w.heap.size, _, none⟩) ?_ (by show w.heap.size + 1 ≠ w.heap.size; omega) _
    exact blk_below HK2.out B2
  have HB4 : Below w.heap.size w w4 := by
    refine Below.trans ?_ (hb4.mono (by simp; omega))
    repeat refine bl_set ?_ (by omega)
    exact HB2
  have r4 := blk_cells K34
  have z4 := blk_frz K34
  have B4 := bl_refl w4
  have HS4 := Lib.hid (hS4.mono (fun k hk _ => hk.elim (fun h => h.1) (fun h => .inr (by simp at h; omega))) : IsSS (fun k => (ok k ∧ k < w.heap.size) ∨ W.heap.size ≤ k) w4 v4 s2)
  obtain ⟨A3, c3, A4, c4, rfl, _, _, _, _⟩ := hS4
  clear hb4 hs3 hs1 K34 r2 z2 B2 HSA hge hcap
  go_wp2
  have hs1 := HS.out
  refine bodyPost_ret (v := .tuple #[.agg #[.int .i64 s2.epoch, .slice A3 s2.L.length c3, .slice A4 s2.H.length c4, .int .i64 s2.next, .int .u64 s2.now], .int .i64 s.next, .int .i64 0]) (by simp [results, Try.results40, go_sem, r4, z4, B4]) rfl ⟨_, rfl, ?_, ?_⟩
  · refine IsSS.mono (ok := fun k => (ok k ∧ k < w.heap.size) ∨ W.heap.size ≤ k) ?_ (fun k hk _ => hk.imp_right (fun h => by omega))
    repeat refine IsSS.set ?_ (fun h => by rcases h with h | h <;> omega)
    exact HS4.out
  · repeat refine bl_set ?_ (by omega)
    exact HB4
end Go.Proofs.Ytkcebmamohimoaa
