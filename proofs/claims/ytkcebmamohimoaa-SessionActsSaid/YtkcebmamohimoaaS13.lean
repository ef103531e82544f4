/- Sessions: all but one, the reference's. -/
import Derived.Test.YtkcebmamohimoaaS12
namespace Go.Proofs.Ytkcebmamohimoaa
open Go.RowKit Go.Proofs.YtkcebmamohimoaaW.PrintWords
set_option linter.unusedVariables false
set_option linter.unusedSimpArgs false
attribute [local go_sem] bl_refl bl_alloc bl_drew bl_drewN
def SS.but (s : SS) (id : Int) : SS := { s with L := s.L.filter (fun x => x.id != id) }
theorem filter_take {α : Type} [Inhabited α] (p : α → Bool) (L : List α) (k : Nat) (hk : k < L.length) : (L.take (k + 1)).filter p = (L.take k).filter p ++ (if p L[k]! then [L[k]!] else []) := by
  rw [List.take_succ_eq_append_getElem hk, List.filter_append, getElem!_pos L k hk]
  by_cases h : p L[k]
  · rw [if_pos h, List.filter_cons_of_pos h]; rfl
  · rw [if_neg h, List.filter_cons_of_neg h]; rfl
theorem filter_take_le {α : Type} (p : α → Bool) (L : List α) (k : Nat) : ((L.take k).filter p).length ≤ L.length := Nat.le_trans (List.length_filter_le _ _) (by rw [List.length_take]; omega)
set_option maxHeartbeats 8000000 in
set_option maxRecDepth 100000 in
theorem less113 (ok : Nat → Prop) (v : Value) (s : SS) (id : Int) (w : World) (h : IsSS ok w v s) (hsm : s.L.length ≤ 1000) :
    Calls Try.prog 113 #[v, .int .i64 id] w fun e w' => ∃ v', e = .returned v' ∧ IsSS (fun k => (ok k ∧ k < w.heap.size) ∨ w.heap.size ≤ k) w' v' (s.but id) ∧ Below w.heap.size w w' := by
  obtain ⟨A1, c1, A2, c2, rfl, h1, l1, h2, l2⟩ := h
  have HC2 := Lib.hid h2
  have HL2 := Lib.hid l2
  obtain ⟨W, hW, K1, K2, HW, hs⟩ := boxes2 w #[.int .i64 s.epoch, .slice A1 s.L.length c1, .slice A2 s.H.length c2, .int .i64 s.next, .int .u64 s.now] 26 #[.int .i64 0, .slice none 0 0, .slice none 0 0, .int .i64 0, .int .u64 0] 26
  have HC := Lib.hid (Kd.C_below h1.self HW)
  have r1 := blk_cells K1
  have z1 := blk_frz K1
  have r2 := blk_cells K2
  have z2 := blk_frz K2
  have HWW := Lib.hid hW
  have HWB := Lib.hid HW
  have HS := Lib.hid hs
  have HSM := Lib.hid hsm
  have n12 : w.heap.size ≠ w.heap.size + 1 := by omega
  have hm : s.L.length ≤ 9223372036854775807 := h1.self.2.1
  clear h1 h2 l1 l2 hW HW K1 K2 hs hsm
  go_enter Try.func113, Try.ntmps113
  go_wp2_with fail
  rw [HWW.out]
  go_loopg [5, 6] s.L.length (fun gg s5 s6 wr => ∃ (kk : Nat) (B : Option Addr) (d : Nat) (M : List Ses), kk ≤ s.L.length ∧ s.L.length - kk ≤ gg ∧ s5 = .slice B M.length d ∧ s6 = .int .i64 kk ∧ Hid (Kd.R kSes 78 wr W.heap.size (fun _ => True) (.slice B M.length d) M) ∧ Hid (M = (s.L.take kk).filter (fun x => x.id != id)) ∧ Hid (Below W.heap.size W wr))
  case atStart => exact ⟨0, none, 0, [], Nat.zero_le _, by omega, rfl, rfl, Kd.R_nil .., rfl, Below.refl _ _⟩
  case round =>
    obtain ⟨kk, B, d, M, hkk, hg, rfl, rfl, HR, HM, HB⟩ := hrel
    have Br : Below W.heap.size W wr := HB.out
    by_cases hlt : kk < s.L.length
    · have hltz : (kk : Int) < (s.L.length : Int) := by omega
      have hk0 : (0 : Int) ≤ (kk : Int) := by omega
      obtain ⟨x, hx⟩ : ∃ x, s.L[kk]! = x := ⟨_, rfl⟩
      obtain ⟨ad, rfl, x0, x1, x2, x3, x4, x5⟩ := Ses.at HC.out kk hlt
      rw [hx] at x0 x1 x2 x3 x4 x5
      have y0 := cell_rule x0
      have y1 := cell_rule x1
      have y2 := cell_rule x2
      have y3 := cell_rule x3
      have y4 := cell_rule x4
      have y5 := cell_rule x5
      have HX := Lib.hid hx
      clear hx x0 x1 x2 x3 x4 x5
      have hft := Lib.hid (filter_take (fun x : Ses => x.id != id) s.L kk hlt)
      by_cases hq : x.id = id
      · have hq1 : (x.id == id) = true := by simpa using hq
        have hq2 : (x.id != id) = false := by simpa using hq
        have HQ := Lib.hid hq2
        clear hq
        go_wp2
        go_roundg (s.L.length - (kk + 1))
        case measure => omega
        case rel =>
          exact ⟨kk + 1, B, d, M, by omega, by omega, rfl, by go_num, HR.out, (show M = _ by rw [hft.out, HX.out]; simp only [HQ.out]; rw [HM.out]; simp), HB.out⟩
      · have hq1 : (x.id == id) = false := by simpa using hq
        have hq2 : (x.id != id) = true := by simpa using hq
        have HQ := Lib.hid hq2
        have hlen : M.length ≤ 1000 := by rw [HM.out]; have := filter_take_le (fun x : Ses => x.id != id) s.L kk; have := HSM.out; omega
        have HLN := Lib.hid hlen
        clear hq hlen
        go_wp2_with ((with_reducible refine gate_dst (N := 29) rfl ?_); refine Stop.go ?_)
        refine ⟨flat_app (f := Ses.cells) (w0 := W) W.heap.size rfl (.tmp 22) (.tmp 28) 22 78 _ 56 rfl Try.underlying22 info78 rfl (by decide) (by omega) _ M [x] (some ⟨wr.heap.size, 0, none⟩) 1 1 rfl rfl (by omega) (Kd.R_alloc HR.out _) (C_one (f := Ses.cells) x (blk_new wr _)) (bl_alloc _ Br) (by have := Br.size; simp; omega) (by have := HLN.out; omega) ?_⟩
        intro g cap w2 hR2 hb2 hge2_ hat2_ hg2_ hlt2_
        have HR2 := Lib.hid hR2
        have HB2 := Lib.hid hb2
        clear hR2 hb2 hge2_ hat2_ hg2_ hlt2_ Br
        go_wp2
        go_roundg (s.L.length - (kk + 1))
        case measure => omega
        case rel =>
          refine ⟨kk + 1, some ⟨g, 0, none⟩, cap, M ++ [x], by omega, by omega, by simp, by go_num, ?_, (show M ++ [x] = _ by rw [hft.out, HX.out]; simp only [HQ.out]; rw [HM.out]; simp), HB2.out⟩
          show Kd.R kSes 78 w2 W.heap.size (fun _ => True) (.slice (some ⟨g, 0, none⟩) (M ++ [x]).length cap) (M ++ [x])
          rw [List.length_append]
          exact HR2.out
    · have hltz : ¬ (kk : Int) < (s.L.length : Int) := by omega
      have he : kk = s.L.length := by omega
      have hM : M = s.L.filter (fun x => x.id != id) := by rw [HM.out, he, List.take_length]
      have HMM := Lib.hid hM
      have hrd := Lib.hid (Kd.R_reads' HR.out).2.1
      clear hM he
      go_wp2
      have hs1 := HS.out
      refine bodyPost_ret (v := .agg #[.int .i64 s.epoch, .slice B M.length d, .slice A2 s.H.length c2, .int .i64 s.next, .int .u64 s.now]) (by simp [results, Try.results113, go_sem, r2, z2, Br]) rfl ⟨_, rfl, ⟨B, d, A2, c2, by simp [SS.but, HMM.out], ?_, ?_, ?_, HL2.out⟩, ?_⟩
      · rw [show (s.but id).L = M from HMM.out.symm]
        refine (R_ft (e := 78) (base := W.heap.size) (ok := fun _ => True) (m := M.length) (c := d) ?_).mono (fun k hk _ => .inr (by omega))
        repeat refine R_farB ?_ (by omega) _ _
        exact HR.out
      · rw [show (s.but id).L = M from HMM.out.symm]; exact hrd.out
      · have hf : Ft (fun k => ok k ∧ k < w.heap.size) wr (fun W => Kd.C kAlm W A2 s.H.length s.H) := HC2.out.cut.belowB (bl_trans HWB.out Br) (fun k hk _ => hk.2)
        refine Ft.mono (ok := fun k => ok k ∧ k < w.heap.size) ?_ (fun k hk _ => .inl hk)
        repeat refine Ft.set ?_ (fun h => by have := h.2; omega)
        exact hf
      · repeat refine bl_set ?_ (by omega)
        exact bl_trans HWB.out Br
end Go.Proofs.Ytkcebmamohimoaa
