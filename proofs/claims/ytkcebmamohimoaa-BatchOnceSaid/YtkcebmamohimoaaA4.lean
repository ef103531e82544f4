/- Alarms: those of one number are dropped. -/
import Derived.Test.YtkcebmamohimoaaA3
namespace Go.Proofs.Ytkcebmamohimoaa
open Go.RowKit Go.Proofs.YtkcebmamohimoaaW.PrintWords
set_option linter.unusedVariables false
set_option linter.unusedSimpArgs false
attribute [local go_sem] bl_refl bl_alloc bl_drew bl_drewN
def aDrop (h : List Alm) (id : Int) : List Alm := (h.filter fun a => a.id != id).foldl aPut []
theorem aUp_length (h : List Alm) (i : Nat) : (aUp h i).length = h.length := by
  induction i using Nat.strongRecOn generalizing h with
  | _ i ih =>
    unfold aUp
    split
    · rfl
    · split
      · rw [ih _ (by omega), aswap_length]
      · rfl
theorem aPut_length (h : List Alm) (a : Alm) : (aPut h a).length = h.length + 1 := by unfold aPut; rw [aUp_length]; simp
theorem foldl_aPut_length (l h : List Alm) : (l.foldl aPut h).length = h.length + l.length := by
  induction l generalizing h with
  | nil => simp
  | cons x t ih => rw [List.foldl_cons, ih, aPut_length, List.length_cons]; omega
theorem aDrop_length (h : List Alm) (id : Int) : (aDrop h id).length ≤ h.length := by
  unfold aDrop
  rw [foldl_aPut_length]
  have := List.length_filter_le (fun a : Alm => a.id != id) h
  simpa using this
theorem aDrop_take (L : List Alm) (k : Nat) (id : Int) (hk : k < L.length) (hne : ¬ L[k]!.id = id) : aDrop (L.take (k + 1)) id = aPut (aDrop (L.take k) id) L[k]! := by
  unfold aDrop
  rw [List.take_succ_eq_append_getElem hk, List.filter_append, List.foldl_append, getElem!_pos L k hk]
  rw [getElem!_pos L k hk] at hne
  simp [List.filter_cons, hne]
theorem aDrop_skip (L : List Alm) (k : Nat) (id : Int) (hk : k < L.length) (he : L[k]!.id = id) : aDrop (L.take (k + 1)) id = aDrop (L.take k) id := by
  unfold aDrop
  rw [List.take_succ_eq_append_getElem hk, List.filter_append, List.foldl_append]
  rw [getElem!_pos L k hk] at he
  simp [List.filter_cons, he]
set_option maxHeartbeats 8000000 in
set_option maxRecDepth 100000 in
theorem drop112 (A : Option Addr) (c : Nat) (L : List Alm) (id : Int) (w : World) (h : Kd.C kAlm w A L.length L) (hc : L.length ≤ c) (hsm : L.length ≤ 50000) :
    Calls Try.prog 112 #[.slice A L.length c, .int .i64 id] w fun e w' => ∃ v, e = .returned v ∧ Kd.R kAlm 175 w' w.heap.size (fun _ => True) v (aDrop L id) ∧ Below w.heap.size w w' := by
  have HC := Lib.hid h
  clear h hc
  go_enter Try.func112, Try.ntmps112
  go_wp2
  go_loopg [5, 10] L.length (fun gg s5 s10 wr => ∃ (kk : Nat) (B : Option Addr) (d : Nat) (M : List Alm), kk ≤ L.length ∧ L.length - kk ≤ gg ∧ s5 = .slice B M.length d ∧ s10 = .int .i64 kk ∧ Hid (Kd.R kAlm 175 wr w.heap.size (fun _ => True) (.slice B M.length d) M) ∧ Hid (M = aDrop (L.take kk) id) ∧ Hid (Below w.heap.size w wr))
  case atStart => exact ⟨0, none, 0, [], Nat.zero_le _, by omega, rfl, rfl, Kd.R_nil .., rfl, Below.refl _ _⟩
  case round =>
    obtain ⟨kk, B, d, M, hkk, hg, rfl, rfl, HR, HM, HB⟩ := hrel
    by_cases hlt : kk < L.length
    · have hltz : (kk : Int) < (L.length : Int) := by omega
      obtain ⟨x, hx⟩ : ∃ x, L[kk]! = x := ⟨_, rfl⟩
      obtain ⟨ad, rfl, a0, a1⟩ := Alm.at HC.out kk hlt
      rw [hx] at a0 a1
      replace a0 := (HB.out.cell (World.block_lt_of_cell? w _ a0)).trans a0
      replace a1 := (HB.out.cell (World.block_lt_of_cell? w _ a1)).trans a1
      have x0 := cell_rule a0
      have x1 := cell_rule a1
      have Br := bl_refl wr
      have HX := Lib.hid hx
      clear hx a0 a1
      by_cases hq : x.id = id
      · have hq1 : (x.id == id) = true := by simpa using hq
        have hq2 : (x.id != id) = false := by simpa using hq
        go_wp2
        go_roundg (L.length - (kk + 1))
        case measure => omega
        case rel =>
          exact ⟨kk + 1, B, d, M, by omega, by omega, rfl, by go_num, Kd.R_below HR.out ((Below.refl _ wr).alloc (Nat.le_refl _) _), (show M = _ by rw [aDrop_skip L kk id hlt (by rw [HX.out]; exact hq)]; exact HM.out), HB.out.alloc HB.out.size _⟩
      · have hq1 : (x.id == id) = false := by simpa using hq
        have hq2 : (x.id != id) = true := by simpa using hq
        have hlen : M.length ≤ 50000 := by rw [HM.out]; have := aDrop_length (L.take kk) id; rw [List.length_take] at this; omega
        have hrd := Kd.R_reads' HR.out
        have HCM := Lib.hid hrd.2.2
        have HLM := Lib.hid hrd.2.1
        clear hrd
        go_wp2_with fail
        refine (put150 B d M x _ (Kd.C_below HCM.out ((Below.refl _ wr).alloc (Nat.le_refl _) _)) HLM.out (by omega)).mono ?_
        rintro e w4 ⟨v4, rfl, hR4, hb4⟩
        obtain ⟨B4, d4, rfl⟩ := Kd.R_slice hR4
        have HR4 := Lib.hid (Kd.R_lower hR4 (HB.out.alloc HB.out.size _).size)
        have HB4 := Lib.hid (bl_trans (HB.out.alloc HB.out.size _) hb4)
        clear hR4 hb4
        go_wp2
        go_roundg (L.length - (kk + 1))
        case measure => omega
        case rel =>
          exact ⟨kk + 1, B4, d4, aPut M x, by omega, by omega, rfl, by go_num, HR4.out, (show aPut M x = _ by rw [aDrop_take L kk id hlt (by rw [HX.out]; exact hq), HX.out, ← HM.out]), HB4.out⟩
    · have hltz : ¬ (kk : Int) < (L.length : Int) := by omega
      have he : kk = L.length := by omega
      go_wp2
      go_ret
      exact ⟨_, rfl, by have := HM.out; rw [he, List.take_length] at this; rw [← this]; exact HR.out, HB.out⟩
set_option maxHeartbeats 8000000 in
set_option maxRecDepth 100000 in
theorem drop114 (A : Option Addr) (c : Nat) (L : List Alm) (id : Int) (w : World) (h : Kd.C kAlm w A L.length L) (hc : L.length ≤ c) (hsm : L.length ≤ 50000) :
    Calls Try.prog 114 #[.slice A L.length c, .int .i64 id] w fun e w' => ∃ v, e = .returned v ∧ Kd.R kAlm 175 w' w.heap.size (fun _ => True) v (aDrop L id) ∧ Below w.heap.size w w' := by
  have HC := Lib.hid h
  clear h hc
  go_enter Try.func114, Try.ntmps114
  go_wp2
  go_loopg [5, 6] L.length (fun gg s5 s10 wr => ∃ (kk : Nat) (B : Option Addr) (d : Nat) (M : List Alm), kk ≤ L.length ∧ L.length - kk ≤ gg ∧ s5 = .slice B M.length d ∧ s10 = .int .i64 kk ∧ Hid (Kd.R kAlm 175 wr w.heap.size (fun _ => True) (.slice B M.length d) M) ∧ Hid (M = aDrop (L.take kk) id) ∧ Hid (Below w.heap.size w wr))
  case atStart => exact ⟨0, none, 0, [], Nat.zero_le _, by omega, rfl, rfl, Kd.R_nil .., rfl, Below.refl _ _⟩
  case round =>
    obtain ⟨kk, B, d, M, hkk, hg, rfl, rfl, HR, HM, HB⟩ := hrel
    by_cases hlt : kk < L.length
    · have hltz : (kk : Int) < (L.length : Int) := by omega
      obtain ⟨x, hx⟩ : ∃ x, L[kk]! = x := ⟨_, rfl⟩
      obtain ⟨ad, rfl, a0, a1⟩ := Alm.at HC.out kk hlt
      rw [hx] at a0 a1
      replace a0 := (HB.out.cell (World.block_lt_of_cell? w _ a0)).trans a0
      replace a1 := (HB.out.cell (World.block_lt_of_cell? w _ a1)).trans a1
      have x0 := cell_rule a0
      have x1 := cell_rule a1
      have Br := bl_refl wr
      have HX := Lib.hid hx
      clear hx a0 a1
      by_cases hq : x.id = id
      · have hq1 : (x.id == id) = true := by simpa using hq
        have hq2 : (x.id != id) = false := by simpa using hq
        go_wp2
        go_roundg (L.length - (kk + 1))
        case measure => omega
        case rel =>
          exact ⟨kk + 1, B, d, M, by omega, by omega, rfl, by go_num, Kd.R_below HR.out (Below.refl _ wr), (show M = _ by rw [aDrop_skip L kk id hlt (by rw [HX.out]; exact hq)]; exact HM.out), HB.out⟩
      · have hq1 : (x.id == id) = false := by simpa using hq
        have hq2 : (x.id != id) = true := by simpa using hq
        have hlen : M.length ≤ 50000 := by rw [HM.out]; have := aDrop_length (L.take kk) id; rw [List.length_take] at this; omega
        have hrd := Kd.R_reads' HR.out
        have HCM := Lib.hid hrd.2.2
        have HLM := Lib.hid hrd.2.1
        clear hrd
        go_wp2_with fail
        refine (put151 B d M x _ HCM.out HLM.out (by omega)).mono ?_
        rintro e w4 ⟨v4, rfl, hR4, hb4⟩
        obtain ⟨B4, d4, rfl⟩ := Kd.R_slice hR4
        have HR4 := Lib.hid (Kd.R_lower hR4 HB.out.size)
        have HB4 := Lib.hid (bl_trans (HB.out) hb4)
        clear hR4 hb4
        go_wp2
        go_roundg (L.length - (kk + 1))
        case measure => omega
        case rel =>
          exact ⟨kk + 1, B4, d4, aPut M x, by omega, by omega, rfl, by go_num, HR4.out, (show aPut M x = _ by rw [aDrop_take L kk id hlt (by rw [HX.out]; exact hq), HX.out, ← HM.out]), HB4.out⟩
    · have hltz : ¬ (kk : Int) < (L.length : Int) := by omega
      have he : kk = L.length := by omega
      go_wp2
      go_ret
      exact ⟨_, rfl, by have := HM.out; rw [he, List.take_length] at this; rw [← this]; exact HR.out, HB.out⟩
end Go.Proofs.Ytkcebmamohimoaa
