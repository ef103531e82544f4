/- slices.IndexFunc and ContainsFunc at this program's element types: the first place at which the predicate holds. -/
import Derived.Test.YtkcebmamohimoaaG1
namespace Go.Proofs.Ytkcebmamohimoaa
open Go.RowKit Go.Proofs.YtkcebmamohimoaaW.PrintWords
set_option linter.unusedVariables false
set_option linter.unusedSimpArgs false
set_option maxHeartbeats 2000000 in
set_option maxRecDepth 100000 in
theorem indexFunc118 (A : Option Addr) (c : Nat) (L : List Ses) (g : Nat) (lb : Array Value) (p : Ses → Bool) (eg : ∀ args w, (callFunc g args).run Try.prog w = .ok (.enter g args) w) (w : World)
    (h : Kd.C kSes w A L.length L) (hp : PredB g lb Ses.cells p w) :
    Calls Try.prog 118 #[.slice A L.length c, .func (.func g) #[] lb] w fun e w' => e = .returned (.int .i64 (fidx p L)) ∧ Below w.heap.size w w' := by
  have hm : L.length ≤ 9223372036854775807 := h.2.1
  have HC := Lib.hid h
  have HP := Lib.hid hp
  clear h hp
  go_enter Try.func118, Try.ntmps118
  go_wp2
  go_loopg [5, 8] L.length (fun gg _ s8 wr => ∃ kk : Nat, kk ≤ L.length ∧ L.length - kk ≤ gg ∧ s8 = .int .i64 kk ∧ Hid (Below w.heap.size w wr) ∧ Hid (∀ j, j < kk → p L[j]! = false))
  case atStart => exact ⟨0, Nat.zero_le _, by omega, rfl, Below.refl _ _, fun j hj => absurd hj (Nat.not_lt_zero _)⟩
  case round =>
    obtain ⟨kk, hkk, hg, rfl, HB, HN⟩ := hrel
    by_cases hlt : kk < L.length
    · have hltz : (kk : Int) < (L.length : Int) := by omega
      obtain ⟨x, hx⟩ : ∃ x, L[kk]! = x := ⟨_, rfl⟩
      obtain ⟨ad, rfl, x0, x1, x2, x3, x4, x5⟩ := Ses.at HC.out kk hlt
      rw [hx] at x0 x1 x2 x3 x4 x5
      replace x0 := (HB.out.cell (World.block_lt_of_cell? w _ x0)).trans x0
      replace x1 := (HB.out.cell (World.block_lt_of_cell? w _ x1)).trans x1
      replace x2 := (HB.out.cell (World.block_lt_of_cell? w _ x2)).trans x2
      replace x3 := (HB.out.cell (World.block_lt_of_cell? w _ x3)).trans x3
      replace x4 := (HB.out.cell (World.block_lt_of_cell? w _ x4)).trans x4
      replace x5 := (HB.out.cell (World.block_lt_of_cell? w _ x5)).trans x5
      have hcall : Calls Try.prog g (#[.agg #[.int .i64 x.id, .int .i64 x.seq, .bool x.busy, .string x.last, .int .i64 x.txn, .int .i64 x.conn]] ++ lb) wr _ := HP.out x wr HB.out
      cases hq : p x with
      | true =>
        have HQ := Lib.hid (show p L[kk]! = true by rw [hx]; exact hq)
        rw [hq] at hcall
        have HCA := Lib.hid hcall
        clear hq hx hcall
        go_wp2_with ((with_reducible refine (HCA.out).mono ?_); rintro e w' ⟨rfl, hb⟩; have HB2 := Lib.hid hb; clear hb)
        go_ret
        exact ⟨by rw [fidx_hit p L kk hlt HQ.out HN.out]; rfl, HB.out.trans (HB2.out.mono HB.out.size)⟩
      | false =>
        have HQ := Lib.hid (show p L[kk]! = false by rw [hx]; exact hq)
        rw [hq] at hcall
        have HCA := Lib.hid hcall
        clear hq hx hcall
        go_wp2_with ((with_reducible refine (HCA.out).mono ?_); rintro e w' ⟨rfl, hb⟩; have HB2 := Lib.hid hb; clear hb)
        go_roundg (L.length - (kk + 1))
        case measure => omega
        case rel =>
          refine ⟨kk + 1, by omega, by omega, by go_num, HB.out.trans (HB2.out.mono HB.out.size), fun j hj => ?_⟩
          by_cases e : j = kk
          · subst e; exact HQ.out
          · exact HN.out j (by omega)
    · have hltz : ¬ (kk : Int) < (L.length : Int) := by omega
      have he : kk = L.length := by omega
      go_wp2
      go_ret
      exact ⟨by rw [fidx_miss p L (he ▸ HN.out)]; rfl, HB.out⟩
set_option maxHeartbeats 2000000 in
set_option maxRecDepth 100000 in
theorem indexFunc168 (A : Option Addr) (c : Nat) (L : List Pr) (g : Nat) (lb : Array Value) (p : Pr → Bool) (eg : ∀ args w, (callFunc g args).run Try.prog w = .ok (.enter g args) w) (w : World)
    (h : Kd.C kPr w A L.length L) (hp : PredB g lb Pr.cells p w) :
    Calls Try.prog 168 #[.slice A L.length c, .func (.func g) #[] lb] w fun e w' => e = .returned (.int .i64 (fidx p L)) ∧ Below w.heap.size w w' := by
  have hm : L.length ≤ 9223372036854775807 := h.2.1
  have HC := Lib.hid h
  have HP := Lib.hid hp
  clear h hp
  go_enter Try.func168, Try.ntmps168
  go_wp2
  go_loopg [5, 8] L.length (fun gg _ s8 wr => ∃ kk : Nat, kk ≤ L.length ∧ L.length - kk ≤ gg ∧ s8 = .int .i64 kk ∧ Hid (Below w.heap.size w wr) ∧ Hid (∀ j, j < kk → p L[j]! = false))
  case atStart => exact ⟨0, Nat.zero_le _, by omega, rfl, Below.refl _ _, fun j hj => absurd hj (Nat.not_lt_zero _)⟩
  case round =>
    obtain ⟨kk, hkk, hg, rfl, HB, HN⟩ := hrel
    by_cases hlt : kk < L.length
    · have hltz : (kk : Int) < (L.length : Int) := by omega
      obtain ⟨x, hx⟩ : ∃ x, L[kk]! = x := ⟨_, rfl⟩
      obtain ⟨ad, rfl, x0, x1⟩ := Pr.at HC.out kk hlt
      rw [hx] at x0 x1
      replace x0 := (HB.out.cell (World.block_lt_of_cell? w _ x0)).trans x0
      replace x1 := (HB.out.cell (World.block_lt_of_cell? w _ x1)).trans x1
      have hcall : Calls Try.prog g (#[.agg #[.string x.key, .string x.val]] ++ lb) wr _ := HP.out x wr HB.out
      cases hq : p x with
      | true =>
        have HQ := Lib.hid (show p L[kk]! = true by rw [hx]; exact hq)
        rw [hq] at hcall
        have HCA := Lib.hid hcall
        clear hq hx hcall
        go_wp2_with ((with_reducible refine (HCA.out).mono ?_); rintro e w' ⟨rfl, hb⟩; have HB2 := Lib.hid hb; clear hb)
        go_ret
        exact ⟨by rw [fidx_hit p L kk hlt HQ.out HN.out]; rfl, HB.out.trans (HB2.out.mono HB.out.size)⟩
      | false =>
        have HQ := Lib.hid (show p L[kk]! = false by rw [hx]; exact hq)
        rw [hq] at hcall
        have HCA := Lib.hid hcall
        clear hq hx hcall
        go_wp2_with ((with_reducible refine (HCA.out).mono ?_); rintro e w' ⟨rfl, hb⟩; have HB2 := Lib.hid hb; clear hb)
        go_roundg (L.length - (kk + 1))
        case measure => omega
        case rel =>
          refine ⟨kk + 1, by omega, by omega, by go_num, HB.out.trans (HB2.out.mono HB.out.size), fun j hj => ?_⟩
          by_cases e : j = kk
          · subst e; exact HQ.out
          · exact HN.out j (by omega)
    · have hltz : ¬ (kk : Int) < (L.length : Int) := by omega
      have he : kk = L.length := by omega
      go_wp2
      go_ret
      exact ⟨by rw [fidx_miss p L (he ▸ HN.out)]; rfl, HB.out⟩
set_option maxHeartbeats 2000000 in
set_option maxRecDepth 100000 in
theorem indexFunc209 (A : Option Addr) (c : Nat) (L : List Fl) (g : Nat) (lb : Array Value) (p : Fl → Bool) (eg : ∀ args w, (callFunc g args).run Try.prog w = .ok (.enter g args) w) (w : World)
    (h : Kd.C kFl w A L.length L) (hp : PredB g lb Fl.cells p w) :
    Calls Try.prog 209 #[.slice A L.length c, .func (.func g) #[] lb] w fun e w' => e = .returned (.int .i64 (fidx p L)) ∧ Below w.heap.size w w' := by
  have hm : L.length ≤ 9223372036854775807 := h.2.1
  have HC := Lib.hid h
  have HP := Lib.hid hp
  clear h hp
  go_enter Try.func209, Try.ntmps209
  go_wp2
  go_loopg [5, 8] L.length (fun gg _ s8 wr => ∃ kk : Nat, kk ≤ L.length ∧ L.length - kk ≤ gg ∧ s8 = .int .i64 kk ∧ Hid (Below w.heap.size w wr) ∧ Hid (∀ j, j < kk → p L[j]! = false))
  case atStart => exact ⟨0, Nat.zero_le _, by omega, rfl, Below.refl _ _, fun j hj => absurd hj (Nat.not_lt_zero _)⟩
  case round =>
    obtain ⟨kk, hkk, hg, rfl, HB, HN⟩ := hrel
    by_cases hlt : kk < L.length
    · have hltz : (kk : Int) < (L.length : Int) := by omega
      obtain ⟨x, hx⟩ : ∃ x, L[kk]! = x := ⟨_, rfl⟩
      obtain ⟨ad, rfl, x0, x1, x2⟩ := Fl.at HC.out kk hlt
      rw [hx] at x0 x1 x2
      replace x0 := (HB.out.cell (World.block_lt_of_cell? w _ x0)).trans x0
      replace x1 := (HB.out.cell (World.block_lt_of_cell? w _ x1)).trans x1
      replace x2 := (HB.out.cell (World.block_lt_of_cell? w _ x2)).trans x2
      have hcall : Calls Try.prog g (#[.agg #[.string x.name, .string x.safe, .string x.wait]] ++ lb) wr _ := HP.out x wr HB.out
      cases hq : p x with
      | true =>
        have HQ := Lib.hid (show p L[kk]! = true by rw [hx]; exact hq)
        rw [hq] at hcall
        have HCA := Lib.hid hcall
        clear hq hx hcall
        go_wp2_with ((with_reducible refine (HCA.out).mono ?_); rintro e w' ⟨rfl, hb⟩; have HB2 := Lib.hid hb; clear hb)
        go_ret
        exact ⟨by rw [fidx_hit p L kk hlt HQ.out HN.out]; rfl, HB.out.trans (HB2.out.mono HB.out.size)⟩
      | false =>
        have HQ := Lib.hid (show p L[kk]! = false by rw [hx]; exact hq)
        rw [hq] at hcall
        have HCA := Lib.hid hcall
        clear hq hx hcall
        go_wp2_with ((with_reducible refine (HCA.out).mono ?_); rintro e w' ⟨rfl, hb⟩; have HB2 := Lib.hid hb; clear hb)
        go_roundg (L.length - (kk + 1))
        case measure => omega
        case rel =>
          refine ⟨kk + 1, by omega, by omega, by go_num, HB.out.trans (HB2.out.mono HB.out.size), fun j hj => ?_⟩
          by_cases e : j = kk
          · subst e; exact HQ.out
          · exact HN.out j (by omega)
    · have hltz : ¬ (kk : Int) < (L.length : Int) := by omega
      have he : kk = L.length := by omega
      go_wp2
      go_ret
      exact ⟨by rw [fidx_miss p L (he ▸ HN.out)]; rfl, HB.out⟩
set_option maxHeartbeats 2000000 in
set_option maxRecDepth 100000 in
theorem indexFunc153 (A : Option Addr) (c : Nat) (L : List Wr) (g : Nat) (lb : Array Value) (p : Wr → Bool) (eg : ∀ args w, (callFunc g args).run Try.prog w = .ok (.enter g args) w) (w : World)
    (h : Kd.C kWr w A L.length L) (hp : PredB g lb Wr.cells p w) :
    Calls Try.prog 153 #[.slice A L.length c, .func (.func g) #[] lb] w fun e w' => e = .returned (.int .i64 (fidx p L)) ∧ Below w.heap.size w w' := by
  have hm : L.length ≤ 9223372036854775807 := h.2.1
  have HC := Lib.hid h
  have HP := Lib.hid hp
  clear h hp
  go_enter Try.func153, Try.ntmps153
  go_wp2
  go_loopg [5, 8] L.length (fun gg _ s8 wr => ∃ kk : Nat, kk ≤ L.length ∧ L.length - kk ≤ gg ∧ s8 = .int .i64 kk ∧ Hid (Below w.heap.size w wr) ∧ Hid (∀ j, j < kk → p L[j]! = false))
  case atStart => exact ⟨0, Nat.zero_le _, by omega, rfl, Below.refl _ _, fun j hj => absurd hj (Nat.not_lt_zero _)⟩
  case round =>
    obtain ⟨kk, hkk, hg, rfl, HB, HN⟩ := hrel
    by_cases hlt : kk < L.length
    · have hltz : (kk : Int) < (L.length : Int) := by omega
      obtain ⟨x, hx⟩ : ∃ x, L[kk]! = x := ⟨_, rfl⟩
      obtain ⟨ad, rfl, x0, x1, x2⟩ := Wr.at HC.out kk hlt
      rw [hx] at x0 x1 x2
      replace x0 := (HB.out.cell (World.block_lt_of_cell? w _ x0)).trans x0
      replace x1 := (HB.out.cell (World.block_lt_of_cell? w _ x1)).trans x1
      replace x2 := (HB.out.cell (World.block_lt_of_cell? w _ x2)).trans x2
      have hcall : Calls Try.prog g (#[.agg #[.string x.key, .string x.val, .bool x.del]] ++ lb) wr _ := HP.out x wr HB.out
      cases hq : p x with
      | true =>
        have HQ := Lib.hid (show p L[kk]! = true by rw [hx]; exact hq)
        rw [hq] at hcall
        have HCA := Lib.hid hcall
        clear hq hx hcall
        go_wp2_with ((with_reducible refine (HCA.out).mono ?_); rintro e w' ⟨rfl, hb⟩; have HB2 := Lib.hid hb; clear hb)
        go_ret
        exact ⟨by rw [fidx_hit p L kk hlt HQ.out HN.out]; rfl, HB.out.trans (HB2.out.mono HB.out.size)⟩
      | false =>
        have HQ := Lib.hid (show p L[kk]! = false by rw [hx]; exact hq)
        rw [hq] at hcall
        have HCA := Lib.hid hcall
        clear hq hx hcall
        go_wp2_with ((with_reducible refine (HCA.out).mono ?_); rintro e w' ⟨rfl, hb⟩; have HB2 := Lib.hid hb; clear hb)
        go_roundg (L.length - (kk + 1))
        case measure => omega
        case rel =>
          refine ⟨kk + 1, by omega, by omega, by go_num, HB.out.trans (HB2.out.mono HB.out.size), fun j hj => ?_⟩
          by_cases e : j = kk
          · subst e; exact HQ.out
          · exact HN.out j (by omega)
    · have hltz : ¬ (kk : Int) < (L.length : Int) := by omega
      have he : kk = L.length := by omega
      go_wp2
      go_ret
      exact ⟨by rw [fidx_miss p L (he ▸ HN.out)]; rfl, HB.out⟩
set_option maxHeartbeats 2000000 in
set_option maxRecDepth 100000 in
theorem containsFunc101 (A : Option Addr) (c : Nat) (L : List Wr) (g : Nat) (lb : Array Value) (p : Wr → Bool) (eg : ∀ args w, (callFunc g args).run Try.prog w = .ok (.enter g args) w) (w : World)
    (h : Kd.C kWr w A L.length L) (hp : PredB g lb Wr.cells p w) :
    Calls Try.prog 101 #[.slice A L.length c, .func (.func g) #[] lb] w fun e w' => e = .returned (.bool (L.any p)) ∧ Below w.heap.size w w' := by
  have HI := Lib.hid (indexFunc153 A c L g lb p eg w h hp)
  clear h hp
  cases hq : L.any p with
  | true =>
    have h0 : 0 ≤ fidx p L := (fidx_any p L).1 hq
    generalize fidx p L = i at h0 HI
    have H1 := Lib.hid (decide_eq_true h0)
    go_enter Try.func101, Try.ntmps101
    go_wp2_with ((with_reducible refine (HI.out).mono ?_); rintro e w' ⟨rfl, hb⟩; have HB2 := Lib.hid hb; clear hb)
    go_ret
    exact ⟨by first | rfl | (show Ending.returned (.bool (decide (0 ≤ i))) = _; rw [H1.out]), HB2.out⟩
  | false =>
    have h0 : ¬ 0 ≤ fidx p L := fun h => by rw [(fidx_any p L).2 h] at hq; cases hq
    generalize fidx p L = i at h0 HI
    have H1 := Lib.hid (decide_eq_false h0)
    go_enter Try.func101, Try.ntmps101
    go_wp2_with ((with_reducible refine (HI.out).mono ?_); rintro e w' ⟨rfl, hb⟩; have HB2 := Lib.hid hb; clear hb)
    go_ret
    exact ⟨by first | rfl | (show Ending.returned (.bool (decide (0 ≤ i))) = _; rw [H1.out]), HB2.out⟩
set_option maxHeartbeats 2000000 in
set_option maxRecDepth 100000 in
theorem containsFunc156 (A : Option Addr) (c : Nat) (L : List Pr) (g : Nat) (lb : Array Value) (p : Pr → Bool) (eg : ∀ args w, (callFunc g args).run Try.prog w = .ok (.enter g args) w) (w : World)
    (h : Kd.C kPr w A L.length L) (hp : PredB g lb Pr.cells p w) :
    Calls Try.prog 156 #[.slice A L.length c, .func (.func g) #[] lb] w fun e w' => e = .returned (.bool (L.any p)) ∧ Below w.heap.size w w' := by
  have HI := Lib.hid (indexFunc168 A c L g lb p eg w h hp)
  clear h hp
  cases hq : L.any p with
  | true =>
    have h0 : 0 ≤ fidx p L := (fidx_any p L).1 hq
    generalize fidx p L = i at h0 HI
    have H1 := Lib.hid (decide_eq_true h0)
    go_enter Try.func156, Try.ntmps156
    go_wp2_with ((with_reducible refine (HI.out).mono ?_); rintro e w' ⟨rfl, hb⟩; have HB2 := Lib.hid hb; clear hb)
    go_ret
    exact ⟨by first | rfl | (show Ending.returned (.bool (decide (0 ≤ i))) = _; rw [H1.out]), HB2.out⟩
  | false =>
    have h0 : ¬ 0 ≤ fidx p L := fun h => by rw [(fidx_any p L).2 h] at hq; cases hq
    generalize fidx p L = i at h0 HI
    have H1 := Lib.hid (decide_eq_false h0)
    go_enter Try.func156, Try.ntmps156
    go_wp2_with ((with_reducible refine (HI.out).mono ?_); rintro e w' ⟨rfl, hb⟩; have HB2 := Lib.hid hb; clear hb)
    go_ret
    exact ⟨by first | rfl | (show Ending.returned (.bool (decide (0 ≤ i))) = _; rw [H1.out]), HB2.out⟩
end Go.Proofs.Ytkcebmamohimoaa
