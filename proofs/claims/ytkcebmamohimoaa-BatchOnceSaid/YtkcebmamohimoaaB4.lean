/- A batch that may not be has no bytes; the reader takes numbers and texts. -/
import Derived.Test.YtkcebmamohimoaaB3
namespace Go.Proofs.Ytkcebmamohimoaa
open Go.RowKit Go.Proofs.YtkcebmamohimoaaW.PrintWords
set_option linter.unusedVariables false
set_option linter.unusedSimpArgs false
attribute [local go_sem] bl_refl bl_alloc bl_drew bl_drewN
set_option maxHeartbeats 4000000 in
set_option maxRecDepth 100000 in
theorem no29 (A : Option Addr) (c : Nat) (b : Bt) (w : World) (h : Kd.C kWr w A b.ws.length b.ws) (hm : b.may = false) :
    Calls Try.prog 29 #[.agg #[.int .i64 b.kind, .string b.tok, .slice A b.ws.length c]] w fun e w' => e = .returned (.tuple #[.string ⟨#[]⟩, .int .i64 1]) ∧ Below w.heap.size w w' := by
  have HM := Lib.hid hm
  obtain ⟨W, hW, K1, HW, hs⟩ := boxes1 w #[.int .i64 b.kind, .string b.tok, .slice A b.ws.length c] 50
  have HC := Lib.hid (Kd.C_below h HW)
  have r0 := blk_cells K1
  have HWB := Lib.hid HW
  have HWW := Lib.hid hW
  have B0 := bl_refl W
  clear hW K1 HW hs h hm
  go_enter Try.func29, Try.ntmps29
  go_wp2_with fail
  rw [HWW.out]
  refine (may34 A c b W HC.out).mono ?_
  rintro e w1 ⟨rfl, hb⟩
  rw [HM.out]
  have HB := Lib.hid (bl_trans HWB.out hb)
  clear hb
  go_wp2
  exact bodyPost_ret (v := .tuple #[.string ⟨#[]⟩, .int .i64 1]) (by simp [results, Try.results29, go_sem]) rfl ⟨rfl, HB.out⟩
/-- The reader's cells. -/
def rdC (l : Bs) (ok : Bool) : Array Value := #[.string (bS l), .bool ok, .func (.func 96) #[] #[], .func (.func 97) #[] #[]]
def nmF (l : Bs) (ok : Bool) (most : Nat) : Nat × Bs × Bool := (if (ok && ((tnL l).2.2 == 0) && decide ((tnL l).1 ≤ most)) = true then (tnL l).1 else 0, (tnL l).2.1, ok && ((tnL l).2.2 == 0) && decide ((tnL l).1 ≤ most))
def txF (l : Bs) (ok : Bool) (most : Nat) : Bs × Bs × Bool := ((ttL l most).1, (ttL l most).2.1, ok && ((ttL l most).2.2 == 0))
theorem gb_set2 {w w1 : World} (h : Below w.heap.size w w1) (g : Nat) (a b : Value) : w.grownBy ((w1.setCell ⟨g, 0, none⟩ a).setCell ⟨g, 1, none⟩ b) (some g) :=
  ⟨h.os, h.tape, h.output, by simpa using h.size, fun k hk hne => by
    have hk' : k ≠ g := fun e => hne (by rw [e])
    exact (Below.heap_setCell _ ⟨g, 1, none⟩ b k hk').trans ((Below.heap_setCell _ ⟨g, 0, none⟩ a k hk').trans (h.block k hk))⟩
set_option maxHeartbeats 8000000 in
set_option maxRecDepth 100000 in
theorem num96 (g : Nat) (l : Bs) (ok : Bool) (most : Nat) (hs : l.length ≤ 4611686018427387904) (w : World) (hk : w.heap[g]? = some (.cells (rdC l ok) 152 (0, 0))) :
    Calls Try.prog 96 #[.pointer (some ⟨g, 0, none⟩), .int .u64 (most : Int)] w fun e w' => e = .returned (.int .u64 ((nmF l ok most).1 : Nat)) ∧ w'.heap[g]? = some (.cells (rdC (nmF l ok most).2.1 (nmF l ok most).2.2) 152 (0, 0)) ∧ w.grownBy w' (some g) := by
  have HK := Lib.hid hk
  have hk' : w.heap[g]? = some (.cells #[.string (bS l), .bool ok, .func (.func 96) #[] #[], .func (.func 97) #[] #[]] 152 (0, 0)) := hk
  have r1 := blk_cells hk'
  have z1 := blk_frz hk'
  have B0 := bl_refl w
  obtain ⟨v, r, e, hv⟩ : ∃ v r e, tnL l = (v, r, e) := ⟨_, _, _, rfl⟩
  have hc := fun w => tn106 (bS l) (by rw [bS_size]; exact hs) w
  rw [bS_toList, tnV_of hv] at hc
  have HC := Lib.hid hc
  have hN : nmF l ok most = (if (ok && (e == 0) && decide (v ≤ most)) = true then v else 0, r, ok && (e == 0) && decide (v ≤ most)) := by unfold nmF; rw [hv]
  have HN := Lib.hid hN
  clear hk hk' hs hv hc hN
  cases ok with
  | false =>
    have HR := Lib.hid (show nmF l false most = (0, r, false) by rw [HN.out]; rfl)
    go_enter Try.func96, Try.ntmps96
    go_wp2_with fail
    refine (HC.out w).mono ?_
    rintro e w1 ⟨rfl, hb⟩
    have HB := Lib.hid hb
    have B1 : Below w.heap.size w w1 := hb
    clear hb
    go_wp2
    go_ret
    refine ⟨by rw [HR.out]; rfl, ?_, gb_set2 HB.out g _ _⟩
    rw [HR.out]
    exact blk_put (blk_put (blk_below HK.out HB.out) 0 (.string (bS r)) rfl) 1 (.bool false) rfl
  | true =>
    by_cases he : e = 0
    · have he1 : (e == 0) = true := by simpa using he
      by_cases hm : v ≤ most
      · have hmz : (v : Int) ≤ (most : Int) := by omega
        have HP := Lib.hid (decide_eq_true hm)
        have HE := Lib.hid he1
        clear hm he
        have HR := Lib.hid (show nmF l true most = (v, r, true) by rw [HN.out, HE.out, HP.out]; rfl)
        go_enter Try.func96, Try.ntmps96
        go_wp2_with fail
        refine (HC.out w).mono ?_
        rintro e w1 ⟨rfl, hb⟩
        have HB := Lib.hid hb
        have B1 : Below w.heap.size w w1 := hb
        clear hb
        go_wp2
        go_ret
        refine ⟨by rw [HR.out]; rfl, ?_, gb_set2 HB.out g _ _⟩
        rw [HR.out]
        exact blk_put (blk_put (blk_below HK.out HB.out) 0 (.string (bS r)) rfl) 1 (.bool true) rfl
      · have hmz : ¬ (v : Int) ≤ (most : Int) := by omega
        have hmd := decide_eq_false hm
        have HP := Lib.hid hmd
        have HE := Lib.hid he1
        clear hm he
        have HR := Lib.hid (show nmF l true most = (0, r, false) by rw [HN.out, HE.out, HP.out]; rfl)
        go_enter Try.func96, Try.ntmps96
        go_wp2_with fail
        refine (HC.out w).mono ?_
        rintro e w1 ⟨rfl, hb⟩
        have HB := Lib.hid hb
        have B1 : Below w.heap.size w w1 := hb
        clear hb
        go_wp2
        go_ret
        refine ⟨by rw [HR.out]; rfl, ?_, gb_set2 HB.out g _ _⟩
        rw [HR.out]
        exact blk_put (blk_put (blk_below HK.out HB.out) 0 (.string (bS r)) rfl) 1 (.bool false) rfl
    · have he1 : (e == 0) = false := by simpa using he
      have HE := Lib.hid he1
      clear he
      have HR := Lib.hid (show nmF l true most = (0, r, false) by rw [HN.out, HE.out]; rfl)
      go_enter Try.func96, Try.ntmps96
      go_wp2_with fail
      refine (HC.out w).mono ?_
      rintro e w1 ⟨rfl, hb⟩
      have HB := Lib.hid hb
      have B1 : Below w.heap.size w w1 := hb
      clear hb
      go_wp2
      go_ret
      refine ⟨by rw [HR.out]; rfl, ?_, gb_set2 HB.out g _ _⟩
      rw [HR.out]
      exact blk_put (blk_put (blk_below HK.out HB.out) 0 (.string (bS r)) rfl) 1 (.bool false) rfl
set_option maxHeartbeats 8000000 in
set_option maxRecDepth 100000 in
theorem text97 (g : Nat) (l : Bs) (ok : Bool) (most : Nat) (hm : most ≤ 4611686018427387904) (hs : l.length ≤ 4611686018427387904) (w : World) (hk : w.heap[g]? = some (.cells (rdC l ok) 152 (0, 0))) :
    Calls Try.prog 97 #[.pointer (some ⟨g, 0, none⟩), .int .i64 (most : Int)] w fun e w' => e = .returned (.string (bS (txF l ok most).1)) ∧ w'.heap[g]? = some (.cells (rdC (txF l ok most).2.1 (txF l ok most).2.2) 152 (0, 0)) ∧ w.grownBy w' (some g) := by
  have HK := Lib.hid hk
  have hk' : w.heap[g]? = some (.cells #[.string (bS l), .bool ok, .func (.func 96) #[] #[], .func (.func 97) #[] #[]] 152 (0, 0)) := hk
  have r1 := blk_cells hk'
  have z1 := blk_frz hk'
  have B0 := bl_refl w
  obtain ⟨v, r, e, hv⟩ : ∃ v r e, ttL l most = (v, r, e) := ⟨_, _, _, rfl⟩
  have hc := fun w => tt107 (bS l) (by rw [bS_size]; exact hs) most hm w
  rw [bS_toList, ttV_of hv] at hc
  have HC := Lib.hid hc
  have hN : txF l ok most = (v, r, ok && (e == 0)) := by unfold txF; rw [hv]
  have HN := Lib.hid hN
  clear hk hk' hs hv hc hN hm
  cases ok with
  | false =>
    have HR := Lib.hid (show txF l false most = (v, r, false) by rw [HN.out]; rfl)
    go_enter Try.func97, Try.ntmps97
    go_wp2_with fail
    refine (HC.out w).mono ?_
    rintro e w1 ⟨rfl, hb⟩
    have HB := Lib.hid hb
    have B1 : Below w.heap.size w w1 := hb
    clear hb
    go_wp2
    go_ret
    refine ⟨by rw [HR.out]; rfl, ?_, gb_set2 HB.out g _ _⟩
    rw [HR.out]
    exact blk_put (blk_put (blk_below HK.out HB.out) 0 (.string (bS r)) rfl) 1 (.bool false) rfl
  | true =>
    by_cases he : e = 0
    · have he1 : (e == 0) = true := by simpa using he
      have HE := Lib.hid he1
      clear he
      have HR := Lib.hid (show txF l true most = (v, r, true) by rw [HN.out, HE.out]; rfl)
      go_enter Try.func97, Try.ntmps97
      go_wp2_with fail
      refine (HC.out w).mono ?_
      rintro e w1 ⟨rfl, hb⟩
      have HB := Lib.hid hb
      have B1 : Below w.heap.size w w1 := hb
      clear hb
      go_wp2
      go_ret
      refine ⟨by rw [HR.out]; rfl, ?_, gb_set2 HB.out g _ _⟩
      rw [HR.out]
      exact blk_put (blk_put (blk_below HK.out HB.out) 0 (.string (bS r)) rfl) 1 (.bool true) rfl
    · have he1 : (e == 0) = false := by simpa using he
      have HE := Lib.hid he1
      clear he
      have HR := Lib.hid (show txF l true most = (v, r, false) by rw [HN.out, HE.out]; rfl)
      go_enter Try.func97, Try.ntmps97
      go_wp2_with fail
      refine (HC.out w).mono ?_
      rintro e w1 ⟨rfl, hb⟩
      have HB := Lib.hid hb
      have B1 : Below w.heap.size w w1 := hb
      clear hb
      go_wp2
      go_ret
      refine ⟨by rw [HR.out]; rfl, ?_, gb_set2 HB.out g _ _⟩
      rw [HR.out]
      exact blk_put (blk_put (blk_below HK.out HB.out) 0 (.string (bS r)) rfl) 1 (.bool false) rfl
end Go.Proofs.Ytkcebmamohimoaa
