/- Alarms: which of two is earlier. -/
import Derived.Test.YtkcebmamohimoaaG1
import Derived.Test.YtkcebmamohimoaaK2
import Derived.Deep.RegionHeld3
namespace Go.Proofs.Ytkcebmamohimoaa
open Go.RowKit Go.Proofs.YtkcebmamohimoaaW.PrintWords
set_option linter.unusedVariables false
set_option linter.unusedSimpArgs false
attribute [local go_sem] bl_refl bl_alloc bl_drew bl_drewN
def aless (a b : Alm) : Bool := decide (a.due < b.due) || (a.due == b.due && decide (a.id < b.id))
set_option maxHeartbeats 1000000 in
set_option maxRecDepth 100000 in
theorem less192 (a b : Alm) (w : World) : Calls Try.prog 192 #[.agg #[.int .u64 a.due, .int .i64 a.id], .agg #[.int .u64 b.due, .int .i64 b.id]] w fun e w' => e = .returned (.bool (aless a b)) ∧ Below w.heap.size w w' := by
  unfold aless
  obtain ⟨a1, a2⟩ := a
  obtain ⟨b1, b2⟩ := b
  by_cases h1 : a1 < b1
  · have e1 : decide (a1 < b1) = true := decide_eq_true h1
    have e2 : (a1 == b1) = false := beq_eq_false_iff_ne.2 (by omega)
    go_enter Try.func192, Try.ntmps192
    go_wp2
    go_ret
    exact ⟨by simp [e1], ((Below.refl _ _).alloc (Nat.le_refl _) _).alloc (by simp) _⟩
  · have e1 : decide (a1 < b1) = false := decide_eq_false h1
    by_cases h2 : a1 = b1
    · have e2 : (a1 == b1) = true := beq_iff_eq.2 h2
      go_enter Try.func192, Try.ntmps192
      go_wp2
      go_ret
      exact ⟨by simp [e1, e2], ((Below.refl _ _).alloc (Nat.le_refl _) _).alloc (by simp) _⟩
    · have e2 : (a1 == b1) = false := beq_eq_false_iff_ne.2 h2
      go_enter Try.func192, Try.ntmps192
      go_wp2
      go_ret
      exact ⟨by simp [e1, e2], ((Below.refl _ _).alloc (Nat.le_refl _) _).alloc (by simp) _⟩
set_option maxHeartbeats 1000000 in
set_option maxRecDepth 100000 in
theorem less193 (a b : Alm) (w : World) : Calls Try.prog 193 #[.agg #[.int .u64 a.due, .int .i64 a.id], .agg #[.int .u64 b.due, .int .i64 b.id]] w fun e w' => e = .returned (.bool (aless a b)) ∧ Below w.heap.size w w' := by
  unfold aless
  obtain ⟨a1, a2⟩ := a
  obtain ⟨b1, b2⟩ := b
  by_cases h2 : a1 = b1
  · have e2 : (a1 == b1) = true := beq_iff_eq.2 h2
    have e3 : (a1 != b1) = false := by simp [h2]
    have e1 : decide (a1 < b1) = false := decide_eq_false (by omega)
    go_enter Try.func193, Try.ntmps193
    go_wp2
    go_ret
    exact ⟨by simp [e1, e2], ((Below.refl _ _).alloc (Nat.le_refl _) _).alloc (by simp) _⟩
  · have e2 : (a1 == b1) = false := beq_eq_false_iff_ne.2 h2
    have e3 : (a1 != b1) = true := by simp [h2]
    go_enter Try.func193, Try.ntmps193
    go_wp2
    go_ret
    exact ⟨by simp [e2], ((Below.refl _ _).alloc (Nat.le_refl _) _).alloc (by simp) _⟩
end Go.Proofs.Ytkcebmamohimoaa
