/- clear of the end of a row of one's own. -/
import Derived.Test.YtkcebmamohimoaaK2
import Derived.Laws.CopyRow
namespace Go.Proofs.Ytkcebmamohimoaa
open Go.RowKit Go.Proofs.YtkcebmamohimoaaW.PrintWords
set_option linter.unusedVariables false
set_option linter.unusedSimpArgs false
theorem run_clear {P : Program} {W : World} {t e ty : TypeId} {n : Nat} {z : Value} {bytes : Nat} (ht : P.underlying t = some (.slice e)) (hinfo : (P.info? e).map (fun i => (i.zero, i.size, i.bytes)) = some (some z, n, bytes)) (hz : z.cells.size = n) (hz1 : ∀ u ∈ z.cells.toList, u.oneCell' = true)
    (g o k c : Nat) (cur : Array Value) (hg : W.heap[g]? = some (.cells cur e (0, 0))) (hfit : o + k * n ≤ cur.size) :
    ∃ vs : List Value, vs.length = k * n ∧ (Builtin.clear_ #[t] ty #[.slice (some ⟨g, o, none⟩) k c]).run P W = .ok (.tuple #[]) (W.setRow g (cur.toList.take o ++ vs ++ cur.toList.drop (o + k * n)).toArray) := by
  cases k with
  | zero =>
    refine ⟨[], by simp, ?_⟩
    have e0 : (cur.toList.take o ++ [] ++ cur.toList.drop (o + 0 * n)).toArray = cur := by simp
    rw [e0, setRow_self W g cur e (0, 0) hg]
    simp [Builtin.clear_, run_underlying ht]
  | succ k =>
    have hl : (Builtin.zeroCells z.cells (k + 1)).toList.length = (k + 1) * n := by simp [Builtin.zeroCells, hz]
    refine ⟨(Builtin.zeroCells z.cells (k + 1)).toList, hl, ?_⟩
    obtain ⟨inf, hi, hi2⟩ : ∃ inf, P.info? e = some inf ∧ inf.zero = some z := by
      cases h : P.info? e with
      | none => rw [h] at hinfo; simp at hinfo
      | some inf => rw [h] at hinfo; simp at hinfo; exact ⟨inf, rfl, hinfo.1⟩
    have hst := run_storeCells_at (P := P) g o e (Builtin.zeroCells z.cells (k + 1)).toList 0 cur W hg (by rw [hl]; omega) (fun v hv => by
      simp only [Builtin.zeroCells, Array.toList_map, List.mem_map] at hv
      obtain ⟨i, hi, rfl⟩ := hv
      have hn : 0 < z.cells.size := by
        rcases Nat.eq_zero_or_pos z.cells.size with h0 | h0
        · rw [h0] at hi; simp at hi
        · exact h0
      have hlt : i % z.cells.size < z.cells.size := Nat.mod_lt _ hn
      rw [getElem!_pos z.cells _ hlt]
      exact hz1 _ (Array.getElem_mem_toList _))
    rw [Nat.add_zero, hl] at hst
    have hzv : (zeroValue e).run P W = .ok z W := by simp [zeroValue, typeInfo, hi, hi2]
    simp [Builtin.clear_, run_underlying ht, hzv, hst]
section
variable {α : Type} {n : Nat} {f : α → List Value} {hl : ∀ x, (f x).length = n} {h1 : ∀ x, ∀ u ∈ f x, u.oneCell' = true}
/-- The end of a row of one's own is cleared, and cut off. -/
theorem flat_clear {P : Program} {W : World} {t e ty : TypeId} {z : Value} {bytes base g m c c' : Nat} {ok : Nat → Prop} {L : List α} (ht : P.underlying t = some (.slice e)) (hinfo : (P.info? e).map (fun i => (i.zero, i.size, i.bytes)) = some (some z, n, bytes)) (hz : z.cells.size = n) (hz1 : ∀ u ∈ z.cells.toList, u.oneCell' = true)
    (h : Kd.R (flat n f hl h1) e W base ok (.slice (some ⟨g, 0, none⟩) m c) L) (i : Nat) (hi : i ≤ L.length) :
    ∃ W', (Builtin.clear_ #[t] ty #[.slice (some ⟨g, i * n, none⟩) (L.length - i) c']).run P W = .ok (.tuple #[]) W' ∧ Kd.R (flat n f hl h1) e W' base ok (.slice (some ⟨g, 0, none⟩) i c) (L.take i) ∧ W.grownBy W' (some g) ∧ base ≤ g := by
  have hcap : L.length ≤ c := by have := Kd.R_reads' h; omega
  have hti : (L.take i).length = i := by rw [List.length_take]; omega
  obtain ⟨h0, inner, ⟨hlen, hown⟩, hr⟩ := Kd.R_take h hi
  rcases hown with ⟨e0, _⟩ | ⟨g', cap, cur, e0, hge, hg, hle, hmax, hsz, htk⟩
  · cases e0
  · injection e0 with e1 e2 e3
    injection e1 with e1
    injection e1 with e1
    subst e1
    subst e3
    have hfit : i * n + (L.length - i) * n ≤ cur.size := by
      rw [hsz, ← Nat.add_mul]
      exact Nat.mul_le_mul_right _ (by omega)
    obtain ⟨vs, hvl, hrun⟩ := run_clear (P := P) (ty := ty) ht hinfo hz hz1 g (i * n) (L.length - i) c' cur hg hfit
    have hlt : (cur.toList.take (i * n)).length = i * n := by rw [List.length_take, Array.length_toList]; omega
    refine ⟨_, hrun, ⟨h0, inner, ⟨hlen, .inr ⟨g, c, _, by rw [hti], hge, setRow_heap W g cur _ e (0, 0) hg, by rw [hti]; omega, hmax, ?_, ?_⟩⟩, hr⟩, ⟨rfl, rfl, rfl, by rw [setRow_size]; exact Nat.le_refl _, fun k _ hk => setRow_other W g k _ (fun e => hk (by rw [e]))⟩, hge⟩
    · have hcl : cur.toList.length = cur.size := Array.length_toList
      rw [List.size_toArray, List.length_append, List.length_append, hlt, hvl, List.length_drop, hcl]
      have : (flat n f hl h1).sz = n := rfl
      rw [this] at hsz ⊢
      omega
    · have hs : (flat n f hl h1).sz = n := rfl
      rw [hti, hs] at htk ⊢
      rw [← htk, List.append_assoc, List.take_append_of_le_length (by rw [hlt]; exact Nat.le_refl _), List.take_take, Nat.min_self]
end
end Go.Proofs.Ytkcebmamohimoaa
