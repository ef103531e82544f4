/- What came in: its form, out of its reading. -/
import Derived.Test.YtkcebmamohimoaaK
import Derived.ProofKit
import Derived.OpenShut
namespace Go.Proofs.Ytkcebmamohimoaa
open Go.RowKit Go.Proofs.YtkcebmamohimoaaW.PrintWords
set_option linter.unusedVariables false
set_option linter.unusedSimpArgs false
/-- These cells read as a datum of that type. -/
def Rd {H : Type} (enc : TypeId × Value → H) (w : World) (t : TypeId) (cs : List Value) : Prop := ∃ fuel x, DataW.trod enc Try.prog w 0 (fun _ => true) true fuel t cs = some x
theorem list_pick {α : Type} (P : Nat → α → Prop) : ∀ n, (∀ i, i < n → ∃ x, P i x) → ∃ L : List α, L.length = n ∧ ∀ i x, L[i]? = some x → P i x
  | 0, _ => ⟨[], rfl, fun i x h => by simp at h⟩
  | n + 1, h => by
    obtain ⟨L, hl, hp⟩ := list_pick P n (fun i hi => h i (by omega))
    obtain ⟨x, hx⟩ := h n (by omega)
    refine ⟨L ++ [x], by simp [hl], fun i y hy => ?_⟩
    rcases Nat.lt_or_ge i n with hi | hi
    · rw [List.getElem?_append_left (by omega)] at hy; exact hp i y hy
    · have hlt := (List.getElem?_eq_some_iff.1 hy).1
      have he : i = n := by simp [hl] at hlt; omega
      subst he
      rw [List.getElem?_append_right (by omega), hl] at hy
      simp at hy
      rw [← hy]; exact hx
section
variable {H : Type} {enc : TypeId × Value → H} {w : World} {t : TypeId} {cs : List Value}
theorem Rd.int {k : IntKind} (ht : Try.prog.underlying t = some (.int k)) (h : Rd enc w t cs) : ∃ n, cs = [.int k n] ∧ (Lit.int k n).wf = true := by
  obtain ⟨fuel, x, h⟩ := h
  obtain ⟨n, e, _, hw⟩ := DataW.trod_int ht h
  exact ⟨n, e, hw⟩
theorem Rd.bool (ht : Try.prog.underlying t = some .bool) (h : Rd enc w t cs) : ∃ b, cs = [.bool b] := by
  obtain ⟨fuel, x, h⟩ := h
  obtain ⟨b, e, _⟩ := DataW.trod_bool ht h
  exact ⟨b, e⟩
theorem Rd.string (ht : Try.prog.underlying t = some .string) (h : Rd enc w t cs) : ∃ s : ByteArray, cs = [.string s] ∧ s.size ≤ maxLen := by
  obtain ⟨fuel, x, h⟩ := h
  obtain ⟨b, e, _, hs⟩ := DataW.trod_string ht h
  exact ⟨b, e, hs⟩
theorem Rd.len {fs : Array Field} (ht : Try.prog.underlying t = some (.struct fs)) (h : Rd enc w t cs) : cs.length = Try.prog.cellsOf t := by
  obtain ⟨fuel, x, h⟩ := h
  obtain ⟨xs, n, _, _, hl, _, _⟩ := DataW.trod_struct ht h
  exact hl
theorem Rd.fld {fs : Array Field} (ht : Try.prog.underlying t = some (.struct fs)) (h : Rd enc w t cs) (i : Nat) (f : Field) (hi : fs[i]? = some f) (cs' : List Value) (hc : (cs.drop f.offset).take (Try.prog.cellsOf f.type) = cs') : Rd enc w f.type cs' := by
  obtain ⟨fuel, x, h⟩ := h
  obtain ⟨xs, n, _, _, _, hlen, hg⟩ := DataW.trod_struct ht h
  have hlt : i < xs.length := by rw [hlen]; exact (Array.getElem?_eq_some_iff.1 hi).1
  exact ⟨n, xs[i], by rw [← hc]; exact (hg i f hi).trans (List.getElem?_eq_getElem hlt)⟩
variable {α : Type} {n : Nat} {f : α → List Value} {hl : ∀ x, (f x).length = n} {h1 : ∀ x, ∀ u ∈ f x, u.oneCell' = true}
theorem Rd.row {e : TypeId} (ht : Try.prog.underlying t = some (.slice e)) (hn : Try.prog.cellsOf e = n) (Q : α → Prop) (hel : ∀ cs, Rd enc w e cs → ∃ x, cs = f x ∧ Q x) (h : Rd enc w t cs) :
    ∃ (A : Option Addr) (L : List α) (cap : Nat), cs = [.slice A L.length cap] ∧ Kd.C (flat n f hl h1) w A L.length L ∧ L.length ≤ cap ∧ ∀ x ∈ L, Q x := by
  obtain ⟨fuel, x, h⟩ := h
  rcases DataW.trod_slice ht h with ⟨rfl, _⟩ | ⟨a, len, cap, elems, rest, m, _, rfl, _, _, hle, hcap, hlen, hget, _⟩
  · exact ⟨none, [], 0, rfl, ⟨rfl, by simp, fun h => absurd h (by simp)⟩, Nat.le_refl _, fun x hx => by simp at hx⟩
  · have hp : ∀ i, i < len → ∃ x, (∀ j u, (f x)[j]? = some u → w.cell? (a.add (i * n + j)) = some u) ∧ Q x := by
      intro i hi
      have hg := hget i hi
      rw [List.getElem?_eq_getElem (by omega), Option.bind_eq_some_iff] at hg
      obtain ⟨cs', hc, ht'⟩ := hg
      obtain ⟨x, rfl, hq⟩ := hel cs' ⟨m, _, ht'⟩
      obtain ⟨_, _, hat⟩ := World.cells?_some hc
      refine ⟨x, fun j u hu => ?_, hq⟩
      have hj : j < n := by have := (List.getElem?_eq_some_iff.1 hu).1; rw [hl] at this; exact this
      rw [hn] at hat
      have := hat j hj
      rw [hu, Addr.add_add] at this
      exact this
    obtain ⟨L, hL, hP⟩ := list_pick _ len hp
    refine ⟨some a, L, cap, by rw [hL], ⟨rfl, by rw [hL]; exact Nat.le_trans hle hcap, fun _ => ⟨a, rfl, fun j p hj => ⟨f p, hl p, rfl, (hP j p hj).1⟩⟩⟩, by rw [hL]; exact hle, fun x hx => ?_⟩
    obtain ⟨i, hi, rfl⟩ := List.getElem_of_mem hx
    exact (hP i _ (List.getElem?_eq_getElem hi)).2
end
end Go.Proofs.Ytkcebmamohimoaa
