/- Facts that lean on some blocks alone: what a row is read as, while other blocks change. -/
import Derived.Test.YtkcebmamohimoaaK
namespace Go.Proofs.Ytkcebmamohimoaa
open Go.RowKit Go.Proofs.YtkcebmamohimoaaW.PrintWords
set_option linter.unusedVariables false
set_option linter.unusedSimpArgs false
/-- P holds of W, and of every world that has W's blocks of which ok speaks. -/
def Ft (ok : Nat → Prop) (W : World) (P : World → Prop) : Prop := ∀ W' : World, (∀ k, ok k → k < W.heap.size → W'.heap[k]? = W.heap[k]?) → P W'
theorem bl_setr {a w : World} {g j : Nat} {u : Value} (hg : a.heap.size ≤ g) (h : Below a.heap.size a w) : Below a.heap.size a (w.setCell ⟨g, j, none⟩ u) := h.setCell hg u
theorem R_frz {α : Type} {d : Kd α} {e base g n c : Nat} {ok : Nat → Prop} {W : World} {xs : List α} (h : Kd.R d e W base ok (.slice (some ⟨g, 0, none⟩) n c) xs) : ∀ W' j, Below W.heap.size W W' → W'.frozen? ⟨g, j, none⟩ = false := by
  obtain ⟨cg, hcg⟩ := Kd.R_typed h g rfl
  exact blk_frz hcg
/-- A goal that the walk leaves alone. -/
structure Stop (p : Prop) : Prop where mk :: (go : p)
section
variable {ok ok' : Nat → Prop} {W W1 : World} {P : World → Prop}
theorem Ft.self (h : Ft ok W P) : P W := h W (fun _ _ _ => rfl)
theorem Ft.mono (h : Ft ok W P) (hm : ∀ k, ok k → k < W.heap.size → ok' k) : Ft ok' W P := fun W' hW => h W' (fun k hk hl => hW k (hm k hk hl) hl)
theorem Ft.step (h : Ft ok W P) (hm : ∀ k, ok k → k < W.heap.size → W1.heap[k]? = W.heap[k]?) : Ft ok W1 P := fun W' hW => h W' (fun k hk hl => by
  have e := hm k hk hl
  have : k < W1.heap.size := by
    rcases Nat.lt_or_ge k W1.heap.size with h' | h'
    · exact h'
    · rw [Array.getElem?_eq_none h', Array.getElem?_eq_getElem hl] at e; cases e
  exact (hW k hk this).trans e)
theorem Ft.below (h : Ft ok W P) (hb : Below W.heap.size W W1) : Ft ok W1 P := h.step (fun k _ hl => hb.block k hl)
theorem Ft.belowB {B : Nat} (h : Ft ok W P) (hb : Below B W W1) (hok : ∀ k, ok k → k < W.heap.size → k < B) : Ft ok W1 P := h.step (fun k hk hl => hb.block k (hok k hk hl))
theorem Ft.set (h : Ft ok W P) {g j : Nat} {u : Value} (hg : ¬ ok g) : Ft ok (W.setCell ⟨g, j, none⟩ u) P := h.step (fun k hk _ => Below.heap_setCell W ⟨g, j, none⟩ u k (fun e => hg (by have e' : k = g := e; rw [← e']; exact hk)))
theorem Ft.grown {b : Nat} (h : Ft ok W P) (hg : W.grownBy W1 (some b)) (hb : ¬ ok b) : Ft ok W1 P := h.step (fun k hk hl => hg.block k hl (fun e => hb (by injection e with e; rw [← e]; exact hk)))
theorem Ft.drew (h : Ft ok W P) : Ft ok W.drew P := h
theorem Ft.imp {Q : World → Prop} (h : Ft ok W P) (hq : ∀ W, P W → Q W) : Ft ok W Q := fun W' hW => hq _ (h W' hW)
/-- Below some number of blocks. -/
theorem Ft.cut (h : Ft ok W P) : Ft (fun k => ok k ∧ k < W.heap.size) W P := h.mono (fun _ hk hl => ⟨hk, hl⟩)
end
section
variable {α : Type} {n : Nat} {f : α → List Value} {hl : ∀ x, (f x).length = n} {h1 : ∀ x, ∀ u ∈ f x, u.oneCell' = true}
/-- A flat row that is read leans on blocks that are there. -/
theorem C_ft {w : World} {A : Option Addr} {m : Nat} {xs : List α} (h : Kd.C (flat n f hl h1) w A m xs) : Ft (fun _ => True) w (fun W => Kd.C (flat n f hl h1) W A m xs) := fun W' hW =>
  ⟨h.1, h.2.1, fun hn => by
    obtain ⟨ad, e, hc⟩ := h.2.2 hn
    refine ⟨ad, e, fun j p hj => ?_⟩
    obtain ⟨c, hs, hr, hcell⟩ := hc j p hj
    refine ⟨c, hs, hr, fun i u hu => ?_⟩
    have := hcell i u hu
    rw [World.cell?_of_block (w := w) (hW _ trivial (World.block_lt_of_cell? w _ this))]
    exact this⟩
/-- An own row, as one that is read: it leans on its own block. -/
theorem R_ft {e base : Nat} {ok : Nat → Prop} {W : World} {A : Option Addr} {m c : Nat} {xs : List α} (h : Kd.R (flat n f hl h1) e W base ok (.slice A m c) xs) : Ft (fun k => base ≤ k) W (fun W => Kd.C (flat n f hl h1) W A xs.length xs) := fun W' hW => by
  have h' : Kd.R (flat n f hl h1) e W' base (fun k => base ≤ k ∧ k < W.heap.size) (.slice A m c) xs := Kd.R_move (Kd.R_mono (Kd.R_bound h) (fun k hk => ⟨hk.2.1, hk.2.2.1⟩)) (fun k hk => hW k hk.1 hk.2)
  exact (Kd.R_reads' h').2.2
end
section
variable {α : Type} {n : Nat} {f : α → List Value} {hl : ∀ x, (f x).length = n} {h1 : ∀ x, ∀ u ∈ f x, u.oneCell' = true}
/-- A block known whole, read as one element. -/
theorem C_one {W : World} {g : Nat} {t : TypeId} (x : α) (h : W.heap[g]? = some (.cells (f x).toArray t (0, 0))) : Kd.C (flat n f hl h1) W (some ⟨g, 0, none⟩) 1 [x] :=
  ⟨rfl, by omega, fun _ => ⟨_, rfl, fun j p hj => by
    have hj0 : j = 0 := by have := (List.getElem?_eq_some_iff.1 hj).1; simpa using this
    subst hj0
    have hp : x = p := by simpa using hj
    subst hp
    refine ⟨f x, hl x, rfl, fun i u hu => ?_⟩
    rw [Addr.add_lit, Nat.zero_add, Nat.zero_mul, Nat.zero_add, blk_cell h]
    simpa using hu⟩⟩
variable {P : Program} {ops : Array Oper} {rest : List Oper} {o : Oper} {a : Act} {Q : Exit → Act → World → Prop}
/-- append of a row that is read to an own one, in a region that draws. -/
theorem flat_app_step {Kc : Act → World → Prop} {w0 W : World} (base : Nat) (hgd : o.guard = none) (s x : Operand) (t e : TypeId) (z : Value) (bytes : Nat)
    (ho : o.op = .call { callee := .builtin .append, args := #[s, x], argTypes := #[t, t] })
    (ht : P.underlying t = some (.slice e)) (hinfo : (P.info? e).map (fun i => (i.zero, i.size, i.bytes)) = some (some z, n, bytes)) (hz : z.cells.size = n) (hs0 : 0 < n) (hb0 : 0 < bytes)
    (v : Value) (xs ys : List α) (A : Option Addr) (m c : Nat) (hs : a.eval s = v) (hx : a.eval x = .slice A m c) (hm : 0 < m)
    (HO : Kd.R (flat n f hl h1) e W base (fun _ => True) v xs) (HR : Kd.C (flat n f hl h1) W A m ys) (HB : Below base w0 W) (hbase : base ≤ W.heap.size) (hlim : (xs.length + m) * bytes ≤ 140737488355328)
    (h : ∀ g cap w1, Kd.R (flat n f hl h1) e w1 base (fun _ => True) (.slice (some ⟨g, 0, none⟩) (xs.length + m) cap) (xs ++ ys) → Below base w0 w1 → base ≤ g → (v.ownBlock = some g ∨ W.heap.size ≤ g) → W.grownBy w1 v.ownBlock → g < w1.heap.size → Kc (a.put o.dst (.slice (some ⟨g, 0, none⟩) (xs.length + m) cap)) w1) :
    if Region.wanted o (yielded ops a.tmps) = true then Oper.wp P o a W Kc Q else Kc (a.put o.dst undef) W := by
  have hw : Region.wanted o (yielded ops a.tmps) = true := by simp [Region.wanted, hgd]
  refine Kd.R_append_rows_step (flat n f hl h1) (w0 := w0) base hw s x t e z bytes ho ht hinfo hz hs0 hb0 v xs ys A m c (fun _ => True) (fun _ => False) hs hx HO HR (fun _ _ h => h) (fun _ h => h.elim) (fun _ _ => trivial) HB hbase hlim ?_
  intro v1 w1 hR hb hg hat
  have hlen : (xs ++ ys).length = xs.length + m := by rw [List.length_append, HR.1]
  obtain ⟨g, cap, rfl, hge, hlt, _⟩ := Kd.R_form hR (by omega)
  rw [hlen] at hR ⊢
  refine h g cap w1 hR hb hge ?_ hg hlt
  rcases hat with hat | ⟨b, hb', hle⟩
  · exact .inl hat.symm
  · have : g = b := by simpa [Value.ownBlock] using hb'
    exact .inr (by omega)
/-- The same in a plain region. -/
theorem flat_app {w0 W : World} (base : Nat) (hgd : o.guard = none) (s x : Operand) (t e : TypeId) (z : Value) (bytes : Nat)
    (ho : o.op = .call { callee := .builtin .append, args := #[s, x], argTypes := #[t, t] })
    (ht : P.underlying t = some (.slice e)) (hinfo : (P.info? e).map (fun i => (i.zero, i.size, i.bytes)) = some (some z, n, bytes)) (hz : z.cells.size = n) (hs0 : 0 < n) (hb0 : 0 < bytes)
    (v : Value) (xs ys : List α) (A : Option Addr) (m c : Nat) (hs : a.eval s = v) (hx : a.eval x = .slice A m c) (hm : 0 < m)
    (HO : Kd.R (flat n f hl h1) e W base (fun _ => True) v xs) (HR : Kd.C (flat n f hl h1) W A m ys) (HB : Below base w0 W) (hbase : base ≤ W.heap.size) (hlim : (xs.length + m) * bytes ≤ 140737488355328)
    (h : ∀ g cap w1, Kd.R (flat n f hl h1) e w1 base (fun _ => True) (.slice (some ⟨g, 0, none⟩) (xs.length + m) cap) (xs ++ ys) → Below base w0 w1 → base ≤ g → (v.ownBlock = some g ∨ W.heap.size ≤ g) → W.grownBy w1 v.ownBlock → g < w1.heap.size → wpList P ops Q rest (a.put o.dst (.slice (some ⟨g, 0, none⟩) (xs.length + m) cap)) w1) :
    wpList P ops Q (o :: rest) a W := by
  refine Kd.R_append_rows (flat n f hl h1) (w0 := w0) base hgd s x t e z bytes ho ht hinfo hz hs0 hb0 v xs ys A m c (fun _ => True) (fun _ => False) hs hx HO HR (fun _ _ h => h) (fun _ h => h.elim) (fun _ _ => trivial) HB hbase hlim ?_
  intro v1 w1 hR hb hg hat
  have hlen : (xs ++ ys).length = xs.length + m := by rw [List.length_append, HR.1]
  obtain ⟨g, cap, rfl, hge, hlt, _⟩ := Kd.R_form hR (by omega)
  rw [hlen] at hR ⊢
  refine h g cap w1 hR hb hge ?_ hg hlt
  rcases hat with hat | ⟨b, hb', hle⟩
  · exact .inl hat.symm
  · have : g = b := by simpa [Value.ownBlock] using hb'
    exact .inr (by omega)
/-- An empty slice literal. -/
theorem lit0 (d : Kd α) {w0 W : World} (base e : Nat) (hgd : o.guard = none)
    (hrun : (execOp a.eval o).run P W = .ok (.value (.slice (some ⟨W.heap.size, 0, none⟩) 0 0)) (W.alloc (.cells #[] e)))
    (HB : Below base w0 W) (hbase : base ≤ W.heap.size)
    (h : ∀ g w1, Kd.R d e w1 base (fun _ => True) (.slice (some ⟨g, 0, none⟩) 0 0) [] → g = W.heap.size → Below base w0 w1 → Below W.heap.size W w1 → wpList P ops Q rest (a.put o.dst (.slice (some ⟨g, 0, none⟩) 0 0)) w1) : wpList P ops Q (o :: rest) a W := by
  refine Kd.event_run hgd hrun (h _ _ ⟨fun _ _ => trivial, [], ?_, Reps.none _ _⟩ rfl (HB.alloc hbase _) ((Below.refl _ W).alloc (Nat.le_refl _) _))
  exact ⟨by simp, .inr ⟨W.heap.size, 0, #[], rfl, hbase, blk_new W _, Nat.le_refl _, Nat.zero_le _, by simp, by simp⟩⟩
/-- append of a row that is read (empty, too) to an own one. -/
theorem flat_app0 {w0 W : World} (base : Nat) (hgd : o.guard = none) (s x : Operand) (t e : TypeId) (z : Value) (bytes : Nat)
    (ho : o.op = .call { callee := .builtin .append, args := #[s, x], argTypes := #[t, t] })
    (ht : P.underlying t = some (.slice e)) (hinfo : (P.info? e).map (fun i => (i.zero, i.size, i.bytes)) = some (some z, n, bytes)) (hz : z.cells.size = n) (hs0 : 0 < n) (hb0 : 0 < bytes)
    (v : Value) (xs ys : List α) (A : Option Addr) (m c : Nat) (hs : a.eval s = v) (hx : a.eval x = .slice A m c)
    (HO : Kd.R (flat n f hl h1) e W base (fun _ => True) v xs) (HR : Kd.C (flat n f hl h1) W A m ys) (HB : Below base w0 W) (hbase : base ≤ W.heap.size) (hlim : (xs.length + m) * bytes ≤ 140737488355328)
    (h : ∀ v1 w1, Kd.R (flat n f hl h1) e w1 base (fun _ => True) v1 (xs ++ ys) → Below base w0 w1 → (∀ k, v1.ownBlock = some k → v.ownBlock = some k ∨ W.heap.size ≤ k) → W.grownBy w1 v.ownBlock → wpList P ops Q rest (a.put o.dst v1) w1) :
    wpList P ops Q (o :: rest) a W := by
  refine Kd.R_append_rows (flat n f hl h1) (w0 := w0) base hgd s x t e z bytes ho ht hinfo hz hs0 hb0 v xs ys A m c (fun _ => True) (fun _ => False) hs hx HO HR (fun _ _ h => h) (fun _ h => h.elim) (fun _ _ => trivial) HB hbase hlim ?_
  intro v1 w1 hR hb hg hat
  refine h v1 w1 hR hb (fun k hk => ?_) hg
  rcases hat with hat | ⟨b, hb', hle⟩
  · exact .inl (by rw [← hat]; exact hk)
  · rw [hk] at hb'; injection hb' with hb'; exact .inr (by omega)
end
end Go.Proofs.Ytkcebmamohimoaa
