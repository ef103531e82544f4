/- The words of this seat's proofs: the kinds of the program's records as plain Lean structures, and small lemmas on worlds. -/
import Derived.Test.YtkcebmamohimoaaProg
import Derived.Test.YtkcebmamohimoaaWWords
import Derived.Lib.Hide
import Derived.Lib.SliceRun
import Derived.Shelf.Abstract
namespace Go.Proofs.Ytkcebmamohimoaa
open Go.RowKit Go.Proofs.YtkcebmamohimoaaW.PrintWords
set_option linter.unusedVariables false
set_option linter.unusedSimpArgs false

/-- api.Session (type 78). -/
structure Ses where
  id : Int
  seq : Int
  busy : Bool
  last : ByteArray
  txn : Int
  conn : Int
instance : Inhabited Ses := ⟨⟨0, 0, false, ⟨#[]⟩, 0, 0⟩⟩
def Ses.cells (x : Ses) : List Value := [.int .i64 x.id, .int .i64 x.seq, .bool x.busy, .string x.last, .int .i64 x.txn, .int .i64 x.conn]
/-- api.Alarm (type 175). -/
structure Alm where
  due : Int
  id : Int
instance : Inhabited Alm := ⟨⟨0, 0⟩⟩
def Alm.cells (x : Alm) : List Value := [.int .u64 x.due, .int .i64 x.id]
/-- api.Pair (type 161). -/
structure Pr where
  key : ByteArray
  val : ByteArray
instance : Inhabited Pr := ⟨⟨⟨#[]⟩, ⟨#[]⟩⟩⟩
def Pr.cells (x : Pr) : List Value := [.string x.key, .string x.val]
/-- api.Write (type 127). -/
structure Wr where
  key : ByteArray
  val : ByteArray
  del : Bool
instance : Inhabited Wr := ⟨⟨⟨#[]⟩, ⟨#[]⟩, false⟩⟩
def Wr.cells (x : Wr) : List Value := [.string x.key, .string x.val, .bool x.del]
/-- api.File (type 110). -/
structure Fl where
  name : ByteArray
  safe : ByteArray
  wait : ByteArray
instance : Inhabited Fl := ⟨⟨⟨#[]⟩, ⟨#[]⟩, ⟨#[]⟩⟩⟩
def Fl.cells (x : Fl) : List Value := [.string x.name, .string x.safe, .string x.wait]

/-- A kind whose elements are n flat cells. -/
def flat {α : Type} (n : Nat) (f : α → List Value) (hl : ∀ x, (f x).length = n) (h1 : ∀ x, ∀ u ∈ f x, u.oneCell' = true) : Kd α where
  sz := n
  E := []
  K := fun _ x cs => cs = f x
  M := fun _ _ _ x cs => cs = f x
  K_len := fun h => by rw [h]; exact hl _
  K_one := fun h u hu => by rw [h] at hu; exact h1 _ u hu
  K_below := fun _ h => h
  K_of_M := fun h => h
  M_mono := fun _ h => h
  M_bound := fun h => h
  M_move := fun _ h => h
  M_lower := fun _ h => h

def kSes : Kd Ses := flat 6 Ses.cells (fun _ => rfl) (fun x u hu => by simp [Ses.cells] at hu; rcases hu with rfl | rfl | rfl | rfl | rfl | rfl <;> rfl)
def kAlm : Kd Alm := flat 2 Alm.cells (fun _ => rfl) (fun x u hu => by simp [Alm.cells] at hu; rcases hu with rfl | rfl <;> rfl)
def kPr : Kd Pr := flat 2 Pr.cells (fun _ => rfl) (fun x u hu => by simp [Pr.cells] at hu; rcases hu with rfl | rfl <;> rfl)
def kWr : Kd Wr := flat 3 Wr.cells (fun _ => rfl) (fun x u hu => by simp [Wr.cells] at hu; rcases hu with rfl | rfl | rfl <;> rfl)
def kFl : Kd Fl := flat 3 Fl.cells (fun _ => rfl) (fun x u hu => by simp [Fl.cells] at hu; rcases hu with rfl | rfl | rfl <;> rfl)

theorem info78 : (Try.prog.info? 78).map (fun i => (i.zero, i.size, i.bytes)) = some (some (.agg #[(.int .i64 0), (.int .i64 0), (.bool false), (.string ⟨#[]⟩), (.int .i64 0), (.int .i64 0)]), 6, 56) := by kernel_rfl
theorem info175 : (Try.prog.info? 175).map (fun i => (i.zero, i.size, i.bytes)) = some (some (.agg #[(.int .u64 0), (.int .i64 0)]), 2, 16) := by kernel_rfl
theorem info161 : (Try.prog.info? 161).map (fun i => (i.zero, i.size, i.bytes)) = some (some (.agg #[(.string ⟨#[]⟩), (.string ⟨#[]⟩)]), 2, 32) := by kernel_rfl
theorem info127 : (Try.prog.info? 127).map (fun i => (i.zero, i.size, i.bytes)) = some (some (.agg #[(.string ⟨#[]⟩), (.string ⟨#[]⟩), (.bool false)]), 3, 40) := by kernel_rfl
theorem info110 : (Try.prog.info? 110).map (fun i => (i.zero, i.size, i.bytes)) = some (some (.agg #[(.string ⟨#[]⟩), (.string ⟨#[]⟩), (.string ⟨#[]⟩)]), 3, 48) := by kernel_rfl

section
variable {α : Type} [Inhabited α] {n : Nat} {f : α → List Value} {hl : ∀ x, (f x).length = n} {h1 : ∀ x, ∀ u ∈ f x, u.oneCell' = true}
/-- An element's cells, where they lie. -/
theorem flat_get {w : World} {A : Option Addr} {m : Nat} {xs : List α} (h : Kd.C (flat n f hl h1) w A m xs) (k : Nat) (hk : k < m) :
    ∃ ad, A = some ad ∧ ∀ j u, (f xs[k]!)[j]? = some u → w.cell? (ad.add (k * n + j)) = some u := by
  obtain ⟨ad, e, hc⟩ := h.2.2 (by omega)
  have hl' : k < xs.length := by rw [h.1]; exact hk
  obtain ⟨c, hs, hr, hcell⟩ := hc k _ (List.getElem?_eq_getElem hl')
  refine ⟨ad, e, fun j u hu => ?_⟩
  refine hcell j u ?_
  have hr' : c = f xs[k] := hr
  rw [hr', ← getElem!_pos xs k hl']
  exact hu
end
section
variable {α : Type} [Inhabited α] {n : Nat} {f : α → List Value} {hl : ∀ x, (f x).length = n} {h1 : ∀ x, ∀ u ∈ f x, u.oneCell' = true} {e base g c : Nat} {ok : Nat → Prop} {W : World} {L : List α} {m : Nat}
/-- An own row's element: its cells, which may be written. -/
theorem flat_own (h : Kd.R (flat n f hl h1) e W base ok (.slice (some ⟨g, 0, none⟩) m c) L) (k : Nat) (hk : k < L.length) :
    (∀ j u, (f L[k]!)[j]? = some u → W.cell? ⟨g, k * n + j, none⟩ = some u) ∧ ∀ j, W.frozen? ⟨g, k * n + j, none⟩ = false := by
  obtain ⟨hn, _, _⟩ := Kd.R_reads' h
  obtain ⟨cs, hcl, hM, hc, hf⟩ := Kd.R_elem h default (k : Int) (by omega) (by omega)
  rw [Int.toNat_natCast] at hM hc hf
  have e : cs = f L[k]! := by
    have : cs = f (L.getD k default) := hM
    rw [this, getElem!_pos L k hk, List.getD_eq_getElem?_getD, List.getElem?_eq_getElem hk]; rfl
  exact ⟨fun j u hu => hc j u (by rw [e]; exact hu), hf⟩
/-- One cell of an own row's element is written. -/
theorem flat_put1 (h : Kd.R (flat n f hl h1) e W base ok (.slice (some ⟨g, 0, none⟩) m c) L) (k : Nat) (hk : k < L.length) (j : Nat) (hj : j < n) (u : Value) (y : α) (hy : f y = (f L[k]!).set j u) :
    Kd.R (flat n f hl h1) e (W.setCell ⟨g, k * n + j, none⟩ u) base ok (.slice (some ⟨g, 0, none⟩) m c) (L.set k y) ∧ W.grownBy (W.setCell ⟨g, k * n + j, none⟩ u) (some g) := by
  obtain ⟨hn, _, _⟩ := Kd.R_reads' h
  obtain ⟨hc, hf⟩ := flat_own h k hk
  have hs := Kd.R_seg (okp := fun _ => False) h (k : Int) (by omega) (by omega) (c := f L[k]!) (seg := [u]) (j := j) (hl _) (by rw [Int.toNat_natCast]; exact hc) (show j + 1 ≤ n by omega) (x' := y) (by
    show (f L[k]!).take j ++ [u] ++ (f L[k]!).drop (j + [u].length) = f y
    rw [hy, List.set_eq_take_append_cons_drop, if_pos (by rw [hl]; exact hj)]
    simp) (fun _ h => h.elim)
  rw [Int.toNat_natCast] at hs
  exact hs
/-- The same behind an elder write of that element. -/
theorem flat_putm {W0 : World} {y : α} {k : Nat} (h : Kd.R (flat n f hl h1) e W base ok (.slice (some ⟨g, 0, none⟩) m c) (L.set k y) ∧ W0.grownBy W (some g)) (hk : k < L.length) (j : Nat) (hj : j < n) (u : Value) (z : α) (hz : f z = (f y).set j u) :
    Kd.R (flat n f hl h1) e (W.setCell ⟨g, k * n + j, none⟩ u) base ok (.slice (some ⟨g, 0, none⟩) m c) (L.set k z) ∧ W0.grownBy (W.setCell ⟨g, k * n + j, none⟩ u) (some g) := by
  have e1 : (L.set k y)[k]! = y := by rw [getElem!_pos _ k (by simpa using hk)]; simp
  obtain ⟨a, b⟩ := flat_put1 h.1 k (by simpa using hk) j hj u z (by rw [e1]; exact hz)
  rw [List.set_set] at a
  exact ⟨a, ⟨b.os.trans h.2.os, b.tape.trans h.2.tape, b.output.trans h.2.output, Nat.le_trans h.2.size b.size, fun i hi hne => (b.block i (Nat.lt_of_lt_of_le hi h.2.size) hne).trans (h.2.block i hi hne)⟩⟩
omit [Inhabited α] in
theorem flat_drew {W0 : World} {v : Value} {g : Nat} (h : Kd.R (flat n f hl h1) e W base ok v L ∧ W0.grownBy W (some g)) : Kd.R (flat n f hl h1) e W.drew base ok v L ∧ W0.grownBy W.drew (some g) :=
  ⟨Kd.R_drew h.1, ⟨h.2.os, h.2.tape, h.2.output, h.2.size, h.2.block⟩⟩
end
/-- Old cells and marks read as before. -/
theorem bcell {W w1 : World} (hb : Below W.heap.size W w1) : (∀ b o, b < W.heap.size → w1.cell? ⟨b, o, none⟩ = W.cell? ⟨b, o, none⟩) ∧ (∀ b o, b < W.heap.size → w1.frozen? ⟨b, o, none⟩ = W.frozen? ⟨b, o, none⟩) :=
  ⟨fun b o h => hb.cell (p := ⟨b, o, none⟩) h, fun b o h => hb.frozen (p := ⟨b, o, none⟩) h⟩
section
variable {P : Program} {ops : Array Oper} {rest : List Oper} {o : Oper} {a : Act} {Q : Exit → Act → World → Prop} {W : World}
/-- At a call of function f. -/
theorem g_fn {f : FuncId} {ys : Array Operand} {ts : Array TypeId} (_ho : o.op = .call { callee := .value (.func f), args := ys, argTypes := ts }) (h : wpList P ops Q (o :: rest) a W) : wpList P ops Q (o :: rest) a W := h
/-- At a call of builtin b on these operands. -/
theorem g_bi {b : Builtin} {xs : Array Operand} {ts : Array TypeId} (_ho : o.op = .call { callee := .builtin b, args := xs, argTypes := ts }) (h : wpList P ops Q (o :: rest) a W) : wpList P ops Q (o :: rest) a W := h
end
theorem slice_eqnil (t e : TypeId) (hu : Try.prog.underlying t = some (.slice e)) : ∀ (w : World) (a : Option Addr) (n c n' c' : Nat), (binOp .eql t (.slice a n c) (.slice none n' c')).run Try.prog w = .ok (.bool a.isNone) w := fun w a n c n' c' => Lib.run_eql_slice_nil w _ _ a n c n' c' hu
theorem C_none {α : Type} {d : Kd α} {w : World} {L : List α} (h : Kd.C d w none L.length L) : L = [] := by
  cases L with
  | nil => rfl
  | cons x t => obtain ⟨ad, e, _⟩ := h.2.2 (by simp); cases e
/-- What is asked of a predicate that is handed over: it answers p, and makes memory alone. -/
def PredB {α : Type} (g : Nat) (lb : Array Value) (f : α → List Value) (p : α → Bool) (w : World) : Prop :=
  ∀ x W, Below w.heap.size w W → Calls Try.prog g (#[.agg (f x).toArray] ++ lb) W fun e W' => e = .returned (.bool (p x)) ∧ Below W.heap.size W W'
/-- The first place at which p holds; -1: none. -/
def fidx {α : Type} (p : α → Bool) (l : List α) : Int := match l.findIdx? p with | some i => i | none => -1
theorem fidx_hit {α : Type} [Inhabited α] (p : α → Bool) (l : List α) (k : Nat) (hk : k < l.length) (hp : p l[k]! = true) (hn : ∀ j, j < k → p l[j]! = false) : fidx p l = (k : Int) := by
  unfold fidx
  have : l.findIdx? p = some k := by
    rw [List.findIdx?_eq_some_iff_getElem]
    refine ⟨hk, by rwa [getElem!_pos l k hk] at hp, fun j hj => ?_⟩
    have := hn j hj
    rw [getElem!_pos l j (by omega)] at this
    simp [this]
  rw [this]
theorem fidx_miss {α : Type} [Inhabited α] (p : α → Bool) (l : List α) (hn : ∀ j, j < l.length → p l[j]! = false) : fidx p l = -1 := by
  unfold fidx
  have : l.findIdx? p = none := by
    rw [List.findIdx?_eq_none_iff]
    intro x hx
    obtain ⟨j, hj, rfl⟩ := List.getElem_of_mem hx
    have := hn j hj
    rwa [getElem!_pos l j hj] at this
  rw [this]
theorem fidx_lt {α : Type} (p : α → Bool) (l : List α) : fidx p l < l.length := by
  unfold fidx
  cases h : l.findIdx? p with
  | none => simp only []; omega
  | some i =>
    obtain ⟨hi, _⟩ := List.findIdx?_eq_some_iff_getElem.1 h
    simp only []; omega
theorem fidx_any {α : Type} (p : α → Bool) (l : List α) : l.any p = true ↔ 0 ≤ fidx p l := by
  unfold fidx
  cases h : l.findIdx? p with
  | none =>
    rw [List.findIdx?_eq_none_iff] at h
    simp only [List.any_eq_true]
    constructor
    · rintro ⟨x, hx, hp⟩; rw [h x hx] at hp; cases hp
    · intro h; omega
  | some i =>
    obtain ⟨hi, hp, _⟩ := List.findIdx?_eq_some_iff_getElem.1 h
    simp only [List.any_eq_true]
    exact ⟨fun _ => by omega, fun _ => ⟨_, List.getElem_mem hi, hp⟩⟩
theorem R_farB {α : Type} {d : Kd α} {e base : Nat} {ok : Nat → Prop} {W : World} {v : Value} {xs : List α} (h : Kd.R d e W base ok v xs) {g : Nat} (hg : g < base) (j : Nat) (u : Value) : Kd.R d e (W.setCell ⟨g, j, none⟩ u) base ok v xs :=
  Kd.R_mono (Kd.R_far (p := ⟨g, j, none⟩) (Kd.R_bound h) (fun k hk => by have := hk.2.1; show k ≠ g; omega) u) (fun _ hk => hk.1)
theorem boxes1 (w : World) (c1 : Array Value) (t1 : TypeId) : ∃ W, w.alloc (.cells c1 t1) = W ∧ W.heap[w.heap.size]? = some (.cells c1 t1 (0, 0)) ∧ Below w.heap.size w W ∧ W.heap.size = w.heap.size + 1 :=
  ⟨_, rfl, blk_new w _, (Below.refl _ w).alloc (Nat.le_refl _) _, by simp⟩
theorem boxes2 (w : World) (c1 : Array Value) (t1 : TypeId) (c2 : Array Value) (t2 : TypeId) : ∃ W, (w.alloc (.cells c1 t1)).alloc (.cells c2 t2) = W ∧ W.heap[w.heap.size]? = some (.cells c1 t1 (0, 0)) ∧ W.heap[w.heap.size + 1]? = some (.cells c2 t2 (0, 0)) ∧ Below w.heap.size w W ∧ W.heap.size = w.heap.size + 2 :=
  ⟨_, rfl, blk_alloc (blk_new w _) _, by have := blk_new (w.alloc (.cells c1 t1)) (.cells c2 t2); rwa [show (w.alloc (.cells c1 t1)).heap.size = w.heap.size + 1 from by simp] at this, ((Below.refl _ w).alloc (Nat.le_refl _) _).alloc (by simp) _, by simp⟩
theorem boxes3 (w : World) (c1 : Array Value) (t1 : TypeId) (c2 : Array Value) (t2 : TypeId) (c3 : Array Value) (t3 : TypeId) : ∃ W, ((w.alloc (.cells c1 t1)).alloc (.cells c2 t2)).alloc (.cells c3 t3) = W ∧ W.heap[w.heap.size]? = some (.cells c1 t1 (0, 0)) ∧ W.heap[w.heap.size + 1]? = some (.cells c2 t2 (0, 0)) ∧ W.heap[w.heap.size + 2]? = some (.cells c3 t3 (0, 0)) ∧ Below w.heap.size w W ∧ W.heap.size = w.heap.size + 3 := by
  obtain ⟨W, e, k1, k2, hb, hs⟩ := boxes2 w c1 t1 c2 t2
  have k3 := blk_new W (.cells c3 t3)
  rw [hs] at k3
  exact ⟨_, rfl, by rw [e]; exact blk_alloc k1 _, by rw [e]; exact blk_alloc k2 _, by rw [e]; exact k3, by rw [e]; exact hb.alloc hb.size _, by rw [e]; simp [hs]⟩
/-! Rules by which the walk's simp sees that a world lies behind another one. -/
theorem bl_refl (w : World) : Below w.heap.size w w := Below.refl _ _
theorem bl_alloc {a w : World} (o : Obj) (h : Below a.heap.size a w) : Below a.heap.size a (w.alloc o) := h.alloc h.size o
theorem bl_drew {a w : World} (h : Below a.heap.size a w) : Below a.heap.size a w.drew := h.drew
theorem bl_drewN {a w : World} (n : Nat) (h : Below a.heap.size a w) : Below a.heap.size a (w.drewN n) := pw_below_drewN h n
theorem bl_set {B : Nat} {a w : World} {g j : Nat} {u : Value} (h : Below B a w) (hg : B ≤ g) : Below B a (w.setCell ⟨g, j, none⟩ u) := h.setCell hg u
theorem bl_grown {B b : Nat} {a w w' : World} (h : Below B a w) (hg : w.grownBy w' (some b)) (hb : B ≤ b) (hB : B ≤ w.heap.size) : Below B a w' := h.grown hg hB (fun k e => by injection e with e; omega)
theorem bl_trans {a w w1 : World} (h : Below a.heap.size a w) (h1 : Below w.heap.size w w1) : Below a.heap.size a w1 := h.trans (h1.mono h.size)
/-- A cell that was there is there in every world behind. -/
theorem cell_rule {w : World} {a : Addr} {v : Value} (h : w.cell? a = some v) : ∀ W', Below w.heap.size w W' → W'.cell? a = some v := fun _ hb => pw_cell_below hb h
/-- A block of cells that was there is there in every world behind. -/
theorem blk_rule {w : World} {g : Nat} {t : TypeId} {cs : Array Value} (h : w.heap[g]? = some (.cells cs t (0, 0))) : ∀ W', Below w.heap.size w W' → W'.heap[g]? = some (.cells cs t (0, 0)) := fun _ hb => blk_below h hb
theorem blk_cells {w : World} {g : Nat} {t : TypeId} {cs : Array Value} (h : w.heap[g]? = some (.cells cs t (0, 0))) : ∀ W' j, Below w.heap.size w W' → W'.cell? ⟨g, j, none⟩ = cs[j]? := fun _ j hb => blk_cell (blk_below h hb) j
theorem blk_frz {w : World} {g : Nat} {t : TypeId} {cs : Array Value} (h : w.heap[g]? = some (.cells cs t (0, 0))) : ∀ W' j, Below w.heap.size w W' → W'.frozen? ⟨g, j, none⟩ = false := fun _ j hb => blk_frozen (blk_below h hb) j
theorem cell_alloc {w : World} {a : Addr} {v : Value} (h : w.cell? a = some v) (o : Obj) : (w.alloc o).cell? a = some v := pw_cell_below ((Below.refl _ w).alloc (Nat.le_refl _) o) h
theorem cell_blw {w w1 : World} {a : Addr} {v : Value} (hb : Below w.heap.size w w1) (h : w.cell? a = some v) : w1.cell? a = some v := pw_cell_below hb h
end Go.Proofs.Ytkcebmamohimoaa
