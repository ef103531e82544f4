/- Pairs in the order of their keys: the program's table: slices.Insert, at, Find, Put, Drop, Apply. -/
import Derived.Test.YtkcebmamohimoaaK2
import Derived.Laws.CopyRow
import Derived.Lib.AppendZerosOnto
import Derived.Lib.Overlaps
import Derived.Shelf.Spec.SlicesInsertGrow
import Derived.Deep.RegionLaw
import Derived.Test.YtkcebmamohimoaaS1
import Derived.Test.YtkcebmamohimoaaB1
import Derived.Test.YtkcebmamohimoaaF1
import Derived.OwnWalk
namespace Go.Proofs.Ytkcebmamohimoaa
open Go.RowKit Go.Proofs.YtkcebmamohimoaaW.PrintWords
set_option linter.unusedVariables false
set_option linter.unusedSimpArgs false
theorem reps_flat {α : Type} {n : Nat} {f : α → List Value} (hl : ∀ x, (f x).length = n) : ∀ (L : List α) (cs : List Value), Reps (fun x c => c = f x) n L cs → cs = L.flatMap f
  | [], cs, h => by
    have := h.1
    rw [List.length_nil, Nat.zero_mul] at this
    rw [List.eq_nil_of_length_eq_zero this]; rfl
  | x :: L, cs, h => by
    have h0 := h.2 0 x rfl
    rw [Nat.zero_mul, List.drop_zero] at h0
    have h1 : Reps (fun x c => c = f x) n L (cs.drop n) := by
      refine ⟨?_, fun j p hj => ?_⟩
      · rw [List.length_drop, h.1, List.length_cons, Nat.add_mul]; omega
      · have := h.2 (j + 1) p (by simpa using hj)
        rw [List.drop_drop]
        rwa [show (j + 1) * n = n + j * n by rw [Nat.add_mul]; omega] at this
    rw [List.flatMap_cons, ← reps_flat hl L _ h1, ← h0, List.take_append_drop]
theorem flat_reps {α : Type} {n : Nat} {f : α → List Value} (hl : ∀ x, (f x).length = n) : ∀ (L : List α), Reps (fun x c => c = f x) n L (L.flatMap f)
  | [] => Reps.none _ _
  | x :: L => by
    have ih := flat_reps hl L
    refine ⟨?_, fun j p hj => ?_⟩
    · rw [List.flatMap_cons, List.length_append, hl, ih.1, List.length_cons, Nat.add_mul]; omega
    · rw [List.flatMap_cons]
      cases j with
      | zero =>
        have e : x = p := by simpa using hj
        subst e
        rw [Nat.zero_mul, List.drop_zero, List.take_left' (hl x)]
      | succ j =>
        have := ih.2 j p (by simpa using hj)
        rw [show (j + 1) * n = n + j * n by rw [Nat.add_mul]; omega, ← List.drop_drop, List.drop_left' (hl x)]
        exact this
theorem flatMap_len {α : Type} {n : Nat} {f : α → List Value} (hl : ∀ x, (f x).length = n) (L : List α) : (L.flatMap f).length = L.length * n := (flat_reps hl L).1
section
variable {α : Type} {n : Nat} {f : α → List Value} {hl : ∀ x, (f x).length = n} {h1 : ∀ x, ∀ u ∈ f x, u.oneCell' = true} {e base g c m : Nat} {ok : Nat → Prop} {W : World} {L : List α}
theorem own_open (h : Kd.R (flat n f hl h1) e W base ok (.slice (some ⟨g, 0, none⟩) m c) L) :
    ∃ tail : List Value, W.heap[g]? = some (.cells (L.flatMap f ++ tail).toArray e (0, 0)) ∧ tail.length = (c - L.length) * n ∧ L.length ≤ c ∧ base ≤ g ∧ m = L.length ∧ c ≤ maxLen ∧ ok g := by
  obtain ⟨h0, inner, ⟨hlen, hown⟩, hr⟩ := h
  rcases hown with ⟨e0, _⟩ | ⟨g', cap, cur, e0, hge, hg, hle, hmax, hsz, htk⟩
  · cases e0
  · injection e0 with e1 e2 e3
    injection e1 with e1
    injection e1 with e1
    subst e1
    subst e3
    have hs : (flat n f hl h1).sz = n := rfl
    rw [hs] at hsz htk hlen hr
    have hin : inner = L.flatMap f := reps_flat hl L inner hr
    refine ⟨cur.toList.drop (L.length * n), ?_, ?_, hle, hge, e2, hmax, h0 g rfl⟩
    · rw [← hin, ← htk, List.take_append_drop]; exact hg
    · rw [List.length_drop, Array.length_toList, hsz, Nat.sub_mul]
theorem own_close (hl : ∀ x, (f x).length = n) (h1 : ∀ x, ∀ u ∈ f x, u.oneCell' = true) (tail : List Value) (hg : W.heap[g]? = some (.cells (L.flatMap f ++ tail).toArray e (0, 0))) (ht : tail.length = (c - L.length) * n) (hc : L.length ≤ c) (hb : base ≤ g) (hm : c ≤ maxLen) (hok : ok g) :
    Kd.R (flat n f hl h1) e W base ok (.slice (some ⟨g, 0, none⟩) L.length c) L := by
  have hfl := flatMap_len hl L
  refine ⟨fun k hk => ?_, L.flatMap f, ⟨hfl, .inr ⟨g, c, _, rfl, hb, hg, hc, hm, ?_, ?_⟩⟩, flat_reps hl L⟩
  · have : g = k := by simpa [Value.ownBlock] using hk
    rw [← this]; exact hok
  · have hs : (flat n f hl h1).sz = n := rfl
    rw [List.size_toArray, List.length_append, hfl, ht, hs, ← Nat.add_mul]
    congr 1; omega
  · have hs : (flat n f hl h1).sz = n := rfl
    rw [hs, ← hfl, List.take_left']
    rfl
end
/-- copy, of elements of n cells, into a block known whole. -/
theorem run_copy_n {P : Program} (w : World) (dT sT ty elem : TypeId) (n k g o dLen dCap : Nat) (a : Addr) (sLen sCap : Nat) (cur : List Value) (t : TypeId) (cs : List Value)
    (hu : P.underlying dT = some (.slice elem)) (hs : (P.info? elem).map (·.size) = some n) (hk : Nat.min sLen dLen = k)
    (hg : w.heap[g]? = some (.cells cur.toArray t (0, 0))) (hn : cs.length = k * n)
    (hsrc : ∀ j v, cs[j]? = some v → w.cell? (a.add j) = some v) (hfit : o + cs.length ≤ cur.length) (h1 : ∀ v ∈ cs, v.oneCell' = true) :
    (Builtin.copy_ #[dT, sT] ty #[.slice (some ⟨g, o, none⟩) dLen dCap, .slice (some a) sLen sCap]).run P w =
      .ok (goInt k) (w.setRow g (cur.take o ++ cs ++ cur.drop (o + cs.length)).toArray) := by
  have hl := run_loadCells_list (P := P) w a cs hsrc
  have hst := run_storeCells_at P g o t cs 0 cur.toArray w hg (by simpa using hfit) h1
  simp only [Nat.add_zero] at hst
  rw [hn] at hl
  cases hq : P.info? elem with
  | none => simp [hq] at hs
  | some i =>
    have hi : i.size = n := by simpa [hq] using hs
    simp only [Builtin.copy_, run_underlying hu, Builtin.lenOf, Builtin.firstCells, sizeOf, typeInfo, hq, hi, hk, Sem.run_bind, Sem.run_pure, Result.andThen_ok, List.getElem?_toArray]
    simp [run_underlying hu, hq, hi, hk, hl, hst, sizeOf, typeInfo, Builtin.firstCells]
theorem splice_shift {α : Type} (X1 X2 T Y : List α) (k : Nat) (hY : Y.length = k) (hT : k ≤ T.length) (c1 : List α)
    (h1 : c1 = (X1 ++ X2 ++ T).take (X1.length + k) ++ X2 ++ (X1 ++ X2 ++ T).drop (X1.length + k + X2.length)) :
    c1.take X1.length ++ Y ++ c1.drop (X1.length + k) = X1 ++ Y ++ X2 ++ T.drop k := by
  have e1 : (X1 ++ X2 ++ T).take (X1.length + k) = X1 ++ (X2 ++ T).take k := by rw [List.append_assoc, List.take_append, List.take_of_length_le (by omega)]; simp
  have e2 : (X1 ++ X2 ++ T).drop (X1.length + k + X2.length) = T.drop k := by
    rw [show X1.length + k + X2.length = (X1 ++ X2).length + k by rw [List.length_append]; omega, List.drop_append]; simp
  have e3 : ((X2 ++ T).take k).length = k := by rw [List.length_take, List.length_append]; omega
  subst h1
  rw [e1, e2]
  rw [show (X1 ++ (X2 ++ T).take k ++ X2 ++ T.drop k).take X1.length = X1 by rw [List.append_assoc, List.append_assoc, List.take_left' rfl]]
  rw [show (X1 ++ (X2 ++ T).take k ++ X2 ++ T.drop k).drop (X1.length + k) = X2 ++ T.drop k by
    rw [List.append_assoc (X1 ++ _)]; exact List.drop_left' (by rw [List.length_append, e3])]
  simp
theorem splice_new {α : Type} (X1 X2 Z Y : List α) (k : Nat) (hY : Y.length = k) (hZ : k + X2.length ≤ Z.length) (c1 : List α)
    (h1 : c1 = (X1 ++ Z).take X1.length ++ Y ++ (X1 ++ Z).drop (X1.length + k)) :
    c1.take (X1.length + k) ++ X2 ++ c1.drop (X1.length + k + X2.length) = X1 ++ Y ++ X2 ++ Z.drop (k + X2.length) := by
  have e1 : c1 = X1 ++ Y ++ Z.drop k := by
    rw [h1, List.take_left' rfl, List.drop_append]
    simp
  have e2 : (X1 ++ Y).length = X1.length + k := by rw [List.length_append, hY]
  rw [e1, List.take_left' e2, ← List.drop_drop, List.drop_left' e2, List.drop_drop]
end Go.Proofs.Ytkcebmamohimoaa
namespace Go.Proofs.Ytkcebmamohimoaa
open Go.RowKit Go.Proofs.YtkcebmamohimoaaW.PrintWords
set_option linter.unusedVariables false
set_option linter.unusedSimpArgs false
attribute [local go_sem] bl_refl bl_alloc bl_drew bl_drewN
theorem pr_one : ∀ (x : Pr), ∀ u ∈ x.cells, u.oneCell' = true := fun x u hu => by simp [Pr.cells] at hu; rcases hu with rfl | rfl <;> rfl
theorem prs_one (L : List Pr) : ∀ u ∈ L.flatMap Pr.cells, u.oneCell' = true := fun u hu => by
  obtain ⟨x, _, hx⟩ := List.mem_flatMap.1 hu
  exact pr_one x u hx
theorem size161 : (Try.prog.info? 161).map (·.size) = some 2 := by kernel_rfl
theorem blkfz {w : World} {g o : Nat} {cs : Array Value} {t : TypeId} (h : w.heap[g]? = some (.cells cs t (0, 0))) : w.frozen? ⟨g, o, none⟩ = false := blk_frozen h _
set_option maxHeartbeats 8000000 in
set_option maxRecDepth 100000 in
/-- There is room: in place. -/
theorem insert_room (w0 w : World) (hb0 : Below w0.heap.size w0 w) (g c i vb vc : Nat) (L : List Pr) (p : Pr) (hi : i < L.length) (hroom : L.length + 1 ≤ c)
    (h : Kd.R kPr 161 w w0.heap.size (fun _ => True) (.slice (some ⟨g, 0, none⟩) L.length c) L) (hv : w.heap[vb]? = some (.cells p.cells.toArray 161 (0, 0))) (hne : vb ≠ g) :
    Calls Try.prog 170 #[.slice (some ⟨g, 0, none⟩) L.length c, .int .i64 i, .slice (some ⟨vb, 0, none⟩) 1 vc] w fun e w' => ∃ v', e = .returned v' ∧ Kd.R kPr 161 w' w0.heap.size (fun _ => True) v' (L.take i ++ p :: L.drop i) ∧ Below w0.heap.size w0 w' := by
  obtain ⟨tail, hg, htl, hlc, hge, _, hmax, _⟩ := own_open h
  have hc63 : c ≤ 9223372036854775807 := by unfold maxLen at hmax; omega
  obtain ⟨n, hn⟩ : ∃ n, L.length = n := ⟨_, rfl⟩
  obtain ⟨X1, hX1⟩ : ∃ X, (L.take i).flatMap Pr.cells = X := ⟨_, rfl⟩
  obtain ⟨X2, hX2⟩ : ∃ X, (L.drop i).flatMap Pr.cells = X := ⟨_, rfl⟩
  have hX : L.flatMap Pr.cells = X1 ++ X2 := by rw [← hX1, ← hX2, ← List.flatMap_append, List.take_append_drop]
  have l1 : X1.length = i * 2 := by rw [← hX1, flatMap_len (n := 2) (f := Pr.cells) (fun _ => rfl), List.length_take]; congr 1; omega
  have l2 : X2.length = (n - i) * 2 := by rw [← hX2, flatMap_len (n := 2) (f := Pr.cells) (fun _ => rfl), List.length_drop, hn]
  have o2 : ∀ u ∈ X2, u.oneCell' = true := by rw [← hX2]; exact prs_one _
  rw [hX] at hg
  rw [hn] at hi hroom h htl hlc ⊢
  have lcur : (X1 ++ X2 ++ tail).length = c * 2 := by rw [List.length_append, List.length_append, l1, l2, htl]; omega
  have hov : ∀ lb cb, (callFunc 200 #[.slice (some ⟨vb, 0, none⟩) 1 vc, .slice (some ⟨g, (i + 1) * 2, none⟩) lb cb]).run Try.prog w = .ok (.value (.bool false)) w := fun lb cb => by
    rw [run_callFunc_extern Try.func200 (by kernel_rfl) (by kernel_rfl) (by kernel_rfl) (e := Extern.SlicesOverlaps.overlaps #[61, 61] #[4]) (by kernel_rfl),
      Lib.run_overlaps_apart w 61 4 161 Try.underlying61 2 (fun w => by
        have := size161
        cases hq : Try.prog.info? 161 with
        | none => rw [hq] at this; simp at this
        | some i => rw [hq] at this; simp at this; simp [sizeOf, typeInfo, hq, this]) ⟨vb, 0, none⟩ ⟨g, (i + 1) * 2, none⟩ 1 vc lb cb hne 161 161 2 (c * 2) (by simp [World.shape?, hv, Pr.cells]) (by simp only [World.shape?, hg]; simp only [List.size_toArray, lcur]) (by omega) (blkfz hv) (blkfz hv)]
    rfl
  have hcp1 : ∀ ty dc sc, (Builtin.copy_ #[61, 61] ty #[.slice (some ⟨g, (i + 1) * 2, none⟩) (n - i) dc, .slice (some ⟨g, i * 2, none⟩) (n + 1 - i) sc]).run Try.prog w.drew =
      .ok (goInt (n - i : Nat)) (w.drew.setRow g ((X1 ++ X2 ++ tail).take (X1.length + 2) ++ X2 ++ (X1 ++ X2 ++ tail).drop (X1.length + 2 + X2.length)).toArray) := fun ty dc sc => by
    have := run_copy_n (P := Try.prog) w.drew 61 61 ty 161 2 (n - i) g ((i + 1) * 2) (n - i) dc ⟨g, i * 2, none⟩ (n + 1 - i) sc (X1 ++ X2 ++ tail) 161 X2 Try.underlying61 size161 (by simp only [Nat.min_def]; split <;> omega) hg l2
      (fun j v hj => by
        show w.cell? _ = _
        rw [Addr.add_lit, blk_cell hg]
        rw [List.getElem?_toArray, List.append_assoc, List.getElem?_append_right (by omega), l1, Nat.add_sub_cancel_left, List.getElem?_append_left (List.getElem?_eq_some_iff.1 hj).1]
        exact hj) (by rw [lcur, l2]; omega) o2
    rw [show (i + 1) * 2 = X1.length + 2 by rw [l1]; omega] at this ⊢
    exact this
  obtain ⟨c1, hc1⟩ : ∃ c1, c1 = (X1 ++ X2 ++ tail).take (X1.length + 2) ++ X2 ++ (X1 ++ X2 ++ tail).drop (X1.length + 2 + X2.length) := ⟨_, rfl⟩
  rw [← hc1] at hcp1
  have lc1 : c1.length = c * 2 := by
    rw [hc1, List.length_append, List.length_append, List.length_take, List.length_drop, lcur, l1, l2]; omega
  obtain ⟨W1, hW1⟩ : ∃ W1, W1 = w.drew.setRow g c1.toArray := ⟨_, rfl⟩
  have hg1 : W1.heap[g]? = some (.cells c1.toArray 161 (0, 0)) := by rw [hW1]; exact setRow_heap w.drew g _ _ 161 _ hg
  have hv1 : W1.heap[vb]? = some (.cells p.cells.toArray 161 (0, 0)) := by rw [hW1, setRow_other w.drew g vb _ hne]; exact hv
  have hB1 : Below w0.heap.size w0 W1 := by rw [hW1]; exact (hb0.drew).trans ⟨rfl, rfl, rfl, by simp [World.setRow], fun k hk => setRow_other w.drew g k _ (by omega)⟩
  rw [← hW1] at hcp1
  have hcp2 : ∀ ty dc, (Builtin.copy_ #[61, 61] ty #[.slice (some ⟨g, i * 2, none⟩) (n + 1 - i) dc, .slice (some ⟨vb, 0, none⟩) 1 vc]).run Try.prog W1 =
      .ok (goInt (1 : Nat)) (W1.setRow g (c1.take X1.length ++ p.cells ++ c1.drop (X1.length + 2)).toArray) := fun ty dc => by
    have := run_copy_n (P := Try.prog) W1 61 61 ty 161 2 1 g (i * 2) (n + 1 - i) dc ⟨vb, 0, none⟩ 1 vc c1 161 p.cells Try.underlying61 size161 (by simp only [Nat.min_def]; split <;> omega) hg1 rfl
      (fun j v hj => by
        rw [Addr.add_lit, blk_cell hv1, Nat.zero_add, List.getElem?_toArray]
        exact hj) (by rw [lc1]; simp [Pr.cells]; omega) (pr_one p)
    rw [← l1] at this ⊢
    exact this
  obtain ⟨W2, hW2⟩ : ∃ W2, W2 = W1.setRow g (c1.take X1.length ++ p.cells ++ c1.drop (X1.length + 2)).toArray := ⟨_, rfl⟩
  have hg2 : W2.heap[g]? = some (.cells ((L.take i ++ p :: L.drop i).flatMap Pr.cells ++ tail.drop 2).toArray 161 (0, 0)) := by
    rw [hW2, setRow_heap W1 g _ _ 161 _ hg1, splice_shift X1 X2 tail p.cells 2 rfl (by rw [htl]; omega) c1 hc1, List.flatMap_append, List.flatMap_cons, hX1, hX2]
    simp
  have hB2 : Below w0.heap.size w0 W2 := by rw [hW2]; exact hB1.trans ⟨rfl, rfl, rfl, by simp [World.setRow], fun k hk => setRow_other W1 g k _ (by omega)⟩
  rw [← hW2] at hcp2
  have lR : (L.take i ++ p :: L.drop i).length = n + 1 := by simp; omega
  have HF := Lib.hid (own_close (n := 2) (f := Pr.cells) (e := 161) (base := w0.heap.size) (ok := fun _ => True) (L := L.take i ++ p :: L.drop i) (c := c) (W := W2) (fun _ => rfl) pr_one (tail.drop 2) hg2 (by rw [List.length_drop, htl, lR]; omega) (by omega) hge hmax trivial)
  rw [lR] at HF
  have HB := Lib.hid hB2
  have hz2 : ¬ ((i : Int) = (n : Int)) := by omega
  have hw1 : IntKind.i64.wrap ((i : Int) + 1) = (i : Int) + 1 := by rw [IntKind.wrap_i64]; omega
  have hw2 : IntKind.i64.wrap ((n : Int) + 1) = (n : Int) + 1 := by rw [IntKind.wrap_i64]; omega
  have hin : i ≤ n := by omega
  have htn : ((i : Int) + 1).toNat = i + 1 := by omega
  have htm : ((n : Int) + 1).toNat = n + 1 := by omega
  have hb2 : ¬ (c = i + 1) := by omega
  have hb3 : (i : Int) ≤ (n : Int) + 1 := by omega
  have hb4 : ¬ (c = i) := by omega
  have hb5 : ¬ ((c : Int) < (n : Int) + 1) := by omega
  have hb6 : (n : Int) + 1 ≤ (c : Int) := by omega
  have hb7 : (i : Int) ≤ (n : Int) := by omega
  have hb8 : (0 : Int) ≤ (n : Int) + 1 := by omega
  have hb9 : (0 : Int) ≤ (i : Int) + 1 := by omega
  have hb10 : (n : Int) ≤ (c : Int) := by omega
  have hsz := size161
  clear h hg hv htl hX1 hX2 hX l1 l2 o2 lcur hc1 lc1 hW1 hg1 hv1 hB1 hW2 hg2 hB2 lR hb0 hn hge hmax
  go_enter Try.func170, Try.ntmps170
  go_wp2_with (simp only [hov])
  go_region_law (refine step_copy_runI rfl _ _ 61 61 rfl _ _ (by simp [Act.eval, Act.put]) (by simp [Act.eval, Act.put]) (hcp1 _ _ _) ?_)
  go_wp2_with (at_builtin; refine wpList_copy_runI _ rfl _ _ 61 61 rfl _ _ rfl rfl (hcp2 _ _) ?_)
  go_ret
  exact ⟨_, rfl, HF.out, HB.out⟩
set_option maxHeartbeats 8000000 in
set_option maxRecDepth 100000 in
/-- There is no room: a new row. -/
theorem insert_grow (w0 w : World) (hb0 : Below w0.heap.size w0 w) (g c i vb vc : Nat) (L : List Pr) (p : Pr) (hi : i < L.length) (hroom : c < L.length + 1) (hbig : (L.length + 1) * 32 ≤ 140737488355328)
    (h : Kd.R kPr 161 w w0.heap.size (fun _ => True) (.slice (some ⟨g, 0, none⟩) L.length c) L) (hv : w.heap[vb]? = some (.cells p.cells.toArray 161 (0, 0))) :
    Calls Try.prog 170 #[.slice (some ⟨g, 0, none⟩) L.length c, .int .i64 i, .slice (some ⟨vb, 0, none⟩) 1 vc] w fun e w' => ∃ v', e = .returned v' ∧ Kd.R kPr 161 w' w0.heap.size (fun _ => True) v' (L.take i ++ p :: L.drop i) ∧ Below w0.heap.size w0 w' := by
  obtain ⟨tail, hg, htl, hlc, hge, _, hmax, _⟩ := own_open h
  have hc63 : c ≤ 9223372036854775807 := by unfold maxLen at hmax; omega
  obtain ⟨n, hn⟩ : ∃ n, L.length = n := ⟨_, rfl⟩
  obtain ⟨X1, hX1⟩ : ∃ X, (L.take i).flatMap Pr.cells = X := ⟨_, rfl⟩
  obtain ⟨X2, hX2⟩ : ∃ X, (L.drop i).flatMap Pr.cells = X := ⟨_, rfl⟩
  have hX : L.flatMap Pr.cells = X1 ++ X2 := by rw [← hX1, ← hX2, ← List.flatMap_append, List.take_append_drop]
  have l1 : X1.length = i * 2 := by rw [← hX1, flatMap_len (n := 2) (f := Pr.cells) (fun _ => rfl), List.length_take]; congr 1; omega
  have l2 : X2.length = (n - i) * 2 := by rw [← hX2, flatMap_len (n := 2) (f := Pr.cells) (fun _ => rfl), List.length_drop, hn]
  have o2 : ∀ u ∈ X2, u.oneCell' = true := by rw [← hX2]; exact prs_one _
  rw [hX] at hg
  rw [hn] at hi hroom h htl hlc hbig ⊢
  have hgw : g < w.heap.size := (Array.getElem?_eq_some_iff.1 hg).1
  have hvw : vb < w.heap.size := (Array.getElem?_eq_some_iff.1 hv).1
  have lcur : (X1 ++ X2 ++ tail).length = c * 2 := by rw [List.length_append, List.length_append, l1, l2, htl]; omega
  obtain ⟨i0, hi0, hz0, hzs, hzb⟩ : ∃ i0, Try.prog.info? 161 = some i0 ∧ i0.zero = some (.agg #[(.string ⟨#[]⟩), (.string ⟨#[]⟩)]) ∧ i0.size = 2 ∧ i0.bytes = 32 := by
    have := info161
    cases hq : Try.prog.info? 161 with
    | none => rw [hq] at this; simp at this
    | some i => rw [hq] at this; simp at this; exact ⟨i, rfl, this.1, this.2.1, this.2.2⟩
  have hold : (Builtin.firstCells i0.size i (.slice (some ⟨g, 0, none⟩) i c)).run Try.prog w.drew = .ok X1.toArray w.drew := by
    rw [hzs]
    have := run_loadCells_list (P := Try.prog) w.drew ⟨g, 0, none⟩ X1 (fun j v hj => by
      show w.cell? _ = _
      rw [Addr.add_lit, blk_cell hg, List.getElem?_toArray, Nat.zero_add, List.append_assoc, List.getElem?_append_left (List.getElem?_eq_some_iff.1 hj).1]
      exact hj)
    rw [l1] at this
    exact this
  have hkk : (n : Int) + 1 - (i : Int) = ((n + 1 - i : Nat) : Int) := by omega
  have hik : i + (n + 1 - i) = n + 1 := by omega
  obtain ⟨G, hG⟩ : ∃ G, G = grownCap w (n + 1) c 161 := ⟨_, rfl⟩
  have hGn : n + 1 ≤ G := by rw [hG]; exact grownCap_ge w _ _ _
  have hGm : G ≤ maxLen := by rw [hG]; exact grownCap_le_maxLen w (n + 1) c 161 (by unfold maxLen; omega)
  have hG63 : G ≤ 9223372036854775807 := by unfold maxLen at hGm; omega
  obtain ⟨Z, hZ⟩ : ∃ Z : List Value, Z = (Builtin.zeroCells (Value.agg #[(.string ⟨#[]⟩), (.string ⟨#[]⟩)]).cells (n + 1 - i) ++ Builtin.zeroCells (Value.agg #[(.string ⟨#[]⟩), (.string ⟨#[]⟩)]).cells (G - (n + 1))).toList := ⟨_, rfl⟩
  have lZ : Z.length = (G - i) * 2 := by
    rw [hZ]
    simp [Builtin.zeroCells, Value.cells]
    omega
  obtain ⟨W1, hW1⟩ : ∃ W1, W1 = w.drew.alloc (.cells (X1 ++ Z).toArray 161) := ⟨_, rfl⟩
  have hrz : ∀ ty, (Builtin.append_ #[61, 3] ty #[.slice (some ⟨g, 0, none⟩) i c, .int .i64 ((n : Int) + 1 - (i : Int))]).run Try.prog w = .ok (.slice (some ⟨w.heap.size, 0, none⟩) (n + 1) G) W1 := fun ty => by
    have h := Lib.run_append_grow_zeros w 61 3 ty 161 i0 _ .i64 .i64 Try.underlying61 Try.underlying3 hi0 hz0 (some ⟨g, 0, none⟩) i c X1 hold (n + 1 - i) (by omega) (by omega) (by omega) (by omega) (by rw [hzb]; omega) (by rw [hzb, hik]; exact growslice_fits hroom hbig)
    rw [hik, ← hG] at h
    rw [hkk, hW1, h, show (X1 ++ Z).toArray = X1.toArray ++ Builtin.zeroCells (Value.agg #[(.string ⟨#[]⟩), (.string ⟨#[]⟩)]).cells (n + 1 - i) ++ Builtin.zeroCells (Value.agg #[(.string ⟨#[]⟩), (.string ⟨#[]⟩)]).cells (G - (n + 1)) by
      rw [hZ, Array.append_assoc]; apply Array.toList_inj.1; simp]
  have hgN : W1.heap[w.heap.size]? = some (.cells (X1 ++ Z).toArray 161 (0, 0)) := by rw [hW1]; exact blk_new w.drew _
  have hv1 : W1.heap[vb]? = some (.cells p.cells.toArray 161 (0, 0)) := by rw [hW1]; exact blk_alloc (w := w.drew) hv _
  have hg1 : W1.heap[g]? = some (.cells (X1 ++ X2 ++ tail).toArray 161 (0, 0)) := by rw [hW1]; exact blk_alloc (w := w.drew) hg _
  have hB1 : Below w0.heap.size w0 W1 := by rw [hW1]; exact (hb0.drew).alloc hb0.size _
  have hwn : w0.heap.size ≤ w.heap.size := hb0.size
  clear hZ hG
  have hcpA : ∀ ty dc, (Builtin.copy_ #[61, 61] ty #[.slice (some ⟨w.heap.size, i * 2, none⟩) (n + 1 - i) dc, .slice (some ⟨vb, 0, none⟩) 1 vc]).run Try.prog W1 =
      .ok (goInt (1 : Nat)) (W1.setRow w.heap.size ((X1 ++ Z).take X1.length ++ p.cells ++ (X1 ++ Z).drop (X1.length + 2)).toArray) := fun ty dc => by
    have := run_copy_n (P := Try.prog) W1 61 61 ty 161 2 1 w.heap.size (i * 2) (n + 1 - i) dc ⟨vb, 0, none⟩ 1 vc (X1 ++ Z) 161 p.cells Try.underlying61 size161 (by simp only [Nat.min_def]; split <;> omega) hgN rfl
      (fun j v hj => by
        rw [Addr.add_lit, blk_cell hv1, Nat.zero_add, List.getElem?_toArray]
        exact hj) (by rw [List.length_append, l1, lZ]; simp [Pr.cells]; omega) (pr_one p)
    rw [← l1] at this ⊢
    exact this
  obtain ⟨c1, hc1⟩ : ∃ c1, c1 = (X1 ++ Z).take X1.length ++ p.cells ++ (X1 ++ Z).drop (X1.length + 2) := ⟨_, rfl⟩
  rw [← hc1] at hcpA
  have lc1 : c1.length = G * 2 := by
    have lp : p.cells.length = 2 := rfl
    rw [hc1, List.length_append, List.length_append, List.length_take, List.length_drop, List.length_append, l1, lZ, lp]; omega
  obtain ⟨W2, hW2⟩ : ∃ W2, W2 = W1.setRow w.heap.size c1.toArray := ⟨_, rfl⟩
  have hgN2 : W2.heap[w.heap.size]? = some (.cells c1.toArray 161 (0, 0)) := by rw [hW2]; exact setRow_heap W1 _ _ _ 161 _ hgN
  have hg2 : W2.heap[g]? = some (.cells (X1 ++ X2 ++ tail).toArray 161 (0, 0)) := by rw [hW2, setRow_other W1 _ g _ (by omega)]; exact hg1
  have hB2 : Below w0.heap.size w0 W2 := by rw [hW2]; exact hB1.trans ⟨rfl, rfl, rfl, by simp [World.setRow], fun k hk => setRow_other W1 _ k _ (by omega)⟩
  rw [← hW2] at hcpA
  have hcpB : ∀ ty dc sc, (Builtin.copy_ #[61, 61] ty #[.slice (some ⟨w.heap.size, (i + 1) * 2, none⟩) (n - i) dc, .slice (some ⟨g, i * 2, none⟩) (n - i) sc]).run Try.prog W2.drew =
      .ok (goInt (n - i : Nat)) (W2.drew.setRow w.heap.size (c1.take (X1.length + 2) ++ X2 ++ c1.drop (X1.length + 2 + X2.length)).toArray) := fun ty dc sc => by
    have := run_copy_n (P := Try.prog) W2.drew 61 61 ty 161 2 (n - i) w.heap.size ((i + 1) * 2) (n - i) dc ⟨g, i * 2, none⟩ (n - i) sc c1 161 X2 Try.underlying61 size161 (by simp only [Nat.min_def]; split <;> omega) hgN2 l2
      (fun j v hj => by
        show W2.cell? _ = _
        rw [Addr.add_lit, blk_cell hg2]
        rw [List.getElem?_toArray, List.append_assoc, List.getElem?_append_right (by omega), l1, Nat.add_sub_cancel_left, List.getElem?_append_left (List.getElem?_eq_some_iff.1 hj).1]
        exact hj) (by rw [lc1, l2]; omega) o2
    rw [show (i + 1) * 2 = X1.length + 2 by rw [l1]; omega] at this ⊢
    exact this
  obtain ⟨W3, hW3⟩ : ∃ W3, W3 = W2.drew.setRow w.heap.size (c1.take (X1.length + 2) ++ X2 ++ c1.drop (X1.length + 2 + X2.length)).toArray := ⟨_, rfl⟩
  have hg3 : W3.heap[w.heap.size]? = some (.cells ((L.take i ++ p :: L.drop i).flatMap Pr.cells ++ Z.drop (2 + X2.length)).toArray 161 (0, 0)) := by
    rw [hW3, setRow_heap W2.drew _ _ _ 161 _ hgN2, splice_new X1 X2 Z p.cells 2 rfl (by rw [lZ, l2]; omega) c1 hc1, List.flatMap_append, List.flatMap_cons, hX1, hX2]
    simp
  have hB3 : Below w0.heap.size w0 W3 := by rw [hW3]; exact (hB2.drew).trans ⟨rfl, rfl, rfl, by simp [World.setRow], fun k hk => setRow_other W2.drew _ k _ (by omega)⟩
  rw [← hW3] at hcpB
  have lR : (L.take i ++ p :: L.drop i).length = n + 1 := by simp; omega
  have HF := Lib.hid (own_close (n := 2) (f := Pr.cells) (e := 161) (base := w0.heap.size) (ok := fun _ => True) (L := L.take i ++ p :: L.drop i) (c := G) (W := W3) (fun _ => rfl) pr_one (Z.drop (2 + X2.length)) hg3 (by rw [List.length_drop, lZ, lR, l2]; omega) (by omega) hwn hGm trivial)
  rw [lR] at HF
  have HB := Lib.hid hB3
  have hz2 : ¬ ((i : Int) = (n : Int)) := by omega
  have hw1 : IntKind.i64.wrap ((i : Int) + 1) = (i : Int) + 1 := by rw [IntKind.wrap_i64]; omega
  have hw2 : IntKind.i64.wrap ((n : Int) + 1) = (n : Int) + 1 := by rw [IntKind.wrap_i64]; omega
  have hw3 : IntKind.i64.wrap ((n : Int) + 1 - (i : Int)) = (n : Int) + 1 - (i : Int) := by rw [IntKind.wrap_i64]; omega
  have hin : i ≤ n := by omega
  have htn : ((i : Int) + 1).toNat = i + 1 := by omega
  have hb2 : ¬ (G = i + 1) := by omega
  have hb3 : (i : Int) ≤ (n : Int) + 1 := by omega
  have hb4 : ¬ (c = i) := by omega
  have hb11 : ¬ (G = i) := by omega
  have hb5 : (c : Int) < (n : Int) + 1 := by omega
  have hb7 : (i : Int) ≤ (n : Int) := by omega
  have hb12 : (i : Int) ≤ (c : Int) := by omega
  have hb9 : (0 : Int) ≤ (i : Int) + 1 := by omega
  have hb10 : (n : Int) ≤ (c : Int) := by omega
  clear h hg hv htl hX1 hX2 hX l1 l2 o2 lcur hc1 lc1 hW1 hg1 hv1 hB1 hW2 hg2 hB2 lR hb0 hn hge hmax hi0 hz0 hzs hzb hold hkk hik hGm lZ hgN hwn hgN2 hW3 hg3 hB3 hgw hvw
  go_enter Try.func170, Try.ntmps170
  go_wp2_with (first
    | (at_builtin; refine Lib.wpList_append_run _ rfl _ _ _ _ rfl _ _ rfl rfl _ _ (hrz _) ?_)
    | (at_builtin; refine wpList_copy_runI _ rfl _ _ 61 61 rfl _ _ rfl rfl (hcpA _ _) ?_))
  go_region_law (refine step_copy_runI rfl _ _ 61 61 rfl _ _ (by simp [Act.eval, Act.put]) (by simp [Act.eval, Act.put]) (hcpB _ _ _) ?_)
  go_wp2
  go_ret
  exact ⟨_, rfl, HF.out, HB.out⟩
/-- slices.Insert of one pair. -/
theorem insert170 (w0 w : World) (hb0 : Below w0.heap.size w0 w) (g c i vb vc : Nat) (L : List Pr) (p : Pr) (hi : i < L.length) (hbig : (L.length + 1) * 32 ≤ 140737488355328)
    (h : Kd.R kPr 161 w w0.heap.size (fun _ => True) (.slice (some ⟨g, 0, none⟩) L.length c) L) (hv : w.heap[vb]? = some (.cells p.cells.toArray 161 (0, 0))) (hne : vb ≠ g) :
    Calls Try.prog 170 #[.slice (some ⟨g, 0, none⟩) L.length c, .int .i64 i, .slice (some ⟨vb, 0, none⟩) 1 vc] w fun e w' => ∃ v', e = .returned v' ∧ Kd.R kPr 161 w' w0.heap.size (fun _ => True) v' (L.take i ++ p :: L.drop i) ∧ Below w0.heap.size w0 w' := by
  by_cases hroom : L.length + 1 ≤ c
  · exact insert_room w0 w hb0 g c i vb vc L p hi hroom h hv hne
  · exact insert_grow w0 w hb0 g c i vb vc L p hi (by omega) hbig h hv
end Go.Proofs.Ytkcebmamohimoaa
namespace Go.Proofs.Ytkcebmamohimoaa
open Go.RowKit Go.Proofs.YtkcebmamohimoaaW.PrintWords
set_option linter.unusedVariables false
set_option linter.unusedSimpArgs false
attribute [local go_sem] bl_refl bl_alloc bl_drew bl_drewN
/-- Two texts are one. -/
def ek (a b : ByteArray) : Bool := a.toList == b.toList
theorem ek_iff (a b : ByteArray) : ek a b = true ↔ a = b := by
  unfold ek
  rw [beq_iff_eq, Lib.toList_data, Lib.toList_data]
  constructor
  · intro h; exact ByteArray.ext (Array.toList_inj.1 h)
  · rintro rfl; rfl
theorem bl_gt (a b : ByteArray) : (!Op.bytesLess a.toList b.toList && !a.toList == b.toList) = bl b a := by
  unfold bl
  rw [bytesLess_eq, bytesLess_eq, Bool.eq_iff_iff]
  simp only [Bool.and_eq_true, Bool.not_eq_true', decide_eq_false_iff_not, decide_eq_true_eq, beq_eq_false_iff_ne]
  constructor
  · rintro ⟨h1, h2⟩
    rcases Std.lt_trichotomy a.toList b.toList with h | h | h
    · exact absurd h h1
    · exact absurd h h2
    · exact h
  · intro h
    exact ⟨fun h1 => absurd (Std.lt_trans h h1) (Std.lt_irrefl), fun e => by rw [e] at h; exact absurd h Std.lt_irrefl⟩
set_option maxHeartbeats 1000000 in
set_option maxRecDepth 100000 in
theorem pred198 (B : Nat) (key : ByteArray) (w : World) (hB : B < w.heap.size) (hc : w.cell? ⟨B, 0, none⟩ = some (.string key)) :
    PredB 198 #[.pointer (some ⟨B, 0, none⟩)] Pr.cells (fun x => ek x.key key) w := by
  intro x W hb
  have hc' := (hb.cell (p := ⟨B, 0, none⟩) hB).trans hc
  have hB' : B < W.heap.size := Nat.lt_of_lt_of_le hB hb.size
  clear hb hc hB
  show Calls Try.prog 198 #[.agg #[.string x.key, .string x.val], .pointer (some ⟨B, 0, none⟩)] W _
  go_enter Try.func198, Try.ntmps198
  go_wp2
  go_ret
  exact ⟨rfl, (Below.refl _ _).alloc (Nat.le_refl _) _⟩
theorem enters198 : ∀ args w, (callFunc 198 args).run Try.prog w = .ok (.enter 198 args) w := enters_of Try.func198 (by kernel_rfl) rfl
set_option maxHeartbeats 1000000 in
set_option maxRecDepth 100000 in
theorem pred169 (B : Nat) (key : ByteArray) (w : World) (hB : B < w.heap.size) (hc : w.cell? ⟨B, 0, none⟩ = some (.string key)) :
    PredB 169 #[.pointer (some ⟨B, 0, none⟩)] Pr.cells (fun x => bl key x.key) w := by
  intro x W hb
  have hc' := (hb.cell (p := ⟨B, 0, none⟩) hB).trans hc
  have hB' : B < W.heap.size := Nat.lt_of_lt_of_le hB hb.size
  clear hb hc hB
  show Calls Try.prog 169 #[.agg #[.string x.key, .string x.val], .pointer (some ⟨B, 0, none⟩)] W _
  go_enter Try.func169, Try.ntmps169
  go_wp2
  go_ret
  exact ⟨by rw [← bl_gt]; rfl, (Below.refl _ _).alloc (Nat.le_refl _) _⟩
theorem enters169 : ∀ args w, (callFunc 169 args).run Try.prog w = .ok (.enter 169 args) w := enters_of Try.func169 (by kernel_rfl) rfl
set_option maxHeartbeats 1000000 in
set_option maxRecDepth 100000 in
theorem pred224 (B : Nat) (key : ByteArray) (w : World) (hB : B < w.heap.size) (hc : w.cell? ⟨B, 0, none⟩ = some (.string key)) :
    PredB 224 #[.pointer (some ⟨B, 0, none⟩)] Pr.cells (fun x => ek x.key key) w := by
  intro x W hb
  have hc' := (hb.cell (p := ⟨B, 0, none⟩) hB).trans hc
  have hB' : B < W.heap.size := Nat.lt_of_lt_of_le hB hb.size
  clear hb hc hB
  show Calls Try.prog 224 #[.agg #[.string x.key, .string x.val], .pointer (some ⟨B, 0, none⟩)] W _
  go_enter Try.func224, Try.ntmps224
  go_wp2
  go_ret
  exact ⟨rfl, (Below.refl _ _).alloc (Nat.le_refl _) _⟩
theorem enters224 : ∀ args w, (callFunc 224 args).run Try.prog w = .ok (.enter 224 args) w := enters_of Try.func224 (by kernel_rfl) rfl
set_option maxHeartbeats 1000000 in
set_option maxRecDepth 100000 in
theorem at164 (A : Option Addr) (c : Nat) (L : List Pr) (key : ByteArray) (w : World) (h : Kd.C kPr w A L.length L) :
    Calls Try.prog 164 #[.slice A L.length c, .string key] w fun e w' => e = .returned (.int .i64 (fidx (fun x => ek x.key key) L)) ∧ Below w.heap.size w w' := by
  have HC := Lib.hid h
  clear h
  go_enter Try.func164, Try.ntmps164
  go_wp2_with ((with_reducible refine (indexFunc168 _ _ L _ _ (fun x => ek x.key key) enters198 _ ?ha ?hb).mono ?_); (case ha => exact Kd.C_below HC.out ((Below.refl _ w).alloc (Nat.le_refl _) _)); (case hb => exact pred198 _ key _ (by simp) (by simp)); rintro e w' ⟨rfl, hb⟩; have HB2 := Lib.hid hb; clear hb)
  go_ret
  exact ⟨rfl, ((Below.refl _ w).alloc (Nat.le_refl _) _).trans (HB2.out.mono (by simp))⟩
/-- A key's value. -/
def tFind (L : List Pr) (key : ByteArray) : ByteArray × Bool := match L.find? (fun x => ek x.key key) with | some x => (x.val, true) | none => (⟨#[]⟩, false)
theorem fidx_find (p : Pr → Bool) : ∀ L : List Pr, (fidx p L < 0 ∧ fidx p L = -1 ∧ L.find? p = none) ∨ ∃ k : Nat, k < L.length ∧ fidx p L = (k : Int) ∧ L.find? p = some L[k]! := by
  intro L
  unfold fidx
  cases e : L.findIdx? p with
  | none =>
    left
    refine ⟨by simp, rfl, ?_⟩
    rw [List.findIdx?_eq_none_iff] at e
    rw [List.find?_eq_none]
    intro x hx
    rw [e x hx]; simp
  | some i =>
    right
    obtain ⟨hi, hp, hn⟩ := List.findIdx?_eq_some_iff_getElem.1 e
    refine ⟨i, hi, rfl, ?_⟩
    rw [getElem!_pos L i hi, List.find?_eq_some_iff_getElem]
    exact ⟨hp, i, hi, rfl, fun j hj => by simpa using hn j hj⟩
set_option maxHeartbeats 1000000 in
set_option maxRecDepth 100000 in
theorem find122 (A : Option Addr) (c : Nat) (L : List Pr) (key : ByteArray) (w : World) (h : Kd.C kPr w A L.length L) :
    Calls Try.prog 122 #[.slice A L.length c, .string key] w fun e w' => e = .returned (.tuple #[.string (tFind L key).1, .bool (tFind L key).2]) ∧ Below w.heap.size w w' := by
  have HC := Lib.hid h
  have ha := at164 A c L key w h
  rcases fidx_find (fun x => ek x.key key) L with ⟨h1, h2, h3⟩ | ⟨k, hk, h2, h3⟩
  · have HT := Lib.hid (show tFind L key = (⟨#[]⟩, false) by unfold tFind; rw [h3])
    rw [h2] at ha
    have HA := Lib.hid ha
    clear ha h h1 h2 h3
    go_enter Try.func122, Try.ntmps122
    go_wp2_with fail
    refine HA.out.mono ?_
    rintro e w' ⟨rfl, hb⟩
    have HB := Lib.hid hb
    clear hb
    go_wp2
    exact bodyPost_ret (v := .tuple #[.string ⟨#[]⟩, .bool false]) (by simp [results, Try.results122, go_sem]) rfl ⟨by rw [HT.out], HB.out⟩
  · have HT := Lib.hid (show tFind L key = (L[k]!.val, true) by unfold tFind; rw [h3])
    rw [h2] at ha
    have HA := Lib.hid ha
    obtain ⟨x, hx⟩ : ∃ x, L[k]! = x := ⟨_, rfl⟩
    rw [hx] at HT
    obtain ⟨ad, rfl, x0, x1⟩ := Pr.at h k hk
    rw [hx] at x0 x1
    have y1 := cell_rule x1
    have k0 : ¬ (k : Int) < 0 := by omega
    have k1 : (0 : Int) ≤ (k : Int) := by omega
    have k2 : (k : Int) < (L.length : Int) := by omega
    clear ha h h2 h3 hx x0 x1
    go_enter Try.func122, Try.ntmps122
    go_wp2_with fail
    refine HA.out.mono ?_
    rintro e w' ⟨rfl, B⟩
    go_wp2
    exact bodyPost_ret (v := .tuple #[.string x.val, .bool true]) (by simp [results, Try.results122, go_sem]) rfl ⟨by rw [HT.out], B⟩
end Go.Proofs.Ytkcebmamohimoaa
namespace Go.Proofs.Ytkcebmamohimoaa
open Go.RowKit Go.Proofs.YtkcebmamohimoaaW.PrintWords
set_option linter.unusedVariables false
set_option linter.unusedSimpArgs false
attribute [local go_sem] bl_refl bl_alloc bl_drew bl_drewN bl_setr
/-- A pair put into pairs. -/
def tPut (L : List Pr) (key val : ByteArray) : List Pr :=
  if 0 ≤ fidx (fun x => ek x.key key) L then L.set (fidx (fun x => ek x.key key) L).toNat ⟨key, val⟩
  else if 0 ≤ fidx (fun x => bl key x.key) L then L.take (fidx (fun x => bl key x.key) L).toNat ++ ⟨key, val⟩ :: L.drop (fidx (fun x => bl key x.key) L).toNat
  else L ++ [⟨key, val⟩]
theorem pr_store {e base g m c : Nat} {ok : Nat → Prop} {W : World} {L : List Pr} (h : Kd.R kPr e W base ok (.slice (some ⟨g, 0, none⟩) m c) L) (k : Nat) (hk : k < L.length) (x : Pr) :
    Kd.R kPr e ((W.setCell ⟨g, k * 2, none⟩ (.string x.key)).setCell ⟨g, k * 2 + 1, none⟩ (.string x.val)) base ok (.slice (some ⟨g, 0, none⟩) m c) (L.set k x) := by
  obtain ⟨y, hy⟩ : ∃ y, L[k]! = y := ⟨_, rfl⟩
  have p0 := flat_put1 h k hk 0 (by omega) (.string x.key) { y with key := x.key } (by rw [hy]; rfl)
  rw [Nat.add_zero] at p0
  exact (flat_putm p0 hk 1 (by omega) (.string x.val) x rfl).1
set_option maxHeartbeats 8000000 in
set_option maxRecDepth 100000 in
theorem put124 (A : Option Addr) (c : Nat) (L : List Pr) (key val : ByteArray) (w : World) (h : Kd.C kPr w A L.length L) (hc : L.length ≤ c) (hlim : (L.length + 1) * 32 ≤ 140737488355328) :
    Calls Try.prog 124 #[.slice A L.length c, .string key, .string val] w fun e w' => ∃ v, e = .returned v ∧ Kd.R kPr 161 w' w.heap.size (fun _ => True) v (tPut L key val) ∧ Below w.heap.size w w' := by
  obtain ⟨W, hW, K1, K2, HW, hs⟩ := boxes2 w #[.string key] 9 #[.string key, .string val] 161
  have HC := Lib.hid (Kd.C_below h HW)
  have HL := Lib.hid hc
  have HLIM := Lib.hid hlim
  have r1 := blk_cells K1
  have r2 := blk_cells K2
  have HK1 := Lib.hid K1
  have HK2 := Lib.hid K2
  have HWW := Lib.hid hW
  have HWB := Lib.hid HW
  have HS := Lib.hid hs
  have hTP : tPut L key val = tPut L key val := rfl
  have HF := fidx_find (fun x => ek x.key key) L
  have HF2 := fidx_find (fun x => bl key x.key) L
  have B0 : Below W.heap.size W W := bl_refl W
  clear h hc hlim hW HW K1 K2 hs hTP
  rcases HF with ⟨hi, hi2, _⟩ | ⟨k, hk, hi2, _⟩
  · rcases HF2 with ⟨hj, hj2, _⟩ | ⟨k, hk, hj2, _⟩
    · have HT := Lib.hid (show tPut L key val = L ++ [⟨key, val⟩] by unfold tPut; rw [hi2, hj2, if_neg (by omega), if_neg (by omega)])
      have H1 := Lib.hid hi2
      have H2 := Lib.hid hj2
      clear hi hi2 hj hj2
      go_enter Try.func124, Try.ntmps124
      go_wp2_with fail
      rw [HWW.out]
      refine (clone165 A c L W HC.out HL.out (by have := HLIM.out; omega)).mono ?_
      rintro e w1 ⟨v1, rfl, hR1, hb⟩
      obtain ⟨B4, d4, rfl⟩ := Kd.R_slice hR1
      have B1 : Below W.heap.size W w1 := hb
      have HR1 := Lib.hid hR1
      clear hb hR1 B0
      go_wp2_with fail
      refine (at164 B4 d4 L key w1 (Kd.R_reads' HR1.out).2.2).mono ?_
      rintro e w2 ⟨rfl, hb⟩
      rw [H1.out]
      have B2 : Below W.heap.size W w2 := bl_trans B1 hb
      have HR2 := Lib.hid (Kd.R_below HR1.out hb)
      clear hb B1 HR1
      go_wp2_with fail
      refine (indexFunc168 B4 d4 L 169 #[.pointer (some ⟨w.heap.size, 0, none⟩)] (fun x => bl key x.key) enters169 w2 (Kd.R_reads' HR2.out).2.2 (pred169 w.heap.size key w2 (by have := B2.size; have := HS.out; omega) ((blk_cell (blk_below HK1.out B2) 0).trans rfl))).mono ?_
      rintro e w3 ⟨rfl, hb⟩
      rw [H2.out]
      have B3 : Below W.heap.size W w3 := bl_trans B2 hb
      have HR3 := Lib.hid (Kd.R_below HR2.out hb)
      clear hb B2 HR2
      go_wp2_with ((with_reducible refine gate_dst (N := 33) rfl ?_); refine Stop.go ?_)
      refine ⟨flat_app (f := Pr.cells) (w0 := W) W.heap.size rfl (.tmp 30) (.tmp 32) 61 161 _ 32 rfl Try.underlying61 info161 rfl (by decide) (by omega) _ L [⟨key, val⟩] (some ⟨w3.heap.size, 0, none⟩) 1 1 rfl rfl (by omega) (Kd.R_alloc HR3.out _) (C_one (f := Pr.cells) ⟨key, val⟩ (blk_new w3 _)) (bl_alloc _ B3) (by have := B3.size; simp; omega) (by have := HLIM.out; omega) ?_⟩
      intro g cap w4 hR4 hb4 _ _ _ _
      have HR4 := Lib.hid hR4
      have HB4 := Lib.hid hb4
      clear hR4 hb4 B3
      go_wp2
      go_ret
      exact ⟨_, rfl, by rw [HT.out]; exact Kd.R_lower HR4.out (by have := HS.out; omega), bl_trans HWB.out HB4.out⟩
    · have HT := Lib.hid (show tPut L key val = L.take k ++ ⟨key, val⟩ :: L.drop k by unfold tPut; rw [hi2, hj2, if_neg (by omega), if_pos (by omega), Int.toNat_natCast])
      have H1 := Lib.hid hi2
      have H2 := Lib.hid hj2
      have k0 : ¬ (k : Int) < 0 := by omega
      clear hi hi2 hj2
      go_enter Try.func124, Try.ntmps124
      go_wp2_with fail
      rw [HWW.out]
      refine (clone165 A c L W HC.out HL.out (by have := HLIM.out; omega)).mono ?_
      rintro e w1 ⟨v1, rfl, hR1, hb⟩
      obtain ⟨B4, d4, rfl⟩ := Kd.R_slice hR1
      have B1 : Below W.heap.size W w1 := hb
      have HR1 := Lib.hid hR1
      clear hb hR1 B0
      go_wp2_with fail
      refine (at164 B4 d4 L key w1 (Kd.R_reads' HR1.out).2.2).mono ?_
      rintro e w2 ⟨rfl, hb⟩
      rw [H1.out]
      have B2 : Below W.heap.size W w2 := bl_trans B1 hb
      have HR2 := Lib.hid (Kd.R_below HR1.out hb)
      clear hb B1 HR1
      go_wp2_with fail
      refine (indexFunc168 B4 d4 L 169 #[.pointer (some ⟨w.heap.size, 0, none⟩)] (fun x => bl key x.key) enters169 w2 (Kd.R_reads' HR2.out).2.2 (pred169 w.heap.size key w2 (by have := B2.size; have := HS.out; omega) ((blk_cell (blk_below HK1.out B2) 0).trans rfl))).mono ?_
      rintro e w3 ⟨rfl, hb⟩
      rw [H2.out]
      have B3 : Below W.heap.size W w3 := bl_trans B2 hb
      have hR3 := Kd.R_below HR2.out hb
      obtain ⟨g, cap, he, hge, hlt_, _⟩ := Kd.R_form hR3 (by omega)
      injection he with e1 _ e3
      subst e1
      have HR3 := Lib.hid hR3
      have HLT := Lib.hid hlt_
      have HK := Lib.hid hk
      clear hb B2 HR2 hR3 hge hlt_ e3 hk
      go_wp2_with fail
      have hins := insert170 W (w3.alloc (.cells #[.string key, .string val] 161)) (bl_alloc _ B3) g d4 k w3.heap.size 1 L ⟨key, val⟩ HK.out HLIM.out (Kd.R_alloc HR3.out _) (blk_new w3 _) (by have := HLT.out; omega)
      refine hins.mono ?_
      rintro e w4 ⟨v4, rfl, hR4, hb4⟩
      have HR4 := Lib.hid hR4
      have HB4 := Lib.hid hb4
      clear hR4 hb4 B3 hins
      go_wp2
      go_ret
      exact ⟨_, rfl, by rw [HT.out]; exact Kd.R_lower HR4.out (by have := HS.out; omega), bl_trans HWB.out HB4.out⟩
  · have HT := Lib.hid (show tPut L key val = L.set k ⟨key, val⟩ by unfold tPut; rw [hi2, if_pos (by omega), Int.toNat_natCast])
    have H1 := Lib.hid hi2
    have k0 : ¬ (k : Int) < 0 := by omega
    have k1 : (0 : Int) ≤ (k : Int) := by omega
    have k2 : (k : Int) < (L.length : Int) := by omega
    have HK := Lib.hid hk
    clear hi2 HF2
    go_enter Try.func124, Try.ntmps124
    go_wp2_with fail
    rw [HWW.out]
    refine (clone165 A c L W HC.out HL.out (by have := HLIM.out; omega)).mono ?_
    rintro e w1 ⟨v1, rfl, hR1, hb⟩
    obtain ⟨B4, d4, rfl⟩ := Kd.R_slice hR1
    have B1 : Below W.heap.size W w1 := hb
    have HR1 := Lib.hid hR1
    clear hb hR1 B0
    go_wp2_with fail
    refine (at164 B4 d4 L key w1 (Kd.R_reads' HR1.out).2.2).mono ?_
    rintro e w2 ⟨rfl, hb⟩
    rw [H1.out]
    have B2 : Below W.heap.size W w2 := bl_trans B1 hb
    have hR2 := Kd.R_below HR1.out hb
    obtain ⟨g, cap, he, hge, hlt_, _⟩ := Kd.R_form hR2 (by omega)
    injection he with e1 _ e3
    subst e1
    have HGE := Lib.hid hge
    obtain ⟨hcs, hfs⟩ := flat_own hR2 k hk
    obtain ⟨y, hy⟩ : ∃ y, L[k]! = y := ⟨_, rfl⟩
    rw [hy] at hcs
    have q0 := hcs 0 _ rfl
    have q1 := hcs 1 _ rfl
    have f0 := hfs 0
    have f1 := hfs 1
    simp only [Nat.add_zero] at q0 f0
    have HR2 := Lib.hid hR2
    clear hb B1 HR1 hcs hfs hy hR2 hge hlt_ e3 hk
    go_wp2
    go_ret
    refine ⟨_, rfl, by rw [HT.out]; exact Kd.R_lower (pr_store HR2.out k HK.out ⟨key, val⟩) (by have := HS.out; omega), bl_trans HWB.out ?_⟩
    repeat refine bl_set ?_ HGE.out
    exact B2
end Go.Proofs.Ytkcebmamohimoaa
namespace Go.Proofs.Ytkcebmamohimoaa
open Go.RowKit Go.Proofs.YtkcebmamohimoaaW.PrintWords
set_option linter.unusedVariables false
set_option linter.unusedSimpArgs false
attribute [local go_sem] bl_refl bl_alloc bl_drew bl_drewN bl_setr
theorem filter_take_ {α : Type} [Inhabited α] (p : α → Bool) (L : List α) (k : Nat) (hk : k < L.length) : (L.take (k + 1)).filter p = (L.take k).filter p ++ (if p L[k]! then [L[k]!] else []) := by
  rw [List.take_succ_eq_append_getElem hk, List.filter_append, getElem!_pos L k hk]
  by_cases h : p L[k]
  · rw [if_pos h, List.filter_cons_of_pos h]; rfl
  · rw [if_neg h, List.filter_cons_of_neg h]; rfl
theorem fidx_at_ {α : Type} [Inhabited α] (p : α → Bool) (l : List α) (k : Nat) (h : fidx p l = (k : Int)) : p l[k]! = true := by
  unfold fidx at h
  cases e : l.findIdx? p with
  | none => rw [e] at h; simp only [] at h; omega
  | some i =>
    rw [e] at h
    have hik : i = k := by simp only [] at h; omega
    subst hik
    obtain ⟨hi, hp, _⟩ := List.findIdx?_eq_some_iff_getElem.1 e
    rw [getElem!_pos l i hi]
    exact hp
theorem fidx_none_ {α : Type} (p : α → Bool) (l : List α) (h : fidx p l < 0) : l.filter (fun x => !p x) = l := by
  rw [List.filter_eq_self]
  intro x hx
  cases hp : p x with
  | false => rfl
  | true => exact absurd ((fidx_any p l).1 (List.any_eq_true.2 ⟨x, hx, hp⟩)) (by omega)
theorem fidx_take_ {α : Type} (p : α → Bool) (l : List α) (k : Nat) (h : fidx p l = (k : Int)) : (l.take k).filter (fun x => !p x) = l.take k := by
  rw [List.filter_eq_self]
  intro x hx
  unfold fidx at h
  cases e : l.findIdx? p with
  | none => rw [e] at h; simp only [] at h; omega
  | some i =>
    rw [e] at h
    have hik : i = k := by simp only [] at h; omega
    subst hik
    obtain ⟨hi, _, hn⟩ := List.findIdx?_eq_some_iff_getElem.1 e
    obtain ⟨j, hj, rfl⟩ := List.getElem_of_mem hx
    rw [List.length_take] at hj
    rw [List.getElem_take]
    simpa using hn j (by omega)
set_option maxHeartbeats 16000000 in
set_option maxRecDepth 100000 in
theorem delete223 (w0 w : World) (hb0 : Below w0.heap.size w0 w) (A : Option Addr) (c : Nat) (L : List Pr) (g : Nat) (lb : Array Value) (p : Pr → Bool) (eg : ∀ args w, (callFunc g args).run Try.prog w = .ok (.enter g args) w)
    (h : Kd.R kPr 161 w w0.heap.size (fun _ => True) (.slice A L.length c) L) (hp : PredB g lb Pr.cells p w0) :
    Calls Try.prog 223 #[.slice A L.length c, .func (.func g) #[] lb] w fun e w' => ∃ v', e = .returned v' ∧ Kd.R kPr 161 w' w0.heap.size (fun _ => True) v' (L.filter (fun x => !p x)) ∧ Below w0.heap.size w0 w' := by
  have hC := (Kd.R_reads' h).2.2
  have hm : L.length ≤ 9223372036854775807 := hC.2.1
  have HI := Lib.hid (indexFunc168 A c L g lb p eg w hC (fun x W hb => hp x W (bl_trans hb0 hb)))
  have HR := Lib.hid h
  have HP := Lib.hid hp
  have HB0 := Lib.hid hb0
  have B0 := bl_refl w
  clear hC h hp hb0
  by_cases hi : fidx p L < 0
  · have he : fidx p L = -1 := by
      unfold fidx at hi ⊢
      cases e : L.findIdx? p with
      | none => rfl
      | some i => rw [e] at hi; simp only [] at hi; omega
    rw [fidx_none_ p L hi]
    rw [he] at HI
    clear hi he
    go_enter Try.func223, Try.ntmps223
    go_wp2_with fail
    refine HI.out.mono ?_
    rintro e w1 ⟨rfl, hb⟩
    have HB1 := Lib.hid hb
    clear hb
    go_wp2
    go_ret
    exact ⟨_, rfl, Kd.R_below HR.out HB1.out, bl_trans HB0.out HB1.out⟩
  · obtain ⟨k, hk⟩ := Int.eq_ofNat_of_zero_le (Int.not_lt.1 hi)
    have hkl : k < L.length := by have := fidx_lt p L; omega
    have hft := Lib.hid (fidx_take_ p L k hk)
    have hpk := Lib.hid (fidx_at_ p L k hk)
    rw [hk] at HI
    obtain ⟨b, cap, he, hge, hlt_, _⟩ := Kd.R_form HR.out (by omega)
    injection he with e1 _ e3
    subst e1
    have HGE := Lib.hid hge
    have hk1 : ¬ ((k : Int) = -1) := by omega
    have hk2 : ((k : Int) == -1) = false := by simp
    have hw1 : IntKind.i64.wrap ((k : Int) + 1) = (k : Int) + 1 := IntWalk.i64_in _ (by omega)
    clear hi hk hge hlt_ e3
    go_enter Try.func223, Try.ntmps223
    go_wp2_with fail
    refine HI.out.mono ?_
    rintro e w1 ⟨rfl, hb⟩
    have HB1 := Lib.hid (bl_trans HB0.out hb)
    have HR1 := Lib.hid (Kd.R_below HR.out hb)
    clear hb HI HR B0
    go_wp2
    go_loopg [5, 6] L.length (fun gg s5 s6 wr => ∃ (ii jj : Nat) (M : List Pr), ii < jj ∧ jj ≤ L.length ∧ L.length - jj ≤ gg ∧ s5 = .int .i64 ii ∧ s6 = .int .i64 jj ∧ Hid (Kd.R kPr 161 wr w0.heap.size (fun _ => True) (.slice (some ⟨b, 0, none⟩) L.length c) M) ∧ Hid (M.length = L.length) ∧ Hid (M.take ii = (L.take jj).filter (fun x => !p x)) ∧ Hid (∀ j, jj ≤ j → j < L.length → M[j]! = L[j]!) ∧ Hid (Below w0.heap.size w0 wr))
    case atStart =>
      refine ⟨k, k + 1, L, by omega, by omega, by omega, rfl, by first | rfl | (simp; done) | go_num, HR1.out, rfl, ?_, fun _ _ _ => rfl, HB1.out⟩
      show L.take k = _
      rw [filter_take_ (fun x => !p x) L k hkl, hft.out, hpk.out]
      simp
    case round =>
      obtain ⟨ii, jj, M, hij, hjl, hg, rfl, rfl, HR, HML, HT, HE, HB⟩ := hrel
      have ii0 : (0 : Int) ≤ (ii : Int) := by omega
      have jj0 : (0 : Int) ≤ (jj : Int) := by omega
      by_cases hlt : jj < L.length
      · have hltz : (jj : Int) < (L.length : Int) := by omega
        have hiz : (ii : Int) < (L.length : Int) := by omega
        obtain ⟨x, hx⟩ : ∃ x, L[jj]! = x := ⟨_, rfl⟩
        obtain ⟨hcs, _⟩ := flat_own HR.out jj (by rw [HML.out]; exact hlt)
        rw [HE.out jj (Nat.le_refl _) hlt, hx] at hcs
        have x0 := hcs 0 _ rfl
        have x1 := hcs 1 _ rfl
        simp only [Nat.add_zero] at x0
        have HX := Lib.hid hx
        have hftk := Lib.hid (filter_take_ (fun x => !p x) L jj hlt)
        have hbx : Below w0.heap.size w0 (wr.alloc (.cells x.cells.toArray 161)) := bl_alloc _ HB.out
        have hcall : Calls Try.prog g (#[.agg #[.string x.key, .string x.val]] ++ lb) (wr.alloc (.cells #[.string x.key, .string x.val] 161)) _ := HP.out x _ hbx
        have KV := blk_new wr (.cells #[.string x.key, .string x.val] 161)
        have HRA := Lib.hid (Kd.R_alloc HR.out (.cells #[.string x.key, .string x.val] 161))
        have HKV := Lib.hid KV
        have HBX := Lib.hid hbx
        clear hcs hx hbx KV
        cases hq : p x with
        | true =>
          have HQ := Lib.hid hq
          rw [hq] at hcall
          have HCA := Lib.hid hcall
          clear hq hcall
          go_wp2_with fail
          refine HCA.out.mono ?_
          rintro e w2 ⟨rfl, hb⟩
          have HR2 := Lib.hid (Kd.R_below HRA.out hb)
          have HB2 := Lib.hid (bl_trans HBX.out hb)
          clear hb x0 x1
          go_wp2
          go_roundg (L.length - (jj + 1))
          case measure => omega
          case rel =>
            refine ⟨ii, jj + 1, M, by omega, by omega, by omega, rfl, by go_num, HR2.out, HML.out, ?_, fun j h1 h2 => HE.out j (by omega) h2, HB2.out⟩
            show M.take ii = _
            rw [hftk.out, HX.out, HQ.out, HT.out]
            simp
        | false =>
          have HQ := Lib.hid hq
          rw [hq] at hcall
          have HCA := Lib.hid hcall
          clear hq hcall
          go_wp2_with fail
          refine HCA.out.mono ?_
          rintro e w2 ⟨rfl, hb⟩
          have HR2 := Lib.hid (Kd.R_below HRA.out hb)
          have HB2 := Lib.hid (bl_trans HBX.out hb)
          have hiM : ii < M.length := by have := HML.out; omega
          obtain ⟨hcs, hfs⟩ := flat_own HR2.out ii hiM
          obtain ⟨y, hy⟩ : ∃ y, M[ii]! = y := ⟨_, rfl⟩
          rw [hy] at hcs
          have q0 := hcs 0 _ rfl
          have q1 := hcs 1 _ rfl
          have f0 := hfs 0
          have f1 := hfs 1
          simp only [Nat.add_zero] at q0 f0
          have rv := blk_cells (blk_below HKV.out hb)
          have B2 := bl_refl w2
          have HIM := Lib.hid hiM
          clear hb x0 x1 hcs hfs hy hiM
          go_wp2
          go_roundg (L.length - (jj + 1))
          case measure => omega
          case rel =>
            refine ⟨ii + 1, jj + 1, M.set ii x, by omega, by omega, by omega, by go_num, by go_num, pr_store HR2.out ii HIM.out x, (show (M.set ii x).length = _ by rw [List.length_set]; exact HML.out), ?_, ?_, ?_⟩
            · show (M.set ii x).take (ii + 1) = _
              rw [hftk.out, HX.out, HQ.out, ← HT.out, List.take_succ_eq_append_getElem (by rw [List.length_set]; exact HIM.out), List.take_set_of_le (Nat.le_refl _)]
              simp
            · intro j h1 h2
              have hjM : j < M.length := by have := HML.out; omega
              have := HE.out j (by omega) h2
              rw [getElem!_pos (M.set ii x) j (by rw [List.length_set]; exact hjM), List.getElem_set_ne (by omega)]
              rwa [getElem!_pos M j hjM] at this
            · repeat refine bl_set ?_ HGE.out
              exact HB2.out
      · have hltz : ¬ (jj : Int) < (L.length : Int) := by omega
        have hiz : (ii : Int) ≤ (L.length : Int) := by omega
        have heq : jj = L.length := by omega
        have hTT := Lib.hid (show M.take ii = L.filter (fun x => !p x) by rw [HT.out, heq, List.take_length])
        clear heq
        have hcap := (Kd.R_reads' HR.out).2.1
        have HCAP := Lib.hid hcap
        go_wp2_with ((with_reducible refine g_bi (b := .clear) (xs := #[.tmp 38]) rfl ?_); refine Stop.go ?_)
        obtain ⟨W', hrun, hR', hgr, hge⟩ := flat_clear (P := Try.prog) (t := 61) (e := 161) (ty := 0) (c' := c - ii) Try.underlying61 info161 rfl (by intro u hu; simp [Value.cells] at hu; rcases hu with rfl | rfl <;> rfl) HR.out ii (by have := HML.out; omega)
        rw [HML.out] at hrun
        refine ⟨Kd.event_run rfl (v := .tuple #[]) (w1 := W') (by go_simp) ?_⟩
        have HR' := Lib.hid hR'
        have HB' := Lib.hid (bl_grown HB.out hgr hge HB.out.size)
        clear hrun hR' hgr hge
        go_wp2
        go_ret
        exact ⟨_, rfl, by rw [← hTT.out]; exact HR'.out, HB'.out⟩
end Go.Proofs.Ytkcebmamohimoaa
namespace Go.Proofs.Ytkcebmamohimoaa
open Go.RowKit Go.Proofs.YtkcebmamohimoaaW.PrintWords
set_option linter.unusedVariables false
set_option linter.unusedSimpArgs false
attribute [local go_sem] bl_refl bl_alloc bl_drew bl_drewN bl_setr
def tDrop (L : List Pr) (key : ByteArray) : List Pr := L.filter (fun x => !ek x.key key)
set_option maxHeartbeats 8000000 in
set_option maxRecDepth 100000 in
theorem drop199 (A : Option Addr) (c : Nat) (L : List Pr) (key : ByteArray) (w : World) (h : Kd.C kPr w A L.length L) (hc : L.length ≤ c) (hlim : (L.length + 1) * 32 ≤ 140737488355328) :
    Calls Try.prog 199 #[.slice A L.length c, .string key] w fun e w' => ∃ v, e = .returned v ∧ Kd.R kPr 161 w' w.heap.size (fun _ => True) v (tDrop L key) ∧ Below w.heap.size w w' := by
  obtain ⟨W, hW, K1, HW, hs⟩ := boxes1 w #[.string key] 9
  have HC := Lib.hid (Kd.C_below h HW)
  have HL := Lib.hid hc
  have HLIM := Lib.hid hlim
  have r1 := blk_cells K1
  have HP := Lib.hid (pred224 w.heap.size key W (by omega) ((blk_cell K1 0).trans rfl))
  have HWW := Lib.hid hW
  have HWB := Lib.hid HW
  have HS := Lib.hid hs
  have B0 : Below W.heap.size W W := bl_refl W
  clear h hc hlim hW HW K1 hs
  go_enter Try.func199, Try.ntmps199
  go_wp2_with fail
  rw [HWW.out]
  refine (clone165 A c L W HC.out HL.out (by have := HLIM.out; omega)).mono ?_
  rintro e w1 ⟨v1, rfl, hR1, hb⟩
  obtain ⟨B4, d4, rfl⟩ := Kd.R_slice hR1
  have B1 : Below W.heap.size W w1 := hb
  have HR1 := Lib.hid hR1
  clear hb hR1 B0
  go_wp2_with fail
  refine (delete223 W w1 B1 B4 d4 L 224 #[.pointer (some ⟨w.heap.size, 0, none⟩)] (fun x => ek x.key key) enters224 HR1.out HP.out).mono ?_
  rintro e w2 ⟨v2, rfl, hR2, hb⟩
  have HR2 := Lib.hid hR2
  have HB2 := Lib.hid hb
  clear hb hR2 B1
  go_wp2
  go_ret
  exact ⟨_, rfl, Kd.R_lower HR2.out (by have := HS.out; omega), bl_trans HWB.out HB2.out⟩
set_option maxHeartbeats 8000000 in
set_option maxRecDepth 100000 in
theorem put166 (A : Option Addr) (c : Nat) (L : List Pr) (x : Wr) (w : World) (h : Kd.C kPr w A L.length L) (hc : L.length ≤ c) (hlim : (L.length + 1) * 32 ≤ 140737488355328) :
    Calls Try.prog 166 #[.agg #[.string x.key, .string x.val, .bool x.del], .slice A L.length c] w fun e w' => ∃ v, e = .returned v ∧ Kd.R kPr 161 w' w.heap.size (fun _ => True) v (tPut L x.key x.val) ∧ Below w.heap.size w w' := by
  obtain ⟨W, hW, K1, HW, hs⟩ := boxes1 w #[.string x.key, .string x.val, .bool x.del] 216
  have HP := Lib.hid (put124 A c L x.key x.val W (Kd.C_below h HW) hc hlim)
  have r1 := blk_cells K1
  have HWW := Lib.hid hW
  have HWB := Lib.hid HW
  have HS := Lib.hid hs
  have B0 : Below W.heap.size W W := bl_refl W
  clear h hc hlim hW HW K1 hs
  go_enter Try.func166, Try.ntmps166
  go_wp2_with fail
  rw [HWW.out]
  refine HP.out.mono ?_
  rintro e w1 ⟨v1, rfl, hR1, hb⟩
  have HR1 := Lib.hid hR1
  have HB1 := Lib.hid hb
  clear hb hR1 B0
  go_wp2
  go_ret
  exact ⟨_, rfl, Kd.R_lower HR1.out (by have := HS.out; omega), bl_trans HWB.out HB1.out⟩
set_option maxHeartbeats 8000000 in
set_option maxRecDepth 100000 in
theorem drop167 (A : Option Addr) (c : Nat) (L : List Pr) (x : Wr) (w : World) (h : Kd.C kPr w A L.length L) (hc : L.length ≤ c) (hlim : (L.length + 1) * 32 ≤ 140737488355328) :
    Calls Try.prog 167 #[.agg #[.string x.key, .string x.val, .bool x.del], .slice A L.length c] w fun e w' => ∃ v, e = .returned v ∧ Kd.R kPr 161 w' w.heap.size (fun _ => True) v (tDrop L x.key) ∧ Below w.heap.size w w' := by
  obtain ⟨W, hW, K1, HW, hs⟩ := boxes1 w #[.string x.key, .string x.val, .bool x.del] 216
  have HP := Lib.hid (drop199 A c L x.key W (Kd.C_below h HW) hc hlim)
  have r1 := blk_cells K1
  have HWW := Lib.hid hW
  have HWB := Lib.hid HW
  have HS := Lib.hid hs
  have B0 : Below W.heap.size W W := bl_refl W
  clear h hc hlim hW HW K1 hs
  go_enter Try.func167, Try.ntmps167
  go_wp2_with fail
  rw [HWW.out]
  refine HP.out.mono ?_
  rintro e w1 ⟨v1, rfl, hR1, hb⟩
  have HR1 := Lib.hid hR1
  have HB1 := Lib.hid hb
  clear hb hR1 B0
  go_wp2
  go_ret
  exact ⟨_, rfl, Kd.R_lower HR1.out (by have := HS.out; omega), bl_trans HWB.out HB1.out⟩
/-- One write done. -/
def tWrite (L : List Pr) (x : Wr) : List Pr := if x.del then tDrop L x.key else tPut L x.key x.val
def tApply (L : List Pr) (ws : List Wr) : List Pr := ws.foldl tWrite L
theorem tPut_len (L : List Pr) (key val : ByteArray) : (tPut L key val).length ≤ L.length + 1 := by
  unfold tPut
  split
  · rw [List.length_set]; omega
  · split
    · simp; omega
    · simp
theorem tWrite_len (L : List Pr) (x : Wr) : (tWrite L x).length ≤ L.length + 1 := by
  unfold tWrite
  split
  · exact Nat.le_succ_of_le (List.length_filter_le _ _)
  · exact tPut_len _ _ _
end Go.Proofs.Ytkcebmamohimoaa
namespace Go.Proofs.Ytkcebmamohimoaa
open Go.RowKit Go.Proofs.YtkcebmamohimoaaW.PrintWords
set_option linter.unusedVariables false
set_option linter.unusedSimpArgs false
attribute [local go_sem] bl_refl bl_alloc bl_drew bl_drewN bl_setr
set_option maxHeartbeats 16000000 in
set_option maxRecDepth 100000 in
theorem apply123 (A A2 : Option Addr) (c c2 : Nat) (L : List Pr) (ws : List Wr) (w : World) (h : Kd.C kPr w A L.length L) (hc : L.length ≤ c) (h2 : Kd.C kWr w A2 ws.length ws) (hlim : (L.length + ws.length + 1) * 32 ≤ 140737488355328) :
    Calls Try.prog 123 #[.slice A L.length c, .slice A2 ws.length c2] w fun e w' => ∃ v, e = .returned v ∧ Kd.R kPr 161 w' w.heap.size (fun _ => True) v (tApply L ws) ∧ Below w.heap.size w w' := by
  have HC := Lib.hid h
  have HC2 := Lib.hid h2
  have HL := Lib.hid hc
  have HLIM := Lib.hid (show L.length + ws.length + 1 ≤ 4398046511104 by omega)
  have B0 : Below w.heap.size w w := bl_refl w
  have hm2 : ws.length ≤ 9223372036854775807 := h2.2.1
  clear h hc hlim h2
  go_enter Try.func123, Try.ntmps123
  go_wp2_with fail
  refine (clone165 A c L w HC.out HL.out (by have := HLIM.out; omega)).mono ?_
  rintro e w1 ⟨v1, rfl, hR1, hb⟩
  obtain ⟨B4, d4, rfl⟩ := Kd.R_slice hR1
  have HB1 := Lib.hid hb
  have HR1 := Lib.hid hR1
  clear hb hR1 B0
  go_wp2_with fail
  go_loopg [12, 0] ws.length (fun gg s12 s0 wr => ∃ (j : Nat) (M : List Pr) (A' : Option Addr) (c' : Nat), j ≤ ws.length ∧ ws.length - j ≤ gg ∧ s12 = .int .i64 j ∧ s0 = .slice A' M.length c' ∧ Hid (Kd.R kPr 161 wr w.heap.size (fun _ => True) (.slice A' M.length c') M) ∧ Hid (M.length ≤ L.length + j) ∧ Hid (tApply M (ws.drop j) = tApply L ws) ∧ Hid (Below w.heap.size w wr))
  case atStart => exact ⟨0, L, B4, d4, Nat.zero_le _, by omega, rfl, rfl, HR1.out, (show L.length ≤ L.length + 0 by omega), (show tApply L (ws.drop 0) = _ by rw [List.drop_zero]), HB1.out⟩
  case round =>
    obtain ⟨j, M, A', c', hj, hg, rfl, rfl, HR, HLN, HT, HB⟩ := hrel
    by_cases hlt : j < ws.length
    · have hltz : (j : Int) < (ws.length : Int) := by omega
      have hltz' : (0 : Int) ≤ (j : Int) := by omega
      obtain ⟨x, hx⟩ : ∃ x, ws[j]! = x := ⟨_, rfl⟩
      obtain ⟨ad, rfl, x0, x1, x2⟩ := Wr.at (Kd.C_below HC2.out HB.out) j hlt
      rw [hx] at x0 x1 x2
      have y0 := cell_rule x0
      have y1 := cell_rule x1
      have y2 := cell_rule x2
      have HT2 := Lib.hid (show tApply (tWrite M x) (ws.drop (j + 1)) = tApply L ws by
        have := HT.out
        rw [List.drop_eq_getElem_cons hlt, ← getElem!_pos ws j hlt, hx] at this
        exact this)
      have HTL := Lib.hid (show (tWrite M x).length ≤ L.length + (j + 1) by have := tWrite_len M x; have := HLN.out; omega)
      have Bwr : Below wr.heap.size wr wr := bl_refl wr
      clear x0 x1 x2 hx
      have hR' := Kd.R_alloc HR.out (.cells #[.string x.key, .string x.val, .bool x.del] 127)
      have HRA := Lib.hid hR'
      have HCR := Lib.hid (Kd.R_reads' hR')
      clear hR'
      have hbx := bl_alloc (.cells #[.string x.key, .string x.val, .bool x.del] 127) HB.out
      have HBX := Lib.hid hbx
      have hlim1 : M.length + 1 ≤ 4398046511104 := Nat.le_trans (Nat.succ_le_succ HLN.out) (by have := HLIM.out; omega)
      have hlim2 : (M.length + 1) * 32 ≤ 140737488355328 := by omega
      have HLM := Lib.hid hlim2
      clear hbx hlim1 hlim2
      cases hd : x.del with
      | false =>
        have HTW := Lib.hid (show tWrite M x = tPut M x.key x.val by unfold tWrite; rw [hd]; rfl)
        have HP := Lib.hid (put166 A' c' M x _ HCR.out.2.2 HCR.out.2.1 HLM.out)
        rw [hd] at HP HBX
        go_wp2_with fail
        refine HP.out.mono ?_
        rintro e w2 ⟨v2, rfl, hR2, hb⟩
        obtain ⟨B5, d5, rfl⟩ := Kd.R_slice hR2
        rw [← HTW.out] at hR2 ⊢
        have HR2 := Lib.hid (Kd.R_lower hR2 HBX.out.size)
        have HB2 := Lib.hid (bl_trans HBX.out hb)
        clear hR2 hb
        go_wp2
        go_roundg (ws.length - (j + 1))
        case measure => omega
        case rel => exact ⟨j + 1, _, B5, d5, by omega, by omega, by go_num, rfl, HR2.out, HTL.out, HT2.out, HB2.out⟩
      | true =>
        have HTW := Lib.hid (show tWrite M x = tDrop M x.key by unfold tWrite; rw [hd]; rfl)
        have HP := Lib.hid (drop167 A' c' M x _ HCR.out.2.2 HCR.out.2.1 HLM.out)
        rw [hd] at HP HBX
        go_wp2_with fail
        refine HP.out.mono ?_
        rintro e w2 ⟨v2, rfl, hR2, hb⟩
        obtain ⟨B5, d5, rfl⟩ := Kd.R_slice hR2
        rw [← HTW.out] at hR2 ⊢
        have HR2 := Lib.hid (Kd.R_lower hR2 HBX.out.size)
        have HB2 := Lib.hid (bl_trans HBX.out hb)
        clear hR2 hb
        go_wp2
        go_roundg (ws.length - (j + 1))
        case measure => omega
        case rel => exact ⟨j + 1, _, B5, d5, by omega, by omega, by go_num, rfl, HR2.out, HTL.out, HT2.out, HB2.out⟩
    · have hltz : ¬ (j : Int) < (ws.length : Int) := by omega
      have he : j = ws.length := by omega
      have HTT := Lib.hid (show M = tApply L ws by rw [← HT.out, he, List.drop_length]; rfl)
      clear he
      go_wp2
      go_ret
      exact ⟨_, rfl, by rw [← HTT.out]; exact HR.out, HB.out⟩
end Go.Proofs.Ytkcebmamohimoaa
