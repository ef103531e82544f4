/- The printed functions that take numbers and texts, as plain functions on lists of bytes. -/
import Derived.Test.YtkcebmamohimoaaN1
import Derived.Test.YtkcebmamohimoaaPBatchBytesx6
namespace Go.Proofs.Ytkcebmamohimoaa
open Go.RowKit Go.Proofs.YtkcebmamohimoaaW.PrintWords
set_option linter.unusedVariables false
set_option linter.unusedSimpArgs false
def tellL : Bs → Nat → Option Nat
  | [], v => some v
  | c :: t, v => if big ≤ 10 * v + (c.toNat - 48) then none else tellL t (10 * v + (c.toNat - 48))
def foldV (d : Bs) (v : Nat) : Nat := d.foldl (fun a c => 10 * a + (c.toNat - 48)) v
theorem foldV_le (d : Bs) (v : Nat) : v ≤ foldV d v := by
  induction d generalizing v with
  | nil => exact Nat.le_refl _
  | cons c t ih => have := ih (10 * v + (c.toNat - 48)); show v ≤ foldV t (10 * v + (c.toNat - 48)); omega
theorem tellL_eq (d : Bs) (v : Nat) (hv : v < big) : tellL d v = if big ≤ foldV d v then none else some (foldV d v) := by
  induction d generalizing v with
  | nil => show some v = if big ≤ v then none else some v; rw [if_neg (by omega)]
  | cons c t ih =>
    show (if big ≤ 10 * v + (c.toNat - 48) then none else tellL t (10 * v + (c.toNat - 48))) = if big ≤ foldV t (10 * v + (c.toNat - 48)) then none else some (foldV t (10 * v + (c.toNat - 48)))
    split
    · have := foldV_le t (10 * v + (c.toNat - 48)); rw [if_pos (by omega)]
    · exact ih _ (by omega)
theorem size_len (s : ByteArray) : s.size = s.data.toList.length := (Array.length_toList (xs := s.data)).symm
theorem isDig_t {c : UInt8} (h : isDig c = true) : 48 ≤ c.toNat ∧ c.toNat ≤ 57 := by unfold isDig at h; simpa only [Bool.and_eq_true, decide_eq_true_eq] using h
theorem isDig_f {c : UInt8} (h : isDig c = false) : ¬ (48 ≤ c.toNat ∧ c.toNat ≤ 57) := fun h' => by unfold isDig at h; rw [decide_eq_true h'.1, decide_eq_true h'.2] at h; cases h
theorem bt_L (s : ByteArray) (j : Nat) (h : j < s.data.toList.length) : bt s (j : Int) = ((s.data.toList[j].toNat : Nat) : Int) := by
  have h' : ((j : Int).toNat) < s.size := by rw [size_len]; simpa using h
  unfold bt
  rw [dif_pos h']
  rfl
theorem dig_sub (c : UInt8) (h : isDig c = true) : ((c.toNat : Int) - 48) % 256 = ((c.toNat - 48 : Nat) : Int) := by
  have := isDig_t h; omega
theorem w64 (n : Int) (h : 0 ≤ n ∧ n ≤ 4611686018427387904) : wrap64 (n + 1) = n + 1 := by unfold wrap64; omega
open PBatchBytes in
theorem told_l0 (s : ByteArray) (hs : s.size ≤ 4611686018427387904) (rest : Bs) : ∀ (j v k : Nat), s.data.toList.drop j = rest → (∀ c ∈ rest, isDig c = true) → v < big → j ≤ s.size →
    dec_told.l0 (rest.length + 1 + k) s (v : Int) (s.size : Int) (j : Int) = match tellL rest v with | some r => some ((r : Int), true) | none => some (0, false) := by
  induction rest with
  | nil =>
    intro j v k hd _ _ hj
    have hl : s.size ≤ j := by rw [size_len]; exact List.drop_eq_nil_iff.1 hd
    show dec_told.l0 (0 + 1 + k) s v s.size j = some ((v : Int), true)
    rw [show 0 + 1 + k = k + 1 by omega]
    simp only [dec_told.l0]
    rw [if_neg (by omega)]
  | cons c t ih =>
    intro j v k hd hdig hv hj
    have hlt : j < s.data.toList.length := by
      rcases Nat.lt_or_ge j s.data.toList.length with h | h
      · exact h
      · rw [List.drop_eq_nil_of_le h] at hd; cases hd
    rw [List.drop_eq_getElem_cons hlt, List.cons.injEq] at hd
    obtain ⟨h1, h2⟩ := hd
    have hc := hdig c (by simp)
    have hb : bt s (j : Int) = (c.toNat : Int) := by rw [bt_L s j hlt, h1]
    have hjs : j < s.size := by rw [size_len]; exact hlt
    show dec_told.l0 (t.length + 1 + 1 + k) s v s.size j = _
    rw [show t.length + 1 + 1 + k = (t.length + 1 + k) + 1 by omega]
    simp only [dec_told.l0]
    rw [if_pos (by omega), if_pos (by omega), if_pos (by omega), hb, dig_sub c hc, w64 _ (by omega)]
    have hc' : c.toNat - 48 ≤ 9 := by have := isDig_t hc; omega
    show _ = match (if big ≤ 10 * v + (c.toNat - 48) then none else tellL t (10 * v + (c.toNat - 48))) with | some r => some ((r : Int), true) | none => some (0, false)
    unfold big at hv ⊢
    split
    · rw [if_pos (by omega)]
    · rw [if_neg (by omega)]
      have e1 : IntKind.u64.wrap (10 * (v : Int)) = 10 * (v : Int) := IntWalk.u64_in _ ⟨by omega, by omega⟩
      rw [e1]
      have e2 : IntKind.u64.wrap (10 * (v : Int) + ((c.toNat - 48 : Nat) : Int)) = ((10 * v + (c.toNat - 48) : Nat) : Int) := by rw [IntWalk.u64_in _ ⟨by omega, by omega⟩]; omega
      rw [e2]
      have := ih (j + 1) (10 * v + (c.toNat - 48)) k h2 (fun c hc => hdig c (by simp [hc])) (by unfold big; omega) (by omega)
      rw [show ((j + 1 : Nat) : Int) = (j : Int) + 1 by omega] at this
      exact this
open PBatchBytes in
theorem told_f (s : ByteArray) (hs : s.size ≤ 4611686018427387904) (hd : ∀ c ∈ s.data.toList, isDig c = true) :
    ∃ k, dec_told.f k s = if big ≤ val s.data.toList then some (0, false) else some (((val s.data.toList : Nat) : Int), true) := by
  refine ⟨s.data.toList.length + 1 + 0, ?_⟩
  have h := told_l0 s hs s.data.toList 0 0 0 rfl hd (by decide) (Nat.zero_le _)
  rw [tellL_eq _ _ (by decide)] at h
  unfold dec_told.f
  refine Eq.trans h ?_
  show (match (if big ≤ val s.data.toList then none else some (val s.data.toList)) with | some r => some ((r : Int), true) | none => some (0, false)) = _
  split <;> rename_i h1 <;> split at h1 <;> simp_all
open PBatchBytes in
theorem tn_l1 (s : ByteArray) (hs : s.size ≤ 4611686018427387904) (n : Nat) (hn : n ≤ s.size) (rest : Bs) : ∀ (j v k : Nat), (s.data.toList.take n).drop j = rest → (∀ c ∈ rest, isDig c = true) → v < big → j ≤ n →
    stanchionref01_TakeNum.l1 (rest.length + 1 + k) s (n : Int) (v : Int) (j : Int) = match tellL rest v with
      | none => some (0, ⟨#[]⟩, 3)
      | some r => if n = s.size then some (0, ⟨#[]⟩, 2) else if s.data.toList[n]? = some 59 ∧ n ≠ 0 then some ((r : Int), s.extract (n + 1) s.size, 0) else some (0, ⟨#[]⟩, 3) := by
  induction rest with
  | nil =>
    intro j v k hd _ _ hj
    have hl : n ≤ j := by have := List.drop_eq_nil_iff.1 hd; rw [List.length_take, ← size_len] at this; omega
    show stanchionref01_TakeNum.l1 (0 + 1 + k) s n v j = if n = s.size then some (0, ⟨#[]⟩, 2) else if s.data.toList[n]? = some 59 ∧ n ≠ 0 then some ((v : Int), s.extract (n + 1) s.size, 0) else some (0, ⟨#[]⟩, 3)
    rw [show 0 + 1 + k = k + 1 by omega]
    simp only [stanchionref01_TakeNum.l1]
    rw [if_neg (by omega)]
    by_cases h1 : n = s.size
    · rw [if_pos (by omega), if_pos h1]
    · rw [if_neg (by omega), if_neg h1, if_pos (by omega), if_pos (by omega)]
      have hlt : n < s.data.toList.length := by rw [← size_len]; omega
      rw [bt_L s n hlt, List.getElem?_eq_getElem hlt]
      by_cases h2 : s.data.toList[n] = 59
      · rw [if_pos (by rw [h2]; rfl)]
        by_cases h3 : n = 0
        · rw [if_pos (by omega), if_neg (fun h => h.2 h3)]
        · rw [if_neg (by omega), w64 _ (by omega), if_pos (by omega), if_pos (by omega), if_pos ⟨by rw [h2], h3⟩]
          rw [show ((n : Int) + 1).toNat = n + 1 by omega]
      · rw [if_neg (fun h => h2 (UInt8.toNat_inj.1 (show _ = 59 by omega))), if_neg (fun h => h2 (by simpa using h.1))]
  | cons c t ih =>
    intro j v k hd hdig hv hj
    have hlt' : j < (s.data.toList.take n).length := by
      rcases Nat.lt_or_ge j (s.data.toList.take n).length with h | h
      · exact h
      · rw [List.drop_eq_nil_of_le h] at hd; cases hd
    have hlt : j < s.data.toList.length ∧ j < n := by rw [List.length_take] at hlt'; omega
    rw [List.drop_eq_getElem_cons hlt', List.cons.injEq] at hd
    obtain ⟨h1, h2⟩ := hd
    rw [List.getElem_take] at h1
    have hc := hdig c (by simp)
    have hb : bt s (j : Int) = (c.toNat : Int) := by rw [bt_L s j hlt.1, h1]
    have hjs : j < s.size := by rw [size_len]; exact hlt.1
    show stanchionref01_TakeNum.l1 (t.length + 1 + 1 + k) s n v j = _
    rw [show t.length + 1 + 1 + k = (t.length + 1 + k) + 1 by omega]
    simp only [stanchionref01_TakeNum.l1]
    rw [if_pos (by omega), if_pos (by omega), if_pos (by omega), hb, dig_sub c hc, w64 _ (by omega)]
    have hc' : c.toNat - 48 ≤ 9 := by have := isDig_t hc; omega
    have e1 : v < 18446744073709551616 → 10 * v + (c.toNat - 48) < big → IntKind.u64.wrap (IntKind.u64.wrap (10 * (v : Int)) + ((c.toNat - 48 : Nat) : Int)) = ((10 * v + (c.toNat - 48) : Nat) : Int) := fun h3 h4 => by
      unfold big at h4
      rw [IntWalk.u64_in (10 * (v : Int)) (And.intro (by omega) (by omega)), IntWalk.u64_in (10 * (v : Int) + ((c.toNat - 48 : Nat) : Int)) (And.intro (by omega) (by omega))]; omega
    have hih := fun h4 : 10 * v + (c.toNat - 48) < big => ih (j + 1) (10 * v + (c.toNat - 48)) k h2 (fun c hc => hdig c (by simp [hc])) h4 (by omega)
    show _ = match (if big ≤ 10 * v + (c.toNat - 48) then none else tellL t (10 * v + (c.toNat - 48))) with
      | none => some ((0 : Int), (⟨#[]⟩ : ByteArray), (3 : Int))
      | some r => if n = s.size then some (0, (⟨#[]⟩ : ByteArray), 2) else if s.data.toList[n]? = some 59 ∧ n ≠ 0 then some ((r : Int), s.extract (n + 1) s.size, 0) else some (0, (⟨#[]⟩ : ByteArray), 3)
    by_cases hbig : big ≤ 10 * v + (c.toNat - 48)
    · rw [if_pos hbig]
      unfold big at hbig
      by_cases h5 : (v : Int) > 1844674407370955161
      · rw [if_pos h5]
      · rw [if_neg h5, if_pos (by omega), if_pos (by omega)]
    · rw [if_neg hbig]
      have hbig' : 10 * v + (c.toNat - 48) < big := by omega
      have hih' := hih hbig'
      rw [show ((j + 1 : Nat) : Int) = (j : Int) + 1 by omega] at hih'
      rw [e1 hv hbig']
      unfold big at hbig
      rw [if_neg (by omega)]
      by_cases h6 : (v : Int) = 1844674407370955161
      · rw [if_pos h6, if_neg (by omega)]; exact hih'
      · rw [if_neg h6]; exact hih'
/-- How many figures a text begins with. -/
def ndig (l : Bs) : Nat := (l.takeWhile isDig).length
theorem take_tw {α : Type} (p : α → Bool) (l : List α) : l.take (l.takeWhile p).length = l.takeWhile p := by
  induction l with
  | nil => rfl
  | cons x t ih =>
    cases hx : p x with
    | true => rw [List.takeWhile_cons_of_pos hx, List.length_cons, List.take_succ_cons, ih]
    | false => rw [List.takeWhile_cons_of_neg (by simp [hx])]; rfl
theorem drop_tw {α : Type} (p : α → Bool) (l : List α) : l.drop (l.takeWhile p).length = l.dropWhile p := by
  induction l with
  | nil => rfl
  | cons x t ih =>
    cases hx : p x with
    | true => rw [List.takeWhile_cons_of_pos hx, List.dropWhile_cons_of_pos hx, List.length_cons, List.drop_succ_cons, ih]
    | false => rw [List.takeWhile_cons_of_neg (by simp [hx]), List.dropWhile_cons_of_neg (by simp [hx])]; rfl
theorem take_ndig (l : Bs) : l.take (ndig l) = l.takeWhile isDig := take_tw isDig l
theorem drop_ndig (l : Bs) : l.dropWhile isDig = l.drop (ndig l) := (drop_tw isDig l).symm
theorem ndig_lt (l : Bs) (j : Nat) (h : j < ndig l) : ∃ hj : j < l.length, isDig l[j] = true := by
  have hl : ndig l ≤ l.length := by unfold ndig; exact List.Sublist.length_le (List.takeWhile_sublist _)
  refine ⟨by omega, ?_⟩
  have h1 : (l.take (ndig l))[j]? = some l[j] := by rw [List.getElem?_take]; rw [if_pos h, List.getElem?_eq_getElem]
  rw [take_ndig] at h1
  exact all_takeWhile_ isDig l _ (List.mem_of_getElem? h1)
theorem ndig_at (l : Bs) (h : ndig l < l.length) : isDig (l[ndig l]'h) = false := by
  have h2 := List.head?_dropWhile_not isDig l
  rw [drop_ndig, List.drop_eq_getElem_cons h, List.head?_cons] at h2
  exact h2
theorem ndig_le (l : Bs) : ndig l ≤ l.length := by unfold ndig; exact List.Sublist.length_le (List.takeWhile_sublist _)
open PBatchBytes in
theorem tn_l0 (s : ByteArray) (hs : s.size ≤ 4611686018427387904) : ∀ (d j k : Nat), j + d = ndig s.data.toList →
    stanchionref01_TakeNum.l0 (d + 1 + k) s (j : Int) = stanchionref01_TakeNum.j1 k s (ndig s.data.toList : Nat) := by
  intro d
  have hle := ndig_le s.data.toList
  rw [← size_len] at hle
  induction d with
  | zero =>
    intro j k hj
    rw [show 0 + 1 + k = k + 1 by omega]
    simp only [stanchionref01_TakeNum.l0]
    rw [Nat.add_zero] at hj
    subst hj
    by_cases h : ndig s.data.toList < s.data.toList.length
    · have hf := ndig_at s.data.toList h
      have h' : ndig s.data.toList < s.size := by rw [size_len]; exact h
      rw [if_pos (by omega), if_pos (by omega), bt_L s _ h]
      have hf := isDig_f hf
      by_cases h1 : ((s.data.toList[ndig s.data.toList].toNat : Nat) : Int) ≥ 48
      · rw [if_pos h1, if_neg (by omega)]
      · rw [if_neg h1]
    · rw [if_neg (by rw [size_len]; omega)]
  | succ d ih =>
    intro j k hj
    rw [show d + 1 + 1 + k = (d + 1 + k) + 1 by omega]
    simp only [stanchionref01_TakeNum.l0]
    obtain ⟨h1, h2⟩ := ndig_lt s.data.toList j (by omega)
    rw [if_pos (by omega), if_pos (by omega), bt_L s j h1]
    have h2 := isDig_t h2
    rw [if_pos (by omega), if_pos (by omega), w64 _ (by omega)]
    have := ih (j + 1) k (by omega)
    rwa [show ((j + 1 : Nat) : Int) = (j : Int) + 1 by omega] at this
/-- A list of bytes as a string. -/
def bS (l : Bs) : ByteArray := ⟨l.toArray⟩
theorem bS_toList (l : Bs) : (bS l).data.toList = l := rfl
theorem bS_data (s : ByteArray) : bS s.data.toList = s := by cases s with | mk d => unfold bS; rw [Array.toArray_toList]
theorem bS_inj (s t : ByteArray) (h : s.data.toList = t.data.toList) : s = t := by rw [← bS_data s, ← bS_data t, h]
theorem extract_L (s : ByteArray) (a : Nat) : s.extract a s.size = bS (s.data.toList.drop a) := by
  apply bS_inj
  rw [bS_toList, ByteArray.data_extract, Array.toList_extract, List.extract_eq_drop_take', size_len]
  rw [List.take_length]
theorem extract_T (s : ByteArray) (a : Nat) : s.extract 0 a = bS (s.data.toList.take a) := by
  apply bS_inj
  rw [bS_toList, ByteArray.data_extract, Array.toList_extract, List.extract_eq_drop_take']
  rfl
theorem tnL_eq (l : Bs) : tnL l = if 20 < ndig l ∨ (1 < ndig l ∧ l.head? = some 48) then ((0 : Nat), ([] : Bs), (3 : Int)) else match tellL (l.take (ndig l)) 0 with
      | none => (0, [], 3)
      | some r => if ndig l = l.length then (0, [], 2) else if l[ndig l]? = some 59 ∧ ndig l ≠ 0 then (r, l.drop (ndig l + 1), 0) else (0, [], 3) := by
  have e : tellL (l.take (ndig l)) 0 = if big ≤ val (l.takeWhile isDig) then none else some (val (l.takeWhile isDig)) := by rw [take_ndig]; exact tellL_eq _ _ (by decide)
  have hn : (l.takeWhile isDig ≠ []) ↔ ndig l ≠ 0 := by unfold ndig; rw [Ne, Ne, List.length_eq_zero_iff]
  unfold tnL
  rw [drop_ndig, e, show (l.takeWhile isDig).length = ndig l from rfl]
  by_cases h1 : 20 < ndig l ∨ (1 < ndig l ∧ l.head? = some 48)
  · rw [if_pos h1, if_pos (h1.elim .inl (fun h => .inr (.inl h)))]
  · rw [if_neg h1]
    by_cases h2 : big ≤ val (l.takeWhile isDig)
    · rw [if_pos (.inr (.inr h2)), if_pos h2]
    · rw [if_neg (by rintro (h | h | h); exact h1 (.inl h); exact h1 (.inr h); exact h2 h), if_neg h2]
      show _ = if ndig l = l.length then (0, [], 2) else if l[ndig l]? = some 59 ∧ ndig l ≠ 0 then (val (l.takeWhile isDig), l.drop (ndig l + 1), (0 : Int)) else (0, [], 3)
      by_cases h3 : ndig l = l.length
      · rw [if_pos h3, h3, List.drop_length]
      · have hlt : ndig l < l.length := by have := ndig_le l; omega
        rw [if_neg h3, List.drop_eq_getElem_cons hlt, List.getElem?_eq_getElem hlt]
        show (if l[ndig l] = 59 ∧ l.takeWhile isDig ≠ [] then _ else _) = _
        by_cases h4 : l[ndig l] = 59 ∧ l.takeWhile isDig ≠ []
        · rw [if_pos h4, if_pos ⟨by rw [h4.1], hn.1 h4.2⟩]
        · rw [if_neg h4, if_neg (fun h => h4 ⟨by simpa using h.1, hn.2 h.2⟩)]
open PBatchBytes in
theorem tn_f (s : ByteArray) (hs : s.size ≤ 4611686018427387904) :
    ∃ k, stanchionref01_TakeNum.f k s = some ((((tnL s.data.toList).1 : Nat) : Int), bS (tnL s.data.toList).2.1, (tnL s.data.toList).2.2) := by
  obtain ⟨n, hn⟩ : ∃ n, ndig s.data.toList = n := ⟨_, rfl⟩
  have hle := ndig_le s.data.toList
  rw [← size_len, hn] at hle
  refine ⟨n + 1 + (((s.data.toList.take n).length + 1 + 0) + 1 + 1), ?_⟩
  unfold stanchionref01_TakeNum.f
  have h0 := tn_l0 s hs n 0 (((s.data.toList.take n).length + 1 + 0) + 1 + 1) (by omega)
  rw [hn] at h0
  refine Eq.trans h0 ?_
  rw [tnL_eq, hn]
  simp only [stanchionref01_TakeNum.j1]
  have h1 := tn_l1 s hs n hle (s.data.toList.take n) 0 0 0 rfl (by rw [← hn, take_ndig]; exact all_takeWhile_ _ _) (by decide) (Nat.zero_le _)
  have hj2 : ∀ b : Bool, stanchionref01_TakeNum.j2 (((s.data.toList.take n).length + 1 + 0) + 1) s (n : Int) b = if b = true then some (0, ⟨#[]⟩, 3) else stanchionref01_TakeNum.l1 ((s.data.toList.take n).length + 1 + 0) s (n : Int) 0 0 := fun b => by simp only [stanchionref01_TakeNum.j2]
  have hfin : (match tellL (s.data.toList.take n) 0 with
      | none => some (0, ⟨#[]⟩, 3)
      | some r => if n = s.size then some (0, ⟨#[]⟩, 2) else if s.data.toList[n]? = some 59 ∧ n ≠ 0 then some ((r : Int), s.extract (n + 1) s.size, (0 : Int)) else some (0, ⟨#[]⟩, 3)) = (fun p : Nat × Bs × Int => (some ((p.1 : Int), bS p.2.1, p.2.2))) (match tellL (s.data.toList.take n) 0 with
      | none => (0, [], 3)
      | some r => if n = s.data.toList.length then (0, [], 2) else if s.data.toList[n]? = some 59 ∧ n ≠ 0 then (r, s.data.toList.drop (n + 1), 0) else (0, [], 3)) := by
    rw [← size_len, extract_L]
    split
    · rfl
    · split
      · rfl
      · split <;> rfl
  by_cases h2 : n > 20
  · rw [if_pos (by omega), hj2, if_pos rfl, if_pos (.inl h2)]; rfl
  · rw [if_neg (by omega)]
    by_cases h3 : n > 1
    · have hlt : 0 < s.data.toList.length := by rw [← size_len]; omega
      rw [if_pos (by omega), if_pos (by omega), hj2]
      have hh : s.data.toList.head? = some s.data.toList[0] := by rw [List.head?_eq_getElem?, List.getElem?_eq_getElem hlt]
      rw [show bt s 0 = ((s.data.toList[0].toNat : Nat) : Int) from bt_L s 0 hlt, hh]
      by_cases h4 : s.data.toList[0] = 48
      · rw [if_pos (by rw [h4]; rfl), if_pos (.inr ⟨h3, by rw [h4]⟩)]; rfl
      · rw [if_neg (fun h => h4 (UInt8.toNat_inj.1 (show _ = 48 by have := of_decide_eq_true h; omega))), if_neg (by rintro (h | ⟨_, h⟩); exact h2 h; exact h4 (by simpa using h))]
        exact h1.trans hfin
    · rw [if_neg (by omega), hj2, if_neg (by simp), if_neg (by rintro (h | ⟨h, _⟩); exact h2 h; exact h3 h)]
      exact h1.trans hfin
open PBatchBytes in
theorem tt_f (s : ByteArray) (hs : s.size ≤ 4611686018427387904) (most : Nat) (hm : most ≤ 4611686018427387904) :
    ∃ k, stanchionref01_TakeText.f k s (most : Int) = some (bS (ttL s.data.toList most).1, bS (ttL s.data.toList most).2.1, (ttL s.data.toList most).2.2) := by
  obtain ⟨k, hk⟩ := tn_f s hs
  have hk1 := stanchionref01_TakeNum.mono s k _ hk
  refine ⟨k + 1, ?_⟩
  unfold stanchionref01_TakeText.f
  rw [hk1]
  have hl := tnL_len s.data.toList
  have hlt := tnL_lt s.data.toList
  rw [← size_len] at hl
  unfold ttL
  generalize tnL s.data.toList = p at hl hlt ⊢
  obtain ⟨v, r, e⟩ := p
  simp only [Option.bind_some] at hl hlt ⊢
  by_cases he : e = 0
  · rw [if_pos he, if_neg (by omega), if_neg (by simpa using he)]
    have hw : IntKind.u64.wrap (most : Int) = (most : Int) := IntWalk.u64_in _ ⟨by omega, by omega⟩
    rw [hw]
    simp only [stanchionref01_TakeText.j0]
    by_cases h1 : most < v
    · rw [if_pos (by simp; omega), if_pos h1]; rfl
    · rw [if_neg (by simp; omega), if_neg h1]
      have hsz : (bS r).size = r.length := by rw [size_len, bS_toList]
      have hw2 : IntKind.u64.wrap ((bS r).size : Int) = ((bS r).size : Int) := IntWalk.u64_in _ ⟨by omega, by omega⟩
      rw [hw2, hsz]
      by_cases h2 : r.length < v
      · rw [if_pos (by omega), if_pos h2]; rfl
      · rw [if_neg (by omega), if_neg h2, if_pos (by omega), if_pos (by omega)]
        simp only [Option.some.injEq, Prod.mk.injEq, and_true, Int.toNat_natCast]
        constructor
        · exact extract_T _ _
        · rw [← hsz, extract_L, bS_toList]
  · rw [if_neg he, if_pos he]; rfl
end Go.Proofs.Ytkcebmamohimoaa
