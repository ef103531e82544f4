/- Numbers and texts told in figures, as plain lists of bytes: their bytes, taking them, and that one undoes the other. -/
import Derived.Test.YtkcebmamohimoaaWWords
namespace Go.Proofs.Ytkcebmamohimoaa
set_option linter.unusedVariables false
set_option linter.unusedSimpArgs false
abbrev Bs := List UInt8
def isDig (c : UInt8) : Bool := 48 ≤ c.toNat && c.toNat ≤ 57
/-- A number's figures. -/
def digs (n : Nat) : Bs := if n < 10 then [UInt8.ofNat (48 + n)] else digs (n / 10) ++ [UInt8.ofNat (48 + n % 10)]
termination_by n
decreasing_by omega
def numL (n : Nat) : Bs := digs n ++ [59]
/-- The number that figures tell. -/
def val (l : Bs) : Nat := l.foldl (fun a c => 10 * a + (c.toNat - 48)) 0
def big : Nat := 18446744073709551616
/-- Taking a number: its value, what is left, and what went wrong. -/
def tnL (l : Bs) : Nat × Bs × Int :=
  if 20 < (l.takeWhile isDig).length ∨ (1 < (l.takeWhile isDig).length ∧ l.head? = some 48) ∨ big ≤ val (l.takeWhile isDig) then (0, [], 3)
  else match l.dropWhile isDig with
    | [] => (0, [], 2)
    | c :: t => if c = 59 ∧ (l.takeWhile isDig) ≠ [] then (val (l.takeWhile isDig), t, 0) else (0, [], 3)
def textL (t : Bs) : Bs := numL t.length ++ t
/-- Taking a text of at most so many bytes. -/
def ttL (l : Bs) (most : Nat) : Bs × Bs × Int :=
  if (tnL l).2.2 ≠ 0 then ([], [], (tnL l).2.2)
  else if most < (tnL l).1 then ([], [], 4)
  else if (tnL l).2.1.length < (tnL l).1 then ([], [], 2)
  else ((tnL l).2.1.take (tnL l).1, (tnL l).2.1.drop (tnL l).1, 0)
theorem u8_small (n : Nat) (h : n < 256) : (UInt8.ofNat n).toNat = n := by simp [UInt8.toNat_ofNat]; omega
theorem digs_dig (n : Nat) : ∀ c ∈ digs n, isDig c = true := by
  induction n using Nat.strongRecOn with
  | _ n ih =>
    intro c hc
    unfold digs at hc
    split at hc
    · rw [List.mem_singleton] at hc; subst hc; unfold isDig; rw [u8_small _ (by omega)]; simp; omega
    · rw [List.mem_append] at hc
      rcases hc with hc | hc
      · exact ih _ (by omega) c hc
      · rw [List.mem_singleton] at hc; subst hc; unfold isDig; rw [u8_small _ (by omega)]; simp; omega
theorem digs_ne (n : Nat) : digs n ≠ [] := by unfold digs; split <;> simp
theorem val_snoc (l : Bs) (c : UInt8) : val (l ++ [c]) = 10 * val l + (c.toNat - 48) := by unfold val; rw [List.foldl_append]; rfl
theorem val_digs (n : Nat) : val (digs n) = n := by
  induction n using Nat.strongRecOn with
  | _ n ih =>
    unfold digs
    split
    · unfold val; simp only [List.foldl]; rw [u8_small _ (by omega)]; omega
    · rw [val_snoc, ih _ (by omega), u8_small _ (by omega)]; omega
theorem digs_len (k : Nat) : ∀ n, n < 10 ^ (k + 1) → (digs n).length ≤ k + 1 := by
  induction k with
  | zero => intro n h; unfold digs; rw [if_pos (by omega)]; simp
  | succ k ih =>
    intro n h
    unfold digs
    split
    · simp
    · have := ih (n / 10) (by rw [Nat.pow_succ] at h; omega)
      simp; omega
theorem digs_len20 (n : Nat) (h : n < big) : (digs n).length ≤ 20 := digs_len 19 n (Nat.lt_of_lt_of_le h (by decide))
theorem digs_head (n : Nat) : ∃ c t, digs n = c :: t ∧ (0 < n → c ≠ 48) := by
  induction n using Nat.strongRecOn with
  | _ n ih =>
    unfold digs
    split
    · exact ⟨_, [], rfl, fun h e => by have := congrArg UInt8.toNat e; rw [u8_small _ (by omega)] at this; simp at this; omega⟩
    · obtain ⟨c, t, e, hc⟩ := ih (n / 10) (by omega)
      exact ⟨c, t ++ [UInt8.ofNat (48 + n % 10)], by rw [e]; rfl, fun _ => hc (by omega)⟩
theorem isDig59 : isDig 59 = false := by decide
theorem all_takeWhile_ {α : Type} (p : α → Bool) (l : List α) : ∀ c ∈ l.takeWhile p, p c = true := by
  induction l with
  | nil => intro c hc; simp at hc
  | cons x t ih =>
    intro c hc
    cases hx : p x with
    | true =>
      rw [List.takeWhile_cons_of_pos hx, List.mem_cons] at hc
      rcases hc with rfl | hc
      · exact hx
      · exact ih c hc
    | false => rw [List.takeWhile_cons_of_neg (by simp [hx])] at hc; simp at hc
theorem takeWhile_dig (d : Bs) (h : ∀ c ∈ d, isDig c = true) (c : UInt8) (hc : isDig c = false) (t : Bs) : (d ++ c :: t).takeWhile isDig = d ∧ (d ++ c :: t).dropWhile isDig = c :: t := by
  constructor
  · rw [List.takeWhile_append_of_pos h, List.takeWhile_cons_of_neg (by simp [hc])]; simp
  · rw [List.dropWhile_append_of_pos h, List.dropWhile_cons_of_neg (by simp [hc])]
theorem numL_app (n : Nat) (t : Bs) : numL n ++ t = digs n ++ 59 :: t := by unfold numL; simp
/-- Taking undoes telling. -/
theorem tnL_num (n : Nat) (h : n < big) (t : Bs) : tnL (numL n ++ t) = (n, t, 0) := by
  obtain ⟨h1, h2⟩ := takeWhile_dig (digs n) (digs_dig n) 59 isDig59 t
  obtain ⟨c, r, e, hc⟩ := digs_head n
  rw [numL_app]
  unfold tnL
  rw [h1, h2, val_digs, if_neg]
  · show (if (59 : UInt8) = 59 ∧ digs n ≠ [] then (n, t, (0 : Int)) else (0, [], 3)) = _
    rw [if_pos ⟨rfl, digs_ne n⟩]
  rintro (h3 | ⟨h3, h4⟩ | h3)
  · have := digs_len20 n h; omega
  · rw [e] at h4
    have h5 : c = 48 := by simpa using h4
    rcases Nat.eq_zero_or_pos n with h0 | h0
    · subst h0
      rw [show digs 0 = [48] from by unfold digs; rfl] at h3
      simp at h3
    · exact hc h0 h5
  · omega
/-- What was taken is taken, whatever follows. -/
theorem tnL_ext (l : Bs) (v : Nat) (r : Bs) (h : tnL l = (v, r, 0)) (x : Bs) : tnL (l ++ x) = (v, r ++ x, 0) := by
  unfold tnL at h
  split at h
  · simp at h
  · rename_i hn
    split at h
    · simp at h
    · rename_i c t hd
      have hl : l = l.takeWhile isDig ++ c :: t := by rw [← hd]; exact List.takeWhile_append_dropWhile.symm
      have hcd : isDig c = false := by
        have := List.head?_dropWhile_not isDig l
        rw [hd] at this
        simpa using this
      obtain ⟨h1, h2⟩ := takeWhile_dig (l.takeWhile isDig) (all_takeWhile_ _ _) c hcd (t ++ x)
      have he : l ++ x = l.takeWhile isDig ++ c :: (t ++ x) := (congrArg (· ++ x) hl).trans (by simp)
      have hh : (l ++ x).head? = l.head? := by rw [hl]; cases l.takeWhile isDig <;> rfl
      unfold tnL
      rw [hh, he, h1, h2, if_neg hn]
      split at h
      · rename_i hc
        show (if c = 59 ∧ l.takeWhile isDig ≠ [] then (val (l.takeWhile isDig), t ++ x, (0 : Int)) else (0, [], 3)) = _
        rw [if_pos hc]
        simp only [Prod.mk.injEq] at h ⊢
        exact ⟨h.1, by rw [h.2.1], trivial⟩
      · simp at h
theorem ttL_text (t x : Bs) (most : Nat) (hm : t.length ≤ most) (hb : t.length < big) : ttL (textL t ++ x) most = (t, x, 0) := by
  have h : tnL (textL t ++ x) = (t.length, t ++ x, 0) := by unfold textL; rw [List.append_assoc]; exact tnL_num _ hb _
  unfold ttL
  rw [h]
  rw [if_neg (by simp), if_neg (by simp only []; omega), if_neg (by simp)]
  simp
theorem ttL_ext (l t r : Bs) (most : Nat) (h : ttL l most = (t, r, 0)) (x : Bs) : ttL (l ++ x) most = (t, r ++ x, 0) := by
  unfold ttL at h
  split at h
  · rename_i h0
    simp only [Prod.mk.injEq] at h
    exact absurd h.2.2 h0
  · rename_i h0
    split at h
    · simp at h
    · rename_i h1
      split at h
      · simp at h
      · rename_i h2
        obtain ⟨v, r', hv⟩ : ∃ v r', tnL l = (v, r', 0) := ⟨_, _, by rw [← Classical.not_not.1 h0]⟩
        rw [hv] at h h1 h2
        simp only [] at h h1 h2
        have he := tnL_ext l v r' hv x
        unfold ttL
        rw [he]
        simp only []
        rw [if_neg (by simp), if_neg h1, if_neg (by simp; omega)]
        simp only [Prod.mk.injEq, and_true] at h
        obtain ⟨ht, hr⟩ := h
        rw [List.take_append_of_le_length (by omega), List.drop_append_of_le_length (by omega), ht, hr]
theorem tnL_lt (l : Bs) : (tnL l).1 < big := by
  unfold tnL
  split
  · exact (by decide)
  · rename_i h
    split
    · exact (by decide)
    · split
      · simp only []; omega
      · exact (by decide)
theorem tnL_len (l : Bs) : (tnL l).2.1.length ≤ l.length := by
  unfold tnL
  split
  · simp
  · split
    · simp
    · rename_i c t hd
      split
      · simp only []
        have h1 : (l.dropWhile isDig).length ≤ l.length := List.Sublist.length_le (List.dropWhile_sublist _)
        rw [hd] at h1; simp at h1; omega
      · simp
theorem tnL_err (l : Bs) (h : (tnL l).2.2 ≠ 0) : (tnL l).1 = 0 ∧ (tnL l).2.1 = [] := by
  unfold tnL at h ⊢
  split
  · exact ⟨rfl, rfl⟩
  · rename_i h1
    rw [if_neg h1] at h
    split
    · exact ⟨rfl, rfl⟩
    · rename_i c t hd
      rw [hd] at h
      simp only [] at h ⊢
      split
      · rename_i h2; rw [if_pos h2] at h; exact absurd rfl h
      · exact ⟨rfl, rfl⟩
end Go.Proofs.Ytkcebmamohimoaa
