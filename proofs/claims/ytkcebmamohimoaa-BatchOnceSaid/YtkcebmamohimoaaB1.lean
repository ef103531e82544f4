/- Batches, plainly: which may be; texts in their order. -/
import Derived.Test.YtkcebmamohimoaaN5
import Derived.Test.YtkcebmamohimoaaPBatchBytesx2
import Derived.Sort.Walk0
import Derived.Laws.Cover1
namespace Go.Proofs.Ytkcebmamohimoaa
open Go.RowKit Go.Proofs.YtkcebmamohimoaaW.PrintWords
set_option linter.unusedVariables false
set_option linter.unusedSimpArgs false
/-- One text stands ahead of another one. -/
def bl (a b : ByteArray) : Bool := Op.bytesLess a.toList b.toList
theorem bl_eq (a b : ByteArray) : bl a b = decide (a.data.toList < b.data.toList) := by unfold bl; rw [bytesLess_eq, Lib.toList_data, Lib.toList_data]
open PBatchBytes in
theorem less_l0 (a b : ByteArray) (ha : a.size ≤ 4611686018427387904) : ∀ (d j k : Nat), a.data.toList.length = j + d → j ≤ a.size →
    stanchionref01_Less.l0 (2 * d + 2 + k) a b (j : Int) = some (decide (a.data.toList.drop j < b.data.toList.drop j)) := by
  intro d
  induction d with
  | zero =>
    intro j k hd hj
    have hja : j = a.size := by rw [size_len] at hj ⊢; omega
    rw [show 2 * 0 + 2 + k = (k + 1) + 1 by omega]
    simp only [stanchionref01_Less.l0, stanchionref01_Less.j1]
    rw [if_neg (by omega), if_neg (by simp), show a.data.toList.drop j = [] from List.drop_eq_nil_of_le (by omega)]
    congr 1
    rw [decide_eq_decide]
    by_cases h : j < b.size
    · have h2 : j < b.data.toList.length := by rw [← size_len]; exact h
      rw [List.drop_eq_getElem_cons h2]
      constructor
      · intro _; exact List.nil_lt_cons _ _
      · intro _; omega
    · rw [show b.data.toList.drop j = [] from List.drop_eq_nil_of_le (by rw [← size_len]; omega)]
      constructor
      · intro h3; omega
      · intro h3; exact absurd h3 (List.not_lt_nil _)
  | succ d ih =>
    intro j k hd hj
    have hja : j < a.data.toList.length := by omega
    have hja' : j < a.size := by rw [size_len]; exact hja
    rw [show 2 * (d + 1) + 2 + k = (2 * d + 2 + k) + 1 + 1 by omega]
    simp only [stanchionref01_Less.l0, stanchionref01_Less.j1]
    rw [if_pos (by omega), List.drop_eq_getElem_cons hja]
    by_cases h : j < b.size
    · have h2 : j < b.data.toList.length := by rw [← size_len]; exact h
      rw [if_pos (by simp; omega), if_pos (by omega), if_pos (by omega), if_pos (by omega), bt_L a j hja, bt_L b j h2, List.drop_eq_getElem_cons h2]
      by_cases he : a.data.toList[j] = b.data.toList[j]
      · rw [if_pos (by rw [he]), w64 _ (by omega)]
        have := ih (j + 1) k (by omega) (by omega)
        rw [show ((j + 1 : Nat) : Int) = (j : Int) + 1 by omega] at this
        rw [this]
        congr 1
        rw [decide_eq_decide, List.cons_lt_cons_iff]
        constructor
        · intro h; exact .inr ⟨he, h⟩
        · rintro (h | ⟨_, h⟩)
          · rw [he] at h; exact absurd h (UInt8.lt_irrefl _)
          · exact h
      · rw [if_neg (fun h3 => he (UInt8.toNat_inj.1 (by omega)))]
        congr 1
        rw [decide_eq_decide, List.cons_lt_cons_iff]
        constructor
        · intro h; exact .inl (UInt8.lt_iff_toNat_lt.2 (by omega))
        · rintro (h | ⟨h, _⟩)
          · have := UInt8.lt_iff_toNat_lt.1 h; omega
          · exact absurd h he
    · rw [if_neg (by simp; omega), show b.data.toList.drop j = [] from List.drop_eq_nil_of_le (by rw [← size_len]; omega)]
      congr 1
      rw [decide_eq_decide]
      constructor
      · intro h3; omega
      · intro h3; exact absurd h3 (List.not_lt_nil _)
theorem less102 (a b : ByteArray) (ha : a.size ≤ 4611686018427387904) (w : World) :
    Calls Try.prog 102 #[.string a, .string b] w fun e w' => e = .returned (.bool (bl a b)) ∧ Below w.heap.size w w' := by
  have h := less_l0 a b ha a.data.toList.length 0 0 (by omega) (Nat.zero_le _)
  rw [List.drop_zero, List.drop_zero, ← bl_eq] at h
  exact (PBatchBytes.stanchionref01_Less.calls _ a b _ w h).mono fun e w' hh => ⟨hh.1, hh.2.below⟩
structure Bt where
  kind : Int
  tok : ByteArray
  ws : List Wr
def Wr.odd (x : Wr) : Bool := decide (x.key.size < 1) || decide (32 < x.key.size) || decide (64 < x.val.size) || (x.del && !x.val.toList.isEmpty)
def risesB : List Wr → Bool
  | a :: b :: t => bl a.key b.key && risesB (b :: t)
  | _ => true
def Bt.head (b : Bt) : Bool := (b.kind == 1 || b.kind == 2) && decide (1 ≤ b.tok.size) && decide (b.tok.size ≤ 16) && decide (b.ws.length ≤ 24) && !(b.kind == 2 && decide (0 < b.ws.length))
def Bt.may (b : Bt) : Bool := b.head && risesB b.ws && !(b.ws.any Wr.odd)
theorem risesB_iff (l : List Wr) : risesB l = true ↔ ∀ i, i + 1 < l.length → bl l[i]!.key l[i + 1]!.key = true := by
  induction l with
  | nil => simp [risesB]
  | cons a t ih =>
    cases t with
    | nil => simp [risesB]
    | cons b t =>
      rw [risesB, Bool.and_eq_true, ih]
      constructor
      · rintro ⟨h1, h2⟩ i hi
        cases i with
        | zero => exact h1
        | succ i => exact h2 i (by simpa using hi)
      · intro h
        exact ⟨h 0 (by simp), fun i hi => h (i + 1) (by simpa using hi)⟩
end Go.Proofs.Ytkcebmamohimoaa
