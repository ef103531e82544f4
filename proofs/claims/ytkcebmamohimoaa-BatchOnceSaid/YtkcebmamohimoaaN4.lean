/- Telling a number in figures, the program's and the reference's. -/
import Derived.Test.YtkcebmamohimoaaN3
import Derived.Test.YtkcebmamohimoaaA6
namespace Go.Proofs.Ytkcebmamohimoaa
open Go.RowKit Go.Proofs.YtkcebmamohimoaaW.PrintWords
set_option linter.unusedVariables false
set_option linter.unusedSimpArgs false
theorem cv1 (W : World) (x : Int) : (convert 138 9 (.slice (some ⟨W.heap.size, 0, none⟩) 1 1)).run Try.prog (W.alloc (.cells #[.int .u8 x] 5)) = .ok (.string (strOfNums [x])) (W.alloc (.cells #[.int .u8 x] 5)) :=
  string_of_reads Try.underlying138 Try.underlying5 Try.underlying9 ⟨rfl, by decide, fun _ => ⟨_, rfl, fun i hi => by
    obtain rfl : i = 0 := by omega
    have := blk_cell (blk_new W (.cells #[.int .u8 x] 5)) 0
    rw [add_zero_]
    exact this⟩⟩
theorem strOfNums_size (xs : List Int) : (strOfNums xs).size = xs.length := by rw [size_len]; unfold strOfNums; simp
theorem bS_app (a b : Bs) : bS a ++ bS b = bS (a ++ b) := by apply bS_inj; rw [bS_toList, ByteArray.data_append, Array.toList_append]; rfl
theorem strOfNums_1 (m : Nat) : strOfNums [48 + (m : Int) % 10] = bS [UInt8.ofNat (48 + m % 10)] := by
  unfold strOfNums bS
  rw [List.map_cons, List.map_nil, show (48 + (m : Int) % 10).toNat = 48 + m % 10 by omega]
theorem digs_step (m : Nat) (h : 0 < m) : digs m = (if m / 10 = 0 then [] else digs (m / 10)) ++ [UInt8.ofNat (48 + m % 10)] := by
  conv => lhs; unfold digs
  by_cases h1 : m < 10
  · rw [if_pos h1, if_pos (by omega), show m % 10 = m by omega]; rfl
  · rw [if_neg h1, if_neg (by omega)]
theorem numL_len (n : Nat) (h : n < big) : (numL n).length ≤ 21 := by unfold numL; have := digs_len20 n h; rw [List.length_append]; simp; omega
theorem u64q (m : Nat) (h : m < big) : IntKind.u64.wrap ((m : Int) / 10) = ((m / 10 : Nat) : Int) := by unfold big at h; rw [IntWalk.u64_in _ ⟨by omega, by omega⟩]; omega
attribute [local go_sem] bl_refl bl_alloc bl_drew bl_drewN
attribute [local go_sem high] cv1
set_option maxHeartbeats 4000000 in
set_option maxRecDepth 100000 in
theorem num94 (n : Nat) (hn : n < big) (w : World) :
    Calls Try.prog 94 #[.int .u64 (n : Int)] w fun e w' => e = .returned (.string (bS (numL n))) ∧ Below w.heap.size w w' := by
  have hn0 : (0 : Int) ≤ (n : Int) := by omega
  have HN := Lib.hid hn
  have hc : (strOfNums [48 + (n : Int) % 10]).size = 1 := strOfNums_size _
  have hw := u64q n hn
  clear hn
  go_enter Try.func94, Try.ntmps94
  go_wp2
  go_loopg [0, 3] n (fun gg s0 s3 wr => ∃ (m : Nat) (acc : Bs), m ≤ gg ∧ m ≤ n ∧ s0 = .int .u64 m ∧ s3 = .string (bS acc) ∧ Hid ((if m = 0 then [] else digs m) ++ acc = numL n) ∧ Hid (Below w.heap.size w wr))
  case atStart =>
    refine ⟨n / 10, [UInt8.ofNat (48 + n % 10), 59], by omega, by omega, by first | rfl | (rw [← hw]; done) | simp, ?_, ?_, bl_alloc _ (bl_refl _)⟩
    · rw [strOfNums_1, show (⟨#[59]⟩ : ByteArray) = bS [59] from rfl, bS_app]; rfl
    · show _ = _
      unfold numL
      rcases Nat.eq_zero_or_pos n with h0 | h0
      · subst h0; unfold digs; rfl
      · rw [digs_step n h0]; simp
  case round =>
    obtain ⟨m, acc, hmg, hmn, rfl, rfl, HA, HB⟩ := hrel
    have HMN := Lib.hid hmn
    have hwm := u64q m (by have := HN.out; omega)
    clear hmn
    clear hc hw
    have hm0 : (0 : Int) ≤ (m : Int) := by omega
    by_cases hm : 0 < m
    · have hmz : (0 : Int) < (m : Int) := by omega
      have hc : (strOfNums [48 + (m : Int) % 10]).size = 1 := strOfNums_size _
      have hsz : 1 + (bS acc).size ≤ 9223372036854775807 := by
        have h1 := congrArg List.length HA.out
        have h2 := numL_len n HN.out
        rw [List.length_append] at h1
        rw [size_len, bS_toList]
        omega
      have HM := Lib.hid hm
      clear hm
      go_wp2
      go_roundg (m / 10)
      case measure => have := HM.out; omega
      case rel =>
        refine ⟨m / 10, UInt8.ofNat (48 + m % 10) :: acc, Nat.le_refl _, by have := HMN.out; omega, by first | rfl | (rw [← hwm]; done) | simp, ?_, ?_, bl_alloc _ HB.out⟩
        · rw [strOfNums_1, bS_app]; rfl
        · have h := HA.out
          rw [if_neg (by have := HM.out; omega), digs_step m HM.out, List.append_assoc] at h
          exact h
    · have hmz : ¬ (0 : Int) < (m : Int) := by omega
      have HR := Lib.hid (show acc = numL n by have h := HA.out; rw [if_pos (by omega)] at h; exact h)
      go_wp2
      go_ret
      exact ⟨by rw [HR.out]; rfl, HB.out⟩
set_option maxHeartbeats 4000000 in
set_option maxRecDepth 100000 in
theorem num91 (n : Nat) (hn : n < big) (w : World) :
    Calls Try.prog 91 #[.int .u64 (n : Int)] w fun e w' => e = .returned (.string (bS (numL n))) ∧ Below w.heap.size w w' := by
  have hn0 : (0 : Int) ≤ (n : Int) := by omega
  have HN := Lib.hid hn
  clear hn
  go_enter Try.func91, Try.ntmps91
  go_wp2
  go_loopg [0, 4] (n + 1) (fun gg s0 s4 wr => ∃ (m p : Nat) (cs : Array Value) (acc : List Int), m < gg + 1 ∧ m ≤ n ∧ p < 21 ∧ s0 = .int .u64 m ∧ s4 = .int .i64 p ∧ Hid (wr.heap[w.heap.size]? = some (.cells cs 201 (0, 0))) ∧ Hid (cs.size = 21 ∧ p + acc.length = 21 ∧ ∀ i, i < acc.length → cs[p + i]? = some (.int .u8 (acc.getD i 0))) ∧ Hid (digs m ++ (strOfNums acc).data.toList = numL n) ∧ Hid (Below w.heap.size w wr))
  case atStart =>
    refine ⟨n, 20, _, [59], by omega, Nat.le_refl _, by omega, rfl, rfl, blk_new w _, ⟨rfl, rfl, fun i hi => ?_⟩, rfl, bl_alloc _ (bl_refl _)⟩
    obtain rfl : i = 0 := by simpa using hi
    rfl
  case round =>
    obtain ⟨m, p, cs, acc, hmg, hmn, hp, rfl, rfl, HK, HC, HA, HB⟩ := hrel
    have HMN := Lib.hid hmn
    have hwm := u64q m (by have := HN.out; omega)
    obtain ⟨q, rfl⟩ : ∃ q, p = q + 1 := by
      refine ⟨p - 1, ?_⟩
      have h1 := congrArg List.length HA.out
      have h2 := numL_len n HN.out
      have h3 : 0 < (digs m).length := List.length_pos_iff.2 (digs_ne m)
      rw [List.length_append, ← size_len, strOfNums_size] at h1
      have := HC.out.2.1
      omega
    have hm0 : (0 : Int) ≤ (m : Int) := by omega
    have hq0 : (0 : Int) ≤ (q : Int) := by omega
    have hq1 : (q : Int) < 21 := by omega
    have hq2 : (q : Int) ≤ 21 := by omega
    have r1 := blk_cells HK.out
    have z1 := blk_frz HK.out
    have Br := bl_refl wr
    obtain ⟨u, hu⟩ : ∃ u, cs[q]? = some u := ⟨cs[q]'(by have := HC.out.1; omega), Array.getElem?_eq_getElem _⟩
    have hcs : ∀ i, i < ((48 + (m : Int) % 10) :: acc).length → (cs.setIfInBounds q (.int .u8 (48 + (m : Int) % 10)))[q + i]? = some (.int .u8 (((48 + (m : Int) % 10) :: acc).getD i 0)) := by
      intro i hi
      rw [Array.getElem?_setIfInBounds]
      rcases Nat.eq_zero_or_pos i with h0 | h0
      · subst h0
        rw [if_pos (by omega), if_pos (by have := HC.out.1; omega)]
        rfl
      · obtain ⟨k, rfl⟩ : ∃ k, i = k + 1 := ⟨i - 1, by omega⟩
        rw [if_neg (by omega)]
        have := HC.out.2.2 k (by simpa using hi)
        rw [show q + (k + 1) = q + 1 + k by omega, this]
        rfl
    have HCS := Lib.hid hcs
    have HLEN := Lib.hid (show q + ((48 + (m : Int) % 10) :: acc).length = 21 by have := HC.out.2.1; simp; omega)
    have HK' := Lib.hid (blk_set HK.out q (.int .u8 (48 + (m : Int) % 10)))
    have HSN := Lib.hid (show (strOfNums ((48 + (m : Int) % 10) :: acc)).data.toList = UInt8.ofNat (48 + m % 10) :: (strOfNums acc).data.toList by
      unfold strOfNums
      rw [List.map_cons, show (48 + (m : Int) % 10).toNat = 48 + m % 10 by omega])
    have HB' := Lib.hid (bl_set (g := w.heap.size) (j := q) (u := .int .u8 (48 + (m : Int) % 10)) HB.out (Nat.le_refl _))
    clear hmn hcs
    by_cases hz : m / 10 = 0
    · have hz1 : ((m : Int) / 10 == 0) = true := by rw [beq_iff_eq]; omega
      have HZ := Lib.hid hz
      clear hz
      have hcv : (convert 138 9 (.slice (some ⟨w.heap.size, q, none⟩) (21 - q) (21 - q))).run Try.prog (wr.setCell ⟨w.heap.size, q, none⟩ (.int .u8 (48 + (m : Int) % 10))) = .ok (.string (strOfNums ((48 + (m : Int) % 10) :: acc))) (wr.setCell ⟨w.heap.size, q, none⟩ (.int .u8 (48 + (m : Int) % 10))) :=
        string_of_reads Try.underlying138 Try.underlying5 Try.underlying9 ⟨by have := HLEN.out; omega, by omega, fun _ => ⟨_, rfl, fun i hi => by
          rw [Addr.add_lit, blk_cell HK'.out]
          exact HCS.out i (by have := HLEN.out; omega)⟩⟩
      go_wp2
      go_ret
      refine ⟨?_, HB'.out⟩
      show Ending.returned (.string (strOfNums ((48 + (m : Int) % 10) :: acc))) = _
      rw [show strOfNums ((48 + (m : Int) % 10) :: acc) = bS (numL n) from ?_]
      apply bS_inj
      rw [HSN.out, bS_toList, ← HA.out]
      have := HZ.out
      rw [show digs m = [UInt8.ofNat (48 + m % 10)] from by unfold digs; rw [if_pos (by omega), show m % 10 = m by omega]]
      rfl
    · have hz1 : ((m : Int) / 10 == 0) = false := by rw [beq_eq_false_iff_ne]; omega
      have HZ := Lib.hid hz
      clear hz
      go_wp2
      go_roundg (m / 10)
      case measure => have := HZ.out; omega
      case rel =>
        refine ⟨m / 10, q, _, _, by omega, by have := HMN.out; omega, by omega, by first | rfl | (rw [← hwm]; done) | simp, rfl, HK'.out, ⟨by rw [Array.size_setIfInBounds]; exact HC.out.1, HLEN.out, HCS.out⟩, ?_, HB'.out⟩
        show digs (m / 10) ++ (strOfNums ((48 + (m : Int) % 10) :: acc)).data.toList = numL n
        rw [HSN.out, ← HA.out, digs_step m (by have := HZ.out; omega), if_neg HZ.out]
        simp
end Go.Proofs.Ytkcebmamohimoaa
