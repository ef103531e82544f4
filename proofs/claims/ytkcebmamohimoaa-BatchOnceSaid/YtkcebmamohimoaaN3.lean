/- Taking numbers and texts, the program's and the reference's. -/
import Derived.Test.YtkcebmamohimoaaN2
import Derived.Test.YtkcebmamohimoaaK2
import Derived.Deep.LoopGhost
import Derived.WalkMore
import Derived.BigRegion
namespace Go.Proofs.Ytkcebmamohimoaa
open Go.RowKit Go.Proofs.YtkcebmamohimoaaW.PrintWords
set_option linter.unusedVariables false
set_option linter.unusedSimpArgs false
attribute [local go_sem] bl_refl bl_alloc bl_drew bl_drewN
/-- What taking a number comes to, as a value. -/
def tnV (l : Bs) : Value := .tuple #[.int .u64 ((tnL l).1 : Nat), .string (bS (tnL l).2.1), .int .i64 (tnL l).2.2]
theorem tnV_of {l : Bs} {v : Nat} {r : Bs} {e : Int} (h : tnL l = (v, r, e)) : tnV l = .tuple #[.int .u64 (v : Int), .string (bS r), .int .i64 e] := by unfold tnV; rw [h]
theorem told158 (s : ByteArray) (hs : s.size ≤ 4611686018427387904) (hd : ∀ c ∈ s.data.toList, isDig c = true) (v : Nat) (b : Bool) (hv : (big ≤ val s.data.toList ∧ v = 0 ∧ b = false) ∨ (val s.data.toList < big ∧ v = val s.data.toList ∧ b = true)) (w : World) :
    Calls Try.prog 158 #[.string s] w fun e w' => e = .returned (.tuple #[.int .u64 (v : Int), .bool b]) ∧ Below w.heap.size w w' := by
  obtain ⟨k, hk⟩ := told_f s hs hd
  have h : PBatchBytes.dec_told.f k s = some ((v : Int), b) := by
    rcases hv with ⟨h1, rfl, rfl⟩ | ⟨h1, rfl, rfl⟩
    · rw [hk, if_pos h1]; rfl
    · rw [hk, if_neg (by omega)]
  exact (PBatchBytes.dec_told.calls k s _ _ w h).mono fun e w' hh => ⟨hh.1, hh.2.below⟩
theorem tn98 (s : ByteArray) (hs : s.size ≤ 4611686018427387904) (w : World) :
    Calls Try.prog 98 #[.string s] w fun e w' => e = .returned (tnV s.data.toList) ∧ Below w.heap.size w w' := by
  obtain ⟨k, hk⟩ := tn_f s hs
  exact (PBatchBytes.stanchionref01_TakeNum.calls k s _ _ _ w hk).mono fun e w' hh => ⟨hh.1, hh.2.below⟩
def ttV (l : Bs) (most : Nat) : Value := .tuple #[.string (bS (ttL l most).1), .string (bS (ttL l most).2.1), .int .i64 (ttL l most).2.2]
theorem tt99 (s : ByteArray) (hs : s.size ≤ 4611686018427387904) (most : Nat) (hm : most ≤ 4611686018427387904) (w : World) :
    Calls Try.prog 99 #[.string s, .int .i64 (most : Int)] w fun e w' => e = .returned (ttV s.data.toList most) ∧ Below w.heap.size w w' := by
  obtain ⟨k, hk⟩ := tt_f s hs most hm
  exact (PBatchBytes.stanchionref01_TakeText.calls k s _ _ _ _ w hk).mono fun e w' hh => ⟨hh.1, hh.2.below⟩
set_option maxHeartbeats 4000000 in
set_option maxRecDepth 100000 in
theorem tn106 (s : ByteArray) (hs : s.size ≤ 4611686018427387904) (w : World) :
    Calls Try.prog 106 #[.string s] w fun e w' => e = .returned (tnV s.data.toList) ∧ Below w.heap.size w w' := by
  obtain ⟨n, hn⟩ : ∃ n, ndig s.data.toList = n := ⟨_, rfl⟩
  have hle := ndig_le s.data.toList
  rw [← size_len, hn] at hle
  have HN := Lib.hid hn
  have HS := Lib.hid hs
  have HL := Lib.hid (size_len s)
  have HT := Lib.hid (tnL_eq s.data.toList)
  clear hn
  go_enter Try.func106, Try.ntmps106
  go_wp2
  go_step3
  go_wp2
  go_step3
  go_wp2
  go_loopg [5] n (fun gg s5 wr => ∃ j : Nat, j ≤ n ∧ n - j ≤ gg ∧ s5 = .int .i64 j ∧ wr = w)
  case atStart => exact ⟨0, Nat.zero_le _, by omega, rfl, rfl⟩
  case round =>
    obtain ⟨j, hj, hg, rfl, rfl⟩ := hrel
    by_cases hlt : j < n
    · have hjs : j < s.size := by omega
      have hjz : (j : Int) < (s.size : Int) := by omega
      have hj0 : (0 : Int) ≤ (j : Int) := by omega
      obtain ⟨h1, h2⟩ := ndig_lt s.data.toList j (by rw [HN.out]; exact hlt)
      have hb := isDig_t h2
      have hb1 : ¬ (((s[j]'hjs).toNat : Int) < 48) := by show ¬ ((s.data.toList[j].toNat : Int) < 48); omega
      have hb2 : ¬ ((57 : Int) < ((s[j]'hjs).toNat : Int)) := by show ¬ ((57 : Int) < (s.data.toList[j].toNat : Int)); omega
      clear hb h1 h2
      go_wp2
      go_roundg (n - (j + 1))
      case measure => omega
      case rel => exact ⟨j + 1, by omega, by omega, by go_num, rfl⟩
    · obtain rfl : j = n := by omega
      have hj0 : (0 : Int) ≤ (j : Int) := by omega
      have hjl : (j : Int) ≤ (s.size : Int) := by omega
      obtain ⟨L, hL⟩ : ∃ L, s.data.toList = L := ⟨_, rfl⟩
      have hds : ∀ c ∈ L.take j, isDig c = true := by rw [← HN.out, hL, take_ndig]; exact all_takeWhile_ _ _
      have hT := HT.out
      rw [HN.out, tellL_eq _ _ (by decide)] at hT
      rw [hL] at hT
      have HD := Lib.hid hds
      have HLL := Lib.hid hL
      clear hds hg hlt hj
      obtain ⟨v, b, hv⟩ : ∃ v b, (big ≤ val (L.take j) ∧ v = 0 ∧ b = false) ∨ (val (L.take j) < big ∧ v = val (L.take j) ∧ b = true) := by
        by_cases h : big ≤ val (L.take j)
        · exact ⟨_, _, .inl ⟨h, rfl, rfl⟩⟩
        · exact ⟨_, _, .inr ⟨by omega, rfl, rfl⟩⟩
      have HV := Lib.hid hv
      have HTL := Lib.hid hT
      have HTO := Lib.hid (fun W => told158 (s.extract 0 j) (by have := HS.out; rw [size_len, extract_T, bS_toList, List.length_take]; rw [size_len] at this; omega) (by rw [extract_T, bS_toList, HLL.out]; exact HD.out) v b (by rw [extract_T, bS_toList, HLL.out]; exact HV.out) W)
      clear hv hT hL
      by_cases hA : j = s.size
      · have hlz : ¬ (j : Int) < (s.size : Int) := by omega
        have hez : ((j : Int) == (s.size : Int)) = true := by rw [beq_iff_eq]; omega
        have HA := Lib.hid hA
        clear hA
        by_cases h20 : 20 < j
        · have h20z : (20 : Int) < (j : Int) := by omega
          have HR := Lib.hid (show tnL L = (0, [], 3) by rw [HTL.out, if_pos (.inl h20)])
          go_wp2
          try rw [Exit.noGoto_ret]
          exact bodyPost_ret (v := .tuple #[.int .u64 0, .string ⟨#[]⟩, .int .i64 3]) (by simp [results, Try.results106, go_sem]) rfl ⟨by rw [HLL.out, tnV_of HR.out]; rfl, bl_refl _⟩
        have h20z : ¬ (20 : Int) < (j : Int) := by omega
        by_cases h1 : 1 < j ∧ L.head? = some 48
        · have h1z : (1 : Int) < (j : Int) := by omega
          have hs0 : 0 < s.size := by omega
          have hs0z : (0 : Int) < (s.size : Int) := by omega
          have h48 : (((s[0]'hs0).toNat : Int) == 48) = true := by
            have e : L[0]? = some 48 := by rw [← List.head?_eq_getElem?]; exact h1.2
            have e2 : s.data.toList[0]? = some 48 := by rw [HLL.out]; exact e
            have e3 : s.data.toList[0]'(by rw [← size_len]; exact hs0) = 48 := by rw [List.getElem?_eq_getElem (by rw [← size_len]; exact hs0)] at e2; exact Option.some.inj e2
            show ((s.data.toList[0].toNat : Int) == 48) = true
            rw [e3]; rfl
          have HR := Lib.hid (show tnL L = (0, [], 3) by rw [HTL.out, if_pos (.inr h1)])
          clear h1
          go_wp2_with fail
          refine (HTO.out _).mono ?_
          rintro e w1 ⟨rfl, hb⟩
          have HB := Lib.hid hb
          clear hb
          go_wp2
          try rw [Exit.noGoto_ret]
          exact bodyPost_ret (v := .tuple #[.int .u64 0, .string ⟨#[]⟩, .int .i64 3]) (by simp [results, Try.results106, go_sem]) rfl ⟨by rw [HLL.out, tnV_of HR.out]; rfl, HB.out⟩
        obtain ⟨q, hq⟩ : ∃ q : Bool, ((decide (1 < j) && (L.head? == some 48)) = q) := ⟨_, rfl⟩
        have HTF := Lib.hid (HTL.out.trans (if_neg (by rintro (h | h); exact h20 h; exact h1 h)))
        have hz : (1 : Int) < (j : Int) → ∀ hs0 : 0 < s.size, (((s[0]'hs0).toNat : Int) == 48) = false := fun hj hs0 => by
          rw [beq_eq_false_iff_ne]
          intro e
          refine h1 ⟨by omega, ?_⟩
          rw [List.head?_eq_getElem?, ← HLL.out, List.getElem?_eq_getElem (by rw [← size_len]; exact hs0)]
          exact congrArg some (UInt8.toNat_inj.1 (show (s.data.toList[0]'(by rw [← size_len]; exact hs0)).toNat = 48 by have : ((s.data.toList[0]'(by rw [← size_len]; exact hs0)).toNat : Int) = 48 := e; omega))
        have HZ := Lib.hid hz
        clear h1 hz hq q
        by_cases hj1 : (1 : Int) < (j : Int)
        · have hs0 : 0 < s.size := by omega
          have hs0z : (0 : Int) < (s.size : Int) := by omega
          have h48 := HZ.out hj1 hs0
          cases b with
          | false =>
            have HR := Lib.hid (show tnL L = (0, [], 3) by
              rw [HTF.out]
              rcases HV.out with ⟨h, _, _⟩ | ⟨_, _, h⟩
              · rw [show foldV (L.take j) 0 = val (L.take j) from rfl, if_pos h]
              · cases h)
            go_wp2_with fail
            refine (HTO.out _).mono ?_
            rintro e w1 ⟨rfl, hb⟩
            have HB := Lib.hid hb
            clear hb
            go_wp2
            try rw [Exit.noGoto_ret]
            exact bodyPost_ret (v := .tuple #[.int .u64 0, .string ⟨#[]⟩, .int .i64 3]) (by simp [results, Try.results106, go_sem]) rfl ⟨by rw [HLL.out, tnV_of HR.out]; rfl, HB.out⟩
          | true =>
            have HTG := Lib.hid (show tnL L = if j = L.length then (0, [], 2) else if L[j]? = some 59 ∧ j ≠ 0 then (v, L.drop (j + 1), 0) else (0, [], 3) by
              rw [HTF.out]
              rcases HV.out with ⟨_, _, h⟩ | ⟨h, h2, _⟩
              · cases h
              · rw [show foldV (L.take j) 0 = val (L.take j) from rfl, if_neg (by omega), h2])
            have HR := Lib.hid (show tnL L = (0, [], 2) by rw [HTG.out, if_pos (by rw [← HLL.out, ← size_len]; exact HA.out)])
            go_wp2_with fail
            refine (HTO.out _).mono ?_
            rintro e w1 ⟨rfl, hb⟩
            have HB := Lib.hid hb
            clear hb
            go_wp2
            try rw [Exit.noGoto_ret]
            exact bodyPost_ret (v := .tuple #[.int .u64 0, .string ⟨#[]⟩, .int .i64 2]) (by simp [results, Try.results106, go_sem]) rfl ⟨by rw [HLL.out, tnV_of HR.out]; rfl, HB.out⟩
        · cases b with
          | false =>
            have HR := Lib.hid (show tnL L = (0, [], 3) by
              rw [HTF.out]
              rcases HV.out with ⟨h, _, _⟩ | ⟨_, _, h⟩
              · rw [show foldV (L.take j) 0 = val (L.take j) from rfl, if_pos h]
              · cases h)
            go_wp2_with fail
            refine (HTO.out _).mono ?_
            rintro e w1 ⟨rfl, hb⟩
            have HB := Lib.hid hb
            clear hb
            go_wp2
            try rw [Exit.noGoto_ret]
            exact bodyPost_ret (v := .tuple #[.int .u64 0, .string ⟨#[]⟩, .int .i64 3]) (by simp [results, Try.results106, go_sem]) rfl ⟨by rw [HLL.out, tnV_of HR.out]; rfl, HB.out⟩
          | true =>
            have HTG := Lib.hid (show tnL L = if j = L.length then (0, [], 2) else if L[j]? = some 59 ∧ j ≠ 0 then (v, L.drop (j + 1), 0) else (0, [], 3) by
              rw [HTF.out]
              rcases HV.out with ⟨_, _, h⟩ | ⟨h, h2, _⟩
              · cases h
              · rw [show foldV (L.take j) 0 = val (L.take j) from rfl, if_neg (by omega), h2])
            have HR := Lib.hid (show tnL L = (0, [], 2) by rw [HTG.out, if_pos (by rw [← HLL.out, ← size_len]; exact HA.out)])
            go_wp2_with fail
            refine (HTO.out _).mono ?_
            rintro e w1 ⟨rfl, hb⟩
            have HB := Lib.hid hb
            clear hb
            go_wp2
            try rw [Exit.noGoto_ret]
            exact bodyPost_ret (v := .tuple #[.int .u64 0, .string ⟨#[]⟩, .int .i64 2]) (by simp [results, Try.results106, go_sem]) rfl ⟨by rw [HLL.out, tnV_of HR.out]; rfl, HB.out⟩
      · have hlt : j < s.size := by omega
        have hlz : (j : Int) < (s.size : Int) := by omega
        have hez : ((j : Int) == (s.size : Int)) = false := by rw [beq_eq_false_iff_ne]; omega
        have hnd := ndig_at s.data.toList (by rw [HN.out, ← size_len]; exact hlt)
        have hnd2 : isDig (s[j]'hlt) = false := by
          have e : s.data.toList[j]? = s.data.toList[ndig s.data.toList]? := by rw [HN.out]
          rw [List.getElem?_eq_getElem (by rw [← size_len]; exact hlt), List.getElem?_eq_getElem (by rw [HN.out, ← size_len]; exact hlt)] at e
          rw [show (s[j]'hlt) = s.data.toList[j]'(by rw [← size_len]; exact hlt) from rfl, Option.some.inj e]
          exact hnd
        have hor := isDig_f hnd2
        clear hnd hnd2 hA
        by_cases hlo : ((s[j]'hlt).toNat : Int) < 48
        · clear hor
          by_cases h20 : 20 < j
          · have h20z : (20 : Int) < (j : Int) := by omega
            have HR := Lib.hid (show tnL L = (0, [], 3) by rw [HTL.out, if_pos (.inl h20)])
            go_wp2
            try rw [Exit.noGoto_ret]
            exact bodyPost_ret (v := .tuple #[.int .u64 0, .string ⟨#[]⟩, .int .i64 3]) (by simp [results, Try.results106, go_sem]) rfl ⟨by rw [HLL.out, tnV_of HR.out]; rfl, bl_refl _⟩
          have h20z : ¬ (20 : Int) < (j : Int) := by omega
          by_cases h1 : 1 < j ∧ L.head? = some 48
          · have h1z : (1 : Int) < (j : Int) := by omega
            have hs0 : 0 < s.size := by omega
            have hs0z : (0 : Int) < (s.size : Int) := by omega
            have h48 : (((s[0]'hs0).toNat : Int) == 48) = true := by
              have e : L[0]? = some 48 := by rw [← List.head?_eq_getElem?]; exact h1.2
              have e2 : s.data.toList[0]? = some 48 := by rw [HLL.out]; exact e
              have e3 : s.data.toList[0]'(by rw [← size_len]; exact hs0) = 48 := by rw [List.getElem?_eq_getElem (by rw [← size_len]; exact hs0)] at e2; exact Option.some.inj e2
              show ((s.data.toList[0].toNat : Int) == 48) = true
              rw [e3]; rfl
            have HR := Lib.hid (show tnL L = (0, [], 3) by rw [HTL.out, if_pos (.inr h1)])
            clear h1
            go_wp2_with fail
            refine (HTO.out _).mono ?_
            rintro e w1 ⟨rfl, hb⟩
            have HB := Lib.hid hb
            clear hb
            go_wp2
            try rw [Exit.noGoto_ret]
            exact bodyPost_ret (v := .tuple #[.int .u64 0, .string ⟨#[]⟩, .int .i64 3]) (by simp [results, Try.results106, go_sem]) rfl ⟨by rw [HLL.out, tnV_of HR.out]; rfl, HB.out⟩
          obtain ⟨q, hq⟩ : ∃ q : Bool, ((decide (1 < j) && (L.head? == some 48)) = q) := ⟨_, rfl⟩
          have HTF := Lib.hid (HTL.out.trans (if_neg (by rintro (h | h); exact h20 h; exact h1 h)))
          have hz : (1 : Int) < (j : Int) → ∀ hs0 : 0 < s.size, (((s[0]'hs0).toNat : Int) == 48) = false := fun hj hs0 => by
            rw [beq_eq_false_iff_ne]
            intro e
            refine h1 ⟨by omega, ?_⟩
            rw [List.head?_eq_getElem?, ← HLL.out, List.getElem?_eq_getElem (by rw [← size_len]; exact hs0)]
            exact congrArg some (UInt8.toNat_inj.1 (show (s.data.toList[0]'(by rw [← size_len]; exact hs0)).toNat = 48 by have : ((s.data.toList[0]'(by rw [← size_len]; exact hs0)).toNat : Int) = 48 := e; omega))
          have HZ := Lib.hid hz
          clear h1 hz hq q
          by_cases hj1 : (1 : Int) < (j : Int)
          · have hs0 : 0 < s.size := by omega
            have hs0z : (0 : Int) < (s.size : Int) := by omega
            have h48 := HZ.out hj1 hs0
            cases b with
            | false =>
              have HR := Lib.hid (show tnL L = (0, [], 3) by
                rw [HTF.out]
                rcases HV.out with ⟨h, _, _⟩ | ⟨_, _, h⟩
                · rw [show foldV (L.take j) 0 = val (L.take j) from rfl, if_pos h]
                · cases h)
              go_wp2_with fail
              refine (HTO.out _).mono ?_
              rintro e w1 ⟨rfl, hb⟩
              have HB := Lib.hid hb
              clear hb
              go_wp2
              try rw [Exit.noGoto_ret]
              exact bodyPost_ret (v := .tuple #[.int .u64 0, .string ⟨#[]⟩, .int .i64 3]) (by simp [results, Try.results106, go_sem]) rfl ⟨by rw [HLL.out, tnV_of HR.out]; rfl, HB.out⟩
            | true =>
              have HTG := Lib.hid (show tnL L = if j = L.length then (0, [], 2) else if L[j]? = some 59 ∧ j ≠ 0 then (v, L.drop (j + 1), 0) else (0, [], 3) by
                rw [HTF.out]
                rcases HV.out with ⟨_, _, h⟩ | ⟨h, h2, _⟩
                · cases h
                · rw [show foldV (L.take j) 0 = val (L.take j) from rfl, if_neg (by omega), h2])
              by_cases h59 : L[j]? = some 59 ∧ j ≠ 0
              · have hj2 : ((j : Int) == 0) = false := by rw [beq_eq_false_iff_ne]; have := h59.2; omega
                have hc : (s[j]'hlt) = 59 := by
                  have e := h59.1
                  rw [← HLL.out, List.getElem?_eq_getElem (by rw [← size_len]; exact hlt)] at e
                  exact Option.some.inj e
                have hc1 : (((s[j]'hlt).toNat : Int) == 59) = true := by rw [hc]; rfl
                have hc2 : (((s[j]'hlt).toNat : Int) != 59) = false := by rw [hc]; rfl
                have hw1 : IntKind.i64.wrap ((j : Int) + 1) = (j : Int) + 1 := IntWalk.i64_in _ ⟨by have := HS.out; omega, by have := HS.out; omega⟩
                have hp0 : (0 : Int) ≤ (j : Int) + 1 := by omega
                have hp1 : (j : Int) + 1 ≤ (s.size : Int) := by omega
                have hp2 : ((j : Int) + 1).toNat = j + 1 := by omega
                have HR := Lib.hid (show tnL L = (v, L.drop (j + 1), 0) by rw [HTG.out, if_neg (by rw [← HLL.out, ← size_len]; omega), if_pos h59])
                clear h59 hc
                go_wp2_with fail
                refine (HTO.out _).mono ?_
                rintro e w1 ⟨rfl, hb⟩
                have HB := Lib.hid hb
                clear hb
                go_wp2
                go_big_region
                go_wp2
                try rw [Exit.noGoto_ret]
                exact bodyPost_ret (v := .tuple #[.int .u64 (v : Int), .string (s.extract (j + 1) s.size), .int .i64 0]) (by simp [results, Try.results106, go_sem]) rfl ⟨by rw [HLL.out, tnV_of HR.out, extract_L, HLL.out], bl_drew HB.out⟩
              · have HR := Lib.hid (show tnL L = (0, [], 3) by rw [HTG.out, if_neg (by rw [← HLL.out, ← size_len]; omega), if_neg h59])
                by_cases hj3 : j = 0
                · have hj2 : ((j : Int) == 0) = true := by rw [hj3]; rfl
                  clear h59 hj3
                  go_wp2_with fail
                  refine (HTO.out _).mono ?_
                  rintro e w1 ⟨rfl, hb⟩
                  have HB := Lib.hid hb
                  clear hb
                  go_wp2
                  try rw [Exit.noGoto_ret]
                  exact bodyPost_ret (v := .tuple #[.int .u64 0, .string ⟨#[]⟩, .int .i64 3]) (by simp [results, Try.results106, go_sem]) rfl ⟨by rw [HLL.out, tnV_of HR.out]; rfl, HB.out⟩
                · have hj2 : ((j : Int) == 0) = false := by rw [beq_eq_false_iff_ne]; omega
                  have hne : ¬ ((s[j]'hlt).toNat : Int) = 59 := fun e => h59 ⟨by rw [← HLL.out, List.getElem?_eq_getElem (by rw [← size_len]; exact hlt)]; exact congrArg some (UInt8.toNat_inj.1 (show (s.data.toList[j]'(by rw [← size_len]; exact hlt)).toNat = 59 by have : ((s.data.toList[j]'(by rw [← size_len]; exact hlt)).toNat : Int) = 59 := e; omega)), hj3⟩
                  have hc1 : (((s[j]'hlt).toNat : Int) == 59) = false := by rw [beq_eq_false_iff_ne]; exact hne
                  have hc2 : (((s[j]'hlt).toNat : Int) != 59) = true := by rw [bne_iff_ne]; exact hne
                  clear h59 hj3 hne
                  go_wp2_with fail
                  refine (HTO.out _).mono ?_
                  rintro e w1 ⟨rfl, hb⟩
                  have HB := Lib.hid hb
                  clear hb
                  go_wp2
                  try rw [Exit.noGoto_ret]
                  exact bodyPost_ret (v := .tuple #[.int .u64 0, .string ⟨#[]⟩, .int .i64 3]) (by simp [results, Try.results106, go_sem]) rfl ⟨by rw [HLL.out, tnV_of HR.out]; rfl, HB.out⟩
          · cases b with
            | false =>
              have HR := Lib.hid (show tnL L = (0, [], 3) by
                rw [HTF.out]
                rcases HV.out with ⟨h, _, _⟩ | ⟨_, _, h⟩
                · rw [show foldV (L.take j) 0 = val (L.take j) from rfl, if_pos h]
                · cases h)
              go_wp2_with fail
              refine (HTO.out _).mono ?_
              rintro e w1 ⟨rfl, hb⟩
              have HB := Lib.hid hb
              clear hb
              go_wp2
              try rw [Exit.noGoto_ret]
              exact bodyPost_ret (v := .tuple #[.int .u64 0, .string ⟨#[]⟩, .int .i64 3]) (by simp [results, Try.results106, go_sem]) rfl ⟨by rw [HLL.out, tnV_of HR.out]; rfl, HB.out⟩
            | true =>
              have HTG := Lib.hid (show tnL L = if j = L.length then (0, [], 2) else if L[j]? = some 59 ∧ j ≠ 0 then (v, L.drop (j + 1), 0) else (0, [], 3) by
                rw [HTF.out]
                rcases HV.out with ⟨_, _, h⟩ | ⟨h, h2, _⟩
                · cases h
                · rw [show foldV (L.take j) 0 = val (L.take j) from rfl, if_neg (by omega), h2])
              by_cases h59 : L[j]? = some 59 ∧ j ≠ 0
              · have hj2 : ((j : Int) == 0) = false := by rw [beq_eq_false_iff_ne]; have := h59.2; omega
                have hc : (s[j]'hlt) = 59 := by
                  have e := h59.1
                  rw [← HLL.out, List.getElem?_eq_getElem (by rw [← size_len]; exact hlt)] at e
                  exact Option.some.inj e
                have hc1 : (((s[j]'hlt).toNat : Int) == 59) = true := by rw [hc]; rfl
                have hc2 : (((s[j]'hlt).toNat : Int) != 59) = false := by rw [hc]; rfl
                have hw1 : IntKind.i64.wrap ((j : Int) + 1) = (j : Int) + 1 := IntWalk.i64_in _ ⟨by have := HS.out; omega, by have := HS.out; omega⟩
                have hp0 : (0 : Int) ≤ (j : Int) + 1 := by omega
                have hp1 : (j : Int) + 1 ≤ (s.size : Int) := by omega
                have hp2 : ((j : Int) + 1).toNat = j + 1 := by omega
                have HR := Lib.hid (show tnL L = (v, L.drop (j + 1), 0) by rw [HTG.out, if_neg (by rw [← HLL.out, ← size_len]; omega), if_pos h59])
                clear h59 hc
                go_wp2_with fail
                refine (HTO.out _).mono ?_
                rintro e w1 ⟨rfl, hb⟩
                have HB := Lib.hid hb
                clear hb
                go_wp2
                go_big_region
                go_wp2
                try rw [Exit.noGoto_ret]
                exact bodyPost_ret (v := .tuple #[.int .u64 (v : Int), .string (s.extract (j + 1) s.size), .int .i64 0]) (by simp [results, Try.results106, go_sem]) rfl ⟨by rw [HLL.out, tnV_of HR.out, extract_L, HLL.out], bl_drew HB.out⟩
              · have HR := Lib.hid (show tnL L = (0, [], 3) by rw [HTG.out, if_neg (by rw [← HLL.out, ← size_len]; omega), if_neg h59])
                by_cases hj3 : j = 0
                · have hj2 : ((j : Int) == 0) = true := by rw [hj3]; rfl
                  clear h59 hj3
                  go_wp2_with fail
                  refine (HTO.out _).mono ?_
                  rintro e w1 ⟨rfl, hb⟩
                  have HB := Lib.hid hb
                  clear hb
                  go_wp2
                  try rw [Exit.noGoto_ret]
                  exact bodyPost_ret (v := .tuple #[.int .u64 0, .string ⟨#[]⟩, .int .i64 3]) (by simp [results, Try.results106, go_sem]) rfl ⟨by rw [HLL.out, tnV_of HR.out]; rfl, HB.out⟩
                · have hj2 : ((j : Int) == 0) = false := by rw [beq_eq_false_iff_ne]; omega
                  have hne : ¬ ((s[j]'hlt).toNat : Int) = 59 := fun e => h59 ⟨by rw [← HLL.out, List.getElem?_eq_getElem (by rw [← size_len]; exact hlt)]; exact congrArg some (UInt8.toNat_inj.1 (show (s.data.toList[j]'(by rw [← size_len]; exact hlt)).toNat = 59 by have : ((s.data.toList[j]'(by rw [← size_len]; exact hlt)).toNat : Int) = 59 := e; omega)), hj3⟩
                  have hc1 : (((s[j]'hlt).toNat : Int) == 59) = false := by rw [beq_eq_false_iff_ne]; exact hne
                  have hc2 : (((s[j]'hlt).toNat : Int) != 59) = true := by rw [bne_iff_ne]; exact hne
                  clear h59 hj3 hne
                  go_wp2_with fail
                  refine (HTO.out _).mono ?_
                  rintro e w1 ⟨rfl, hb⟩
                  have HB := Lib.hid hb
                  clear hb
                  go_wp2
                  try rw [Exit.noGoto_ret]
                  exact bodyPost_ret (v := .tuple #[.int .u64 0, .string ⟨#[]⟩, .int .i64 3]) (by simp [results, Try.results106, go_sem]) rfl ⟨by rw [HLL.out, tnV_of HR.out]; rfl, HB.out⟩
        · have hhi : (57 : Int) < ((s[j]'hlt).toNat : Int) := by omega
          clear hor
          by_cases h20 : 20 < j
          · have h20z : (20 : Int) < (j : Int) := by omega
            have HR := Lib.hid (show tnL L = (0, [], 3) by rw [HTL.out, if_pos (.inl h20)])
            go_wp2
            try rw [Exit.noGoto_ret]
            exact bodyPost_ret (v := .tuple #[.int .u64 0, .string ⟨#[]⟩, .int .i64 3]) (by simp [results, Try.results106, go_sem]) rfl ⟨by rw [HLL.out, tnV_of HR.out]; rfl, bl_refl _⟩
          have h20z : ¬ (20 : Int) < (j : Int) := by omega
          by_cases h1 : 1 < j ∧ L.head? = some 48
          · have h1z : (1 : Int) < (j : Int) := by omega
            have hs0 : 0 < s.size := by omega
            have hs0z : (0 : Int) < (s.size : Int) := by omega
            have h48 : (((s[0]'hs0).toNat : Int) == 48) = true := by
              have e : L[0]? = some 48 := by rw [← List.head?_eq_getElem?]; exact h1.2
              have e2 : s.data.toList[0]? = some 48 := by rw [HLL.out]; exact e
              have e3 : s.data.toList[0]'(by rw [← size_len]; exact hs0) = 48 := by rw [List.getElem?_eq_getElem (by rw [← size_len]; exact hs0)] at e2; exact Option.some.inj e2
              show ((s.data.toList[0].toNat : Int) == 48) = true
              rw [e3]; rfl
            have HR := Lib.hid (show tnL L = (0, [], 3) by rw [HTL.out, if_pos (.inr h1)])
            clear h1
            go_wp2_with fail
            refine (HTO.out _).mono ?_
            rintro e w1 ⟨rfl, hb⟩
            have HB := Lib.hid hb
            clear hb
            go_wp2
            try rw [Exit.noGoto_ret]
            exact bodyPost_ret (v := .tuple #[.int .u64 0, .string ⟨#[]⟩, .int .i64 3]) (by simp [results, Try.results106, go_sem]) rfl ⟨by rw [HLL.out, tnV_of HR.out]; rfl, HB.out⟩
          obtain ⟨q, hq⟩ : ∃ q : Bool, ((decide (1 < j) && (L.head? == some 48)) = q) := ⟨_, rfl⟩
          have HTF := Lib.hid (HTL.out.trans (if_neg (by rintro (h | h); exact h20 h; exact h1 h)))
          have hz : (1 : Int) < (j : Int) → ∀ hs0 : 0 < s.size, (((s[0]'hs0).toNat : Int) == 48) = false := fun hj hs0 => by
            rw [beq_eq_false_iff_ne]
            intro e
            refine h1 ⟨by omega, ?_⟩
            rw [List.head?_eq_getElem?, ← HLL.out, List.getElem?_eq_getElem (by rw [← size_len]; exact hs0)]
            exact congrArg some (UInt8.toNat_inj.1 (show (s.data.toList[0]'(by rw [← size_len]; exact hs0)).toNat = 48 by have : ((s.data.toList[0]'(by rw [← size_len]; exact hs0)).toNat : Int) = 48 := e; omega))
          have HZ := Lib.hid hz
          clear h1 hz hq q
          by_cases hj1 : (1 : Int) < (j : Int)
          · have hs0 : 0 < s.size := by omega
            have hs0z : (0 : Int) < (s.size : Int) := by omega
            have h48 := HZ.out hj1 hs0
            cases b with
            | false =>
              have HR := Lib.hid (show tnL L = (0, [], 3) by
                rw [HTF.out]
                rcases HV.out with ⟨h, _, _⟩ | ⟨_, _, h⟩
                · rw [show foldV (L.take j) 0 = val (L.take j) from rfl, if_pos h]
                · cases h)
              go_wp2_with fail
              refine (HTO.out _).mono ?_
              rintro e w1 ⟨rfl, hb⟩
              have HB := Lib.hid hb
              clear hb
              go_wp2
              try rw [Exit.noGoto_ret]
              exact bodyPost_ret (v := .tuple #[.int .u64 0, .string ⟨#[]⟩, .int .i64 3]) (by simp [results, Try.results106, go_sem]) rfl ⟨by rw [HLL.out, tnV_of HR.out]; rfl, HB.out⟩
            | true =>
              have HTG := Lib.hid (show tnL L = if j = L.length then (0, [], 2) else if L[j]? = some 59 ∧ j ≠ 0 then (v, L.drop (j + 1), 0) else (0, [], 3) by
                rw [HTF.out]
                rcases HV.out with ⟨_, _, h⟩ | ⟨h, h2, _⟩
                · cases h
                · rw [show foldV (L.take j) 0 = val (L.take j) from rfl, if_neg (by omega), h2])
              by_cases h59 : L[j]? = some 59 ∧ j ≠ 0
              · have hj2 : ((j : Int) == 0) = false := by rw [beq_eq_false_iff_ne]; have := h59.2; omega
                have hc : (s[j]'hlt) = 59 := by
                  have e := h59.1
                  rw [← HLL.out, List.getElem?_eq_getElem (by rw [← size_len]; exact hlt)] at e
                  exact Option.some.inj e
                have hc1 : (((s[j]'hlt).toNat : Int) == 59) = true := by rw [hc]; rfl
                have hc2 : (((s[j]'hlt).toNat : Int) != 59) = false := by rw [hc]; rfl
                have hw1 : IntKind.i64.wrap ((j : Int) + 1) = (j : Int) + 1 := IntWalk.i64_in _ ⟨by have := HS.out; omega, by have := HS.out; omega⟩
                have hp0 : (0 : Int) ≤ (j : Int) + 1 := by omega
                have hp1 : (j : Int) + 1 ≤ (s.size : Int) := by omega
                have hp2 : ((j : Int) + 1).toNat = j + 1 := by omega
                have HR := Lib.hid (show tnL L = (v, L.drop (j + 1), 0) by rw [HTG.out, if_neg (by rw [← HLL.out, ← size_len]; omega), if_pos h59])
                clear h59 hc
                go_wp2_with fail
                refine (HTO.out _).mono ?_
                rintro e w1 ⟨rfl, hb⟩
                have HB := Lib.hid hb
                clear hb
                go_wp2
                go_big_region
                go_wp2
                try rw [Exit.noGoto_ret]
                exact bodyPost_ret (v := .tuple #[.int .u64 (v : Int), .string (s.extract (j + 1) s.size), .int .i64 0]) (by simp [results, Try.results106, go_sem]) rfl ⟨by rw [HLL.out, tnV_of HR.out, extract_L, HLL.out], bl_drew HB.out⟩
              · have HR := Lib.hid (show tnL L = (0, [], 3) by rw [HTG.out, if_neg (by rw [← HLL.out, ← size_len]; omega), if_neg h59])
                by_cases hj3 : j = 0
                · have hj2 : ((j : Int) == 0) = true := by rw [hj3]; rfl
                  clear h59 hj3
                  go_wp2_with fail
                  refine (HTO.out _).mono ?_
                  rintro e w1 ⟨rfl, hb⟩
                  have HB := Lib.hid hb
                  clear hb
                  go_wp2
                  try rw [Exit.noGoto_ret]
                  exact bodyPost_ret (v := .tuple #[.int .u64 0, .string ⟨#[]⟩, .int .i64 3]) (by simp [results, Try.results106, go_sem]) rfl ⟨by rw [HLL.out, tnV_of HR.out]; rfl, HB.out⟩
                · have hj2 : ((j : Int) == 0) = false := by rw [beq_eq_false_iff_ne]; omega
                  have hne : ¬ ((s[j]'hlt).toNat : Int) = 59 := fun e => h59 ⟨by rw [← HLL.out, List.getElem?_eq_getElem (by rw [← size_len]; exact hlt)]; exact congrArg some (UInt8.toNat_inj.1 (show (s.data.toList[j]'(by rw [← size_len]; exact hlt)).toNat = 59 by have : ((s.data.toList[j]'(by rw [← size_len]; exact hlt)).toNat : Int) = 59 := e; omega)), hj3⟩
                  have hc1 : (((s[j]'hlt).toNat : Int) == 59) = false := by rw [beq_eq_false_iff_ne]; exact hne
                  have hc2 : (((s[j]'hlt).toNat : Int) != 59) = true := by rw [bne_iff_ne]; exact hne
                  clear h59 hj3 hne
                  go_wp2_with fail
                  refine (HTO.out _).mono ?_
                  rintro e w1 ⟨rfl, hb⟩
                  have HB := Lib.hid hb
                  clear hb
                  go_wp2
                  try rw [Exit.noGoto_ret]
                  exact bodyPost_ret (v := .tuple #[.int .u64 0, .string ⟨#[]⟩, .int .i64 3]) (by simp [results, Try.results106, go_sem]) rfl ⟨by rw [HLL.out, tnV_of HR.out]; rfl, HB.out⟩
          · cases b with
            | false =>
              have HR := Lib.hid (show tnL L = (0, [], 3) by
                rw [HTF.out]
                rcases HV.out with ⟨h, _, _⟩ | ⟨_, _, h⟩
                · rw [show foldV (L.take j) 0 = val (L.take j) from rfl, if_pos h]
                · cases h)
              go_wp2_with fail
              refine (HTO.out _).mono ?_
              rintro e w1 ⟨rfl, hb⟩
              have HB := Lib.hid hb
              clear hb
              go_wp2
              try rw [Exit.noGoto_ret]
              exact bodyPost_ret (v := .tuple #[.int .u64 0, .string ⟨#[]⟩, .int .i64 3]) (by simp [results, Try.results106, go_sem]) rfl ⟨by rw [HLL.out, tnV_of HR.out]; rfl, HB.out⟩
            | true =>
              have HTG := Lib.hid (show tnL L = if j = L.length then (0, [], 2) else if L[j]? = some 59 ∧ j ≠ 0 then (v, L.drop (j + 1), 0) else (0, [], 3) by
                rw [HTF.out]
                rcases HV.out with ⟨_, _, h⟩ | ⟨h, h2, _⟩
                · cases h
                · rw [show foldV (L.take j) 0 = val (L.take j) from rfl, if_neg (by omega), h2])
              by_cases h59 : L[j]? = some 59 ∧ j ≠ 0
              · have hj2 : ((j : Int) == 0) = false := by rw [beq_eq_false_iff_ne]; have := h59.2; omega
                have hc : (s[j]'hlt) = 59 := by
                  have e := h59.1
                  rw [← HLL.out, List.getElem?_eq_getElem (by rw [← size_len]; exact hlt)] at e
                  exact Option.some.inj e
                have hc1 : (((s[j]'hlt).toNat : Int) == 59) = true := by rw [hc]; rfl
                have hc2 : (((s[j]'hlt).toNat : Int) != 59) = false := by rw [hc]; rfl
                have hw1 : IntKind.i64.wrap ((j : Int) + 1) = (j : Int) + 1 := IntWalk.i64_in _ ⟨by have := HS.out; omega, by have := HS.out; omega⟩
                have hp0 : (0 : Int) ≤ (j : Int) + 1 := by omega
                have hp1 : (j : Int) + 1 ≤ (s.size : Int) := by omega
                have hp2 : ((j : Int) + 1).toNat = j + 1 := by omega
                have HR := Lib.hid (show tnL L = (v, L.drop (j + 1), 0) by rw [HTG.out, if_neg (by rw [← HLL.out, ← size_len]; omega), if_pos h59])
                clear h59 hc
                go_wp2_with fail
                refine (HTO.out _).mono ?_
                rintro e w1 ⟨rfl, hb⟩
                have HB := Lib.hid hb
                clear hb
                go_wp2
                go_big_region
                go_wp2
                try rw [Exit.noGoto_ret]
                exact bodyPost_ret (v := .tuple #[.int .u64 (v : Int), .string (s.extract (j + 1) s.size), .int .i64 0]) (by simp [results, Try.results106, go_sem]) rfl ⟨by rw [HLL.out, tnV_of HR.out, extract_L, HLL.out], bl_drew HB.out⟩
              · have HR := Lib.hid (show tnL L = (0, [], 3) by rw [HTG.out, if_neg (by rw [← HLL.out, ← size_len]; omega), if_neg h59])
                by_cases hj3 : j = 0
                · have hj2 : ((j : Int) == 0) = true := by rw [hj3]; rfl
                  clear h59 hj3
                  go_wp2_with fail
                  refine (HTO.out _).mono ?_
                  rintro e w1 ⟨rfl, hb⟩
                  have HB := Lib.hid hb
                  clear hb
                  go_wp2
                  try rw [Exit.noGoto_ret]
                  exact bodyPost_ret (v := .tuple #[.int .u64 0, .string ⟨#[]⟩, .int .i64 3]) (by simp [results, Try.results106, go_sem]) rfl ⟨by rw [HLL.out, tnV_of HR.out]; rfl, HB.out⟩
                · have hj2 : ((j : Int) == 0) = false := by rw [beq_eq_false_iff_ne]; omega
                  have hne : ¬ ((s[j]'hlt).toNat : Int) = 59 := fun e => h59 ⟨by rw [← HLL.out, List.getElem?_eq_getElem (by rw [← size_len]; exact hlt)]; exact congrArg some (UInt8.toNat_inj.1 (show (s.data.toList[j]'(by rw [← size_len]; exact hlt)).toNat = 59 by have : ((s.data.toList[j]'(by rw [← size_len]; exact hlt)).toNat : Int) = 59 := e; omega)), hj3⟩
                  have hc1 : (((s[j]'hlt).toNat : Int) == 59) = false := by rw [beq_eq_false_iff_ne]; exact hne
                  have hc2 : (((s[j]'hlt).toNat : Int) != 59) = true := by rw [bne_iff_ne]; exact hne
                  clear h59 hj3 hne
                  go_wp2_with fail
                  refine (HTO.out _).mono ?_
                  rintro e w1 ⟨rfl, hb⟩
                  have HB := Lib.hid hb
                  clear hb
                  go_wp2
                  try rw [Exit.noGoto_ret]
                  exact bodyPost_ret (v := .tuple #[.int .u64 0, .string ⟨#[]⟩, .int .i64 3]) (by simp [results, Try.results106, go_sem]) rfl ⟨by rw [HLL.out, tnV_of HR.out]; rfl, HB.out⟩
end Go.Proofs.Ytkcebmamohimoaa
