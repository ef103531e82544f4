/- strings.Builder at this program: writing a string, and the string; Text, TakeText. -/
import Derived.Test.YtkcebmamohimoaaN4
import Derived.Shelf.Strings.Builder1
namespace Go.Proofs.Ytkcebmamohimoaa
open Go.RowKit Go.Shelf Go.Proofs.YtkcebmamohimoaaW.PrintWords
set_option linter.unusedVariables false
set_option linter.unusedSimpArgs false
def lays169_ren : Go.Shelf.Ren := ⟨fun | 169 => 93 | n => n, fun | 70 => 137 | 9 => 9 | 0 => 0 | 72 => 140 | 37 => 138 | 127 => 202 | 3 => 3 | 5 => 5 | n => n, fun | n => n⟩
theorem lays169 : Go.Proofs.Lays.n169 Try.prog lays169_ren := {
  mixed := by kernel_rfl
  f169 := Try.func93.trans (congrArg some (by kernel_rfl))
  t0 := Try.underlying0
  a0 := Try.isAgg0
  z0 := Try.sizeOf0
  v0 := Try.zeroValue0
  t3 := Try.underlying3
  a3 := Try.isAgg3
  z3 := Try.sizeOf3
  v3 := Try.zeroValue3
  t9 := Try.underlying9
  a9 := Try.isAgg9
  z9 := Try.sizeOf9
  v9 := Try.zeroValue9
  t37 := Try.underlying138
  a37 := Try.isAgg138
  z37 := Try.sizeOf138
  v37 := Try.zeroValue138
  t70 := Try.underlying137
  a70 := Try.isAgg137
  z70 := Try.sizeOf137
  v70 := Try.zeroValue137
  t72 := Try.underlying140
  a72 := Try.isAgg140
  z72 := Try.sizeOf140
  v72 := Try.zeroValue140
  t127 := Try.underlying202
  a127 := Try.isAgg202
  z127 := Try.sizeOf202
  v127 := Try.zeroValue202 }
theorem Builder_Extra_169 : Builder.Extra Try.prog lays169_ren := {
  sizeBuilder := by kernel_rfl
  liesBuilder := by kernel_rfl
  t5 := Try.underlying5
  a5 := Try.isAgg5
  z5 := Try.sizeOf5
  v5 := Try.zeroValue5
  infoByte := by kernel_rfl
  cellsByte := by kernel_rfl
  sizeByte := by kernel_rfl
  neB5 := by decide }
theorem Builder_String (B b : Nat) (l : List UInt8) (w : World) (h : Lib.IsBuilder 140 5 B b (Lib.byteCells l) w) (h0 : l ≠ []) :
    Calls Try.prog 93 #[.pointer (some ⟨b, 0, none⟩)] w fun e w' => e = .returned (.string ⟨l.toArray⟩) ∧ Below B w w' := Any.Builder_String lays169 Builder_Extra_169 B b l w h h0
theorem Builder_String_empty (B b : Nat) (w : World) (h : Lib.IsBuilder 140 5 B b [] w) (hBw : B ≤ w.heap.size) :
    Calls Try.prog 93 #[.pointer (some ⟨b, 0, none⟩)] w fun e w' => e = .returned (.string ⟨#[]⟩) ∧ Below B w w' := Any.Builder_String_empty lays169 Builder_Extra_169 B b w h hBw
theorem Builder_String_any (B b : Nat) (l : List UInt8) (w : World) (h : Lib.IsBuilder 140 5 B b (Lib.byteCells l) w) (hBw : B ≤ w.heap.size) :
    Calls Try.prog 93 #[.pointer (some ⟨b, 0, none⟩)] w fun e w' => e = .returned (.string ⟨l.toArray⟩) ∧ Below B w w' := Any.Builder_String_any lays169 Builder_Extra_169 B b l w h hBw

theorem infoBuilder : (Try.prog.info? 140).map (·.size) = some 2 := by kernel_rfl
theorem liesBuilder : liesAt Try.prog Try.prog.depth 140 (2 / Try.prog.cellsOf 140) 0 140 1 = true := by kernel_rfl
theorem infoByte : (Try.prog.info? 5).map (fun i => (i.zero, i.size, i.bytes)) = some (some (.int .u8 0), 1, 1) := by kernel_rfl
set_option maxHeartbeats 1000000 in
set_option maxRecDepth 100000 in
theorem copyCheck_used (b : Nat) (w : World) (h0 : w.cell? ⟨b, 0, none⟩ = some (.pointer (some ⟨b, 0, none⟩))) :
    Calls Try.prog 152 #[.pointer (some ⟨b, 0, none⟩)] w fun e w' => e = .returned (.tuple #[]) ∧ w' = w := by
  obtain ⟨j, hj, _⟩ := Option.map_eq_some_iff.1 infoBuilder
  go_enter Try.func152, Try.ntmps152
  go_wp2
  rw [Lib.run_neq_ptr_same w _ Try.underlying137 hj]
  go_wp2
  go_end0
  exact ⟨rfl, rfl⟩
set_option maxHeartbeats 1000000 in
set_option maxRecDepth 100000 in
theorem copyCheck_fresh (b : Nat) (w : World) (h0 : w.cell? ⟨b, 0, none⟩ = some (.pointer none)) (hsh : w.shape? b = some (140, 2)) (hfz : w.frozen? ⟨b, 0, none⟩ = false) :
    Calls Try.prog 152 #[.pointer (some ⟨b, 0, none⟩)] w fun e w' => e = .returned (.tuple #[]) ∧ w' = w.setCell ⟨b, 0, none⟩ (.pointer (some ⟨b, 0, none⟩)) := by
  obtain ⟨j, hj, hjs⟩ := Option.map_eq_some_iff.1 infoBuilder
  go_enter Try.func152, Try.ntmps152
  go_wp2
  rw [Lib.run_to_unsafe w ⟨b, 0, none⟩ Try.underlying137 Try.underlying235 hj (by rw [hjs]; decide) hsh (Nat.zero_lt_succ 1)]
  simp only [Result.andThen]
  rw [Oper.upon_value]
  go_wp2
  rw [run_callFunc_extern Try.func195 (by kernel_rfl) (by kernel_rfl) (by kernel_rfl) (e := Extern.AbiNoEscape.same) (by kernel_rfl)]
  rw [Lib.run_noEscape]
  simp only [Result.andThen]
  rw [Oper.upon_value]
  go_wp2
  rw [Lib.run_from_unsafe w ⟨b, 0, none⟩ Try.underlying235 Try.underlying137 hj hsh liesBuilder]
  simp only [Result.andThen]
  rw [Oper.upon_value]
  go_wp2
  go_end0
  exact ⟨rfl, rfl⟩
theorem copyCheck152 (B b : Nat) (bs : List Value) (w : World) (h : Lib.IsBuilder 140 5 B b bs w) :
    Calls Try.prog 152 #[.pointer (some ⟨b, 0, none⟩)] w fun e w' => e = .returned (.tuple #[]) ∧ (Lib.BuilderAt 140 5 B b (.pointer (some ⟨b, 0, none⟩)) bs w' ∧ Below B w w') := by
  rcases h with h | h
  · refine (copyCheck_fresh b w h.cell0 h.shape h.frozen0).mono ?_
    rintro e w' ⟨rfl, rfl⟩
    exact ⟨rfl, h.used _, (Below.refl B w).setCell (p := ⟨b, 0, none⟩) h.1 _⟩
  · refine (copyCheck_used b w h.cell0).mono ?_
    rintro e w' ⟨rfl, rfl⟩
    exact ⟨rfl, h, Below.refl B _⟩
set_option maxHeartbeats 2000000 in
set_option maxRecDepth 100000 in
/-- Writing a string. -/
theorem write90 (B b : Nat) (bs : List Value) (s : ByteArray) (w : World) (h : Lib.IsBuilder 140 5 B b bs w) (hlen : bs.length + s.size ≤ 140737488355328) (hBw : B ≤ w.heap.size) :
    Calls Try.prog 90 #[.pointer (some ⟨b, 0, none⟩), .string s] w fun e w' => e = .returned (.tuple #[.int .i64 s.size, .nilIface]) ∧ (Lib.BuilderAt 140 5 B b (.pointer (some ⟨b, 0, none⟩)) (bs ++ Lib.strCells s) w' ∧ Below B w w') := by
  obtain ⟨i0, hi, hz0, hz1, hz2⟩ := info_parts infoByte
  go_enter Try.func90, Try.ntmps90
  go_wp2_with (go_at_call 152; refine (copyCheck152 B b bs _ h).mono ?_)
  rintro e w1 ⟨rfl, h1, hb1⟩
  obtain ⟨hB, v, hbk, hown, hne⟩ := h1
  have c0 : w1.cell? ⟨b, 0, none⟩ = some (.pointer (some ⟨b, 0, none⟩)) := by rw [Lib.cell_of_heap hbk]; rfl
  have c1 : w1.cell? ⟨b, 1, none⟩ = some v := by rw [Lib.cell_of_heap hbk]; rfl
  go_wp2_with (at_builtin; refine Lib.wpList_append_own_string _ rfl _ _ 138 9 rfl B 5 i0 Try.underlying138 Try.underlying9 hi hz0 hz1 hz2 _ _ _ rfl hown s rfl ?c3 ?c4 ?c5 ?_)
  case c3 => unfold maxLen; omega
  case c4 => omega
  case c5 => have := hb1.size; omega
  intro v' w2 hown' hgrow _
  have hlt : b < w1.heap.size := by
    rcases Nat.lt_or_ge b w1.heap.size with h' | h'
    · exact h'
    · simp [Array.getElem?_eq_none h'] at hbk
  have hb2 : w2.heap[b]? = some (.cells #[.pointer (some ⟨b, 0, none⟩), v] 140 (0, 0)) := by
    rw [hgrow.block b hlt (fun e => hne e.symm)]
    exact hbk
  have d0 : w2.cell? ⟨b, 0, none⟩ = some (.pointer (some ⟨b, 0, none⟩)) := by rw [Lib.cell_of_heap hb2]; rfl
  have d1 : w2.cell? ⟨b, 1, none⟩ = some v := by rw [Lib.cell_of_heap hb2]; rfl
  have f1 : w2.frozen? ⟨b, 1, none⟩ = false := Lib.frozen_of_heap hb2 1
  obtain ⟨ao, n', cap, rfl⟩ : ∃ ao n' cap, v' = .slice ao n' cap := by
    rcases hown'.2 with ⟨hv, _⟩ | ⟨g, cap, cur, hv, _⟩
    · exact ⟨_, _, _, hv⟩
    · exact ⟨_, _, _, hv⟩
  go_wp2
  go_ret2
  refine ⟨rfl, ?_, ?_⟩
  · exact Lib.BuilderAt.put (T := 140) (e := 5) hB hb2 (bs' := bs ++ Lib.strCells s) (by simpa [Lib.strCells_length] using hown') (by decide)
  · exact (hb1.grown hgrow (by have := hb1.size; omega) (fun k hk => (hown.lt k hk).1)).setCell (p := ⟨b, 1, none⟩) hB _
attribute [local go_sem] bl_refl bl_alloc bl_drew bl_drewN
set_option maxHeartbeats 2000000 in
set_option maxRecDepth 100000 in
theorem text92 (s : ByteArray) (hs : s.size ≤ 4611686018427387904) (w : World) :
    Calls Try.prog 92 #[.string s] w fun e w' => e = .returned (.string (bS (textL s.data.toList))) ∧ Below w.heap.size w w' := by
  have hw : IntKind.u64.wrap (s.size : Int) = (s.size : Int) := IntWalk.u64_in _ (And.intro (by omega) (by omega))
  have HC := Lib.hid (num91 s.size (by unfold big; omega) w)
  have h1 := numL_len s.size (by unfold big; omega)
  have hsz : (bS (numL s.size)).size + s.size ≤ 9223372036854775807 := by rw [size_len, bS_toList]; omega
  have HT := Lib.hid (show bS (numL s.size) ++ s = bS (textL s.data.toList) by unfold textL; rw [← bS_app, bS_data, ← size_len])
  clear h1
  go_enter Try.func92, Try.ntmps92
  go_wp2_with fail
  refine HC.out.mono ?_
  rintro e w1 ⟨rfl, hb⟩
  have HB := Lib.hid hb
  clear hb
  go_wp2
  go_ret
  exact ⟨by rw [← HT.out]; rfl, HB.out⟩
set_option maxHeartbeats 2000000 in
set_option maxRecDepth 100000 in
theorem text95 (s : ByteArray) (hs : s.size ≤ 4611686018427387904) (w : World) :
    Calls Try.prog 95 #[.string s] w fun e w' => e = .returned (.string (bS (textL s.data.toList))) ∧ Below w.heap.size w w' := by
  have hw : IntKind.u64.wrap (s.size : Int) = (s.size : Int) := IntWalk.u64_in _ (And.intro (by omega) (by omega))
  have HC := Lib.hid (num94 s.size (by unfold big; omega) w)
  have h1 := numL_len s.size (by unfold big; omega)
  have hsz : (bS (numL s.size)).size + s.size ≤ 9223372036854775807 := by rw [size_len, bS_toList]; omega
  have HT := Lib.hid (show bS (numL s.size) ++ s = bS (textL s.data.toList) by unfold textL; rw [← bS_app, bS_data, ← size_len])
  clear h1
  go_enter Try.func95, Try.ntmps95
  go_wp2_with fail
  refine HC.out.mono ?_
  rintro e w1 ⟨rfl, hb⟩
  have HB := Lib.hid hb
  clear hb
  go_wp2
  go_ret
  exact ⟨by rw [← HT.out]; rfl, HB.out⟩
theorem ttV_of {l : Bs} {most : Nat} {t r : Bs} {e : Int} (h : ttL l most = (t, r, e)) : ttV l most = .tuple #[.string (bS t), .string (bS r), .int .i64 e] := by unfold ttV; rw [h]
set_option maxHeartbeats 4000000 in
set_option maxRecDepth 100000 in
theorem tt107 (s : ByteArray) (hs : s.size ≤ 4611686018427387904) (most : Nat) (hm : most ≤ 4611686018427387904) (w : World) :
    Calls Try.prog 107 #[.string s, .int .i64 (most : Int)] w fun e w' => e = .returned (ttV s.data.toList most) ∧ Below w.heap.size w w' := by
  have HC := Lib.hid (fun w => tn106 s hs w)
  obtain ⟨v, r, e, hv⟩ : ∃ v r e, tnL s.data.toList = (v, r, e) := ⟨_, _, _, rfl⟩
  rw [tnV_of hv] at HC
  have hl := tnL_len s.data.toList
  have hlt := tnL_lt s.data.toList
  rw [hv, ← size_len] at hl
  rw [hv] at hlt
  simp only [] at hl hlt
  have hT : ttL s.data.toList most = if e ≠ 0 then ([], [], e) else if most < v then ([], [], 4) else if r.length < v then ([], [], 2) else (r.take v, r.drop v, 0) := by
    unfold ttL; rw [hv]
  have hsz : (bS r).size = r.length := by rw [size_len, bS_toList]
  have HSZ := Lib.hid hsz
  have hw1 : IntKind.u64.wrap (most : Int) = (most : Int) := IntWalk.u64_in _ (And.intro (by omega) (by omega))
  have hw2 : IntKind.u64.wrap ((bS r).size : Int) = ((bS r).size : Int) := IntWalk.u64_in _ (And.intro (by omega) (by omega))
  have hv0 : (0 : Int) ≤ (v : Int) := by omega
  have hm0 : ¬ ((most : Int) < 0) := by omega
  have hm1 : (0 : Int) ≤ (most : Int) := by omega
  by_cases he : e = 0
  · subst he
    by_cases h1 : most < v
    · rw [if_neg (by simp), if_pos h1] at hT
      have HT := Lib.hid (ttV_of hT)
      have h1z : (most : Int) < (v : Int) := by omega
      clear hT hl hlt hsz h1
      go_enter Try.func107, Try.ntmps107
      go_wp2_with fail
      refine (HC.out _).mono ?_
      rintro e w1 ⟨rfl, hb⟩
      have HB := Lib.hid hb
      clear hb
      go_wp2
      exact bodyPost_ret (v := .tuple #[.string ⟨#[]⟩, .string ⟨#[]⟩, .int .i64 4]) (by simp [results, Try.results107, go_sem]) rfl ⟨by rw [HT.out]; rfl, HB.out⟩
    · have h1z : ¬ ((most : Int) < (v : Int)) := by omega
      by_cases h2 : r.length < v
      · rw [if_neg (by simp), if_neg h1, if_pos h2] at hT
        have HT := Lib.hid (ttV_of hT)
        have h2z : ((bS r).size : Int) < (v : Int) := by omega
        clear hT hl hlt hsz h1 h2
        go_enter Try.func107, Try.ntmps107
        go_wp2_with fail
        refine (HC.out _).mono ?_
        rintro e w1 ⟨rfl, hb⟩
        have HB := Lib.hid hb
        clear hb
        go_wp2
        exact bodyPost_ret (v := .tuple #[.string ⟨#[]⟩, .string ⟨#[]⟩, .int .i64 2]) (by simp [results, Try.results107, go_sem]) rfl ⟨by rw [HT.out]; rfl, HB.out⟩
      · rw [if_neg (by simp), if_neg h1, if_neg h2] at hT
        have HT := Lib.hid (ttV_of hT)
        have h2z : ¬ (((bS r).size : Int) < (v : Int)) := by omega
        have h3z : (v : Int) ≤ ((bS r).size : Int) := by omega
        clear hT hl hlt hsz h1 h2
        go_enter Try.func107, Try.ntmps107
        go_wp2_with fail
        refine (HC.out _).mono ?_
        rintro e w1 ⟨rfl, hb⟩
        have HB := Lib.hid hb
        clear hb
        go_wp2
        go_big_region
        go_wp2
        exact bodyPost_ret (v := .tuple #[.string ((bS r).extract 0 v), .string ((bS r).extract v (bS r).size), .int .i64 0]) (by simp [results, Try.results107, go_sem]) rfl ⟨by rw [HT.out, extract_T, extract_L, bS_toList], bl_drew HB.out⟩
  · rw [if_pos he] at hT
    have HT := Lib.hid (ttV_of hT)
    have he1 : (e != 0) = true := by simpa using he
    have he2 : (e == 0) = false := by simpa using he
    clear hT hl hlt hsz he
    go_enter Try.func107, Try.ntmps107
    go_wp2_with fail
    refine (HC.out _).mono ?_
    rintro e' w1 ⟨rfl, hb⟩
    have HB := Lib.hid hb
    clear hb
    go_wp2
    exact bodyPost_ret (v := .tuple #[.string ⟨#[]⟩, .string ⟨#[]⟩, .int .i64 e]) (by simp [results, Try.results107, go_sem]) rfl ⟨by rw [HT.out]; rfl, HB.out⟩
end Go.Proofs.Ytkcebmamohimoaa
