/- The law BatchOnce, walked. -/
import Derived.Test.YtkcebmamohimoaaT5
import Derived.Test.YtkcebmamohimoaaDB
namespace Go.Proofs.Ytkcebmamohimoaa
open Go.RowKit Go.Proofs.YtkcebmamohimoaaW.PrintWords
set_option linter.unusedVariables false
set_option linter.unusedSimpArgs false
/-- A batch, and where its writes lie. -/
structure Bv where
  b : Bt
  A : Option Addr
  c : Nat
instance : Inhabited Bv := ⟨⟨⟨0, ⟨#[]⟩, []⟩, none, 0⟩⟩
def Bv.cells (x : Bv) : List Value := [.int .i64 x.b.kind, .string x.b.tok, .slice x.A x.b.ws.length x.c]
def kBv : Kd Bv := flat 3 Bv.cells (fun _ => rfl) (fun x u hu => by simp [Bv.cells] at hu; rcases hu with rfl | rfl | rfl <;> rfl)
theorem Bv.at {w : World} {A : Option Addr} {m : Nat} {xs : List Bv} (h : Kd.C kBv w A m xs) (k : Nat) (hk : k < m) : ∃ ad, A = some ad ∧ w.cell? (ad.add (k * 3)) = some (.int .i64 xs[k]!.b.kind) ∧ w.cell? ⟨(ad.add (k * 3)).block, (ad.add (k * 3)).off + 1, none⟩ = some (.string xs[k]!.b.tok) ∧ w.cell? ⟨(ad.add (k * 3)).block, (ad.add (k * 3)).off + 2, none⟩ = some (.slice xs[k]!.A xs[k]!.b.ws.length xs[k]!.c) := by
  obtain ⟨ad, e, hc⟩ := flat_get h k hk
  exact ⟨ad, e, hc 0 _ rfl, by rw [← add_field _ _ 1 (by omega)]; exact hc 1 _ rfl, by rw [← add_field _ _ 2 (by omega)]; exact hc 2 _ rfl⟩
theorem rd84 {H : Type} {enc : TypeId × Value → H} {w : World} {cs : List Value} (h : Rd enc w 84 cs) : ∃ (A : Option Addr) (L : List Bv) (cap : Nat), cs = [.slice A L.length cap] ∧ Kd.C kBv w A L.length L ∧ L.length ≤ cap ∧ ∀ x ∈ L, Kd.C kWr w x.A x.b.ws.length x.b.ws :=
  Rd.row (f := Bv.cells) Try.underlying84 cells50 (fun x : Bv => Kd.C kWr w x.A x.b.ws.length x.b.ws) (fun _ h => by
    obtain ⟨b, A, c, e, hC, _⟩ := rd50 h
    exact ⟨⟨b, A, c⟩, e, hC⟩) h
end Go.Proofs.Ytkcebmamohimoaa
namespace Go.Proofs.Ytkcebmamohimoaa
open Go.RowKit Go.Proofs.YtkcebmamohimoaaW.PrintWords Go.Proofs.YtkcebmamohimoaaW.PrintLast
set_option linter.unusedVariables false
set_option linter.unusedSimpArgs false
attribute [local go_sem] bl_refl bl_alloc bl_drew bl_drewN
set_option maxHeartbeats 16000000 in
set_option maxRecDepth 100000 in
theorem once8 (A : Option Addr) (c : Nat) (L : List Bv) (w : World) (h : Kd.C kBv w A L.length L) (hw : ∀ x ∈ L, Kd.C kWr w x.A x.b.ws.length x.b.ws) :
    Calls Try.prog 8 #[.slice A L.length c] w fun e w' => e = .returned (.bool true) ∧ Below w.heap.size w w' := by
  have HC := Lib.hid h
  have HW := Lib.hid hw
  have hm : L.length ≤ 9223372036854775807 := h.2.1
  clear h hw
  go_enter Try.func8, Try.ntmps8
  go_wp2_with fail
  refine (shown28 w).mono ?_
  rintro e w1 ⟨rfl, hb⟩
  have HB1 := Lib.hid hb
  have HC1 := Lib.hid (Kd.C_below HC.out hb)
  have HW1 := Lib.hid (fun x hx => Kd.C_below (HW.out x hx) hb)
  clear hb HC HW
  go_wp2_with fail
  go_loopg [5] L.length (fun gg s5 wr => ∃ (i : Nat) (s : St) (A1 A2 : Option Addr) (c1 c2 : Nat), i ≤ L.length ∧ L.length - i ≤ gg ∧ s5 = .int .i64 i ∧ Hid (wr.heap[w1.heap.size]? = some (.cells #[.slice A1 s.data.length c1, .slice A2 s.toks.length c2] 86 (0, 0))) ∧ Hid (Ft (fun k => k ≠ w1.heap.size) wr (fun W => Kd.C kPr W A1 s.data.length s.data)) ∧ Hid (s.data.length ≤ c1) ∧ Hid (Ft (fun k => k ≠ w1.heap.size) wr (fun W => Kd.C kPr W A2 s.toks.length s.toks)) ∧ Hid (s.toks.length ≤ c2) ∧ Hid (s.data.length ≤ 24 * i ∧ s.toks.length ≤ i ∧ i ≤ 200) ∧ Hid (Below w1.heap.size w1 wr))
  case atStart =>
    exact ⟨0, ⟨[], []⟩, none, none, 0, 0, Nat.zero_le _, by omega, rfl, blk_new w1 _, fun W _ => ⟨rfl, by simp, fun h => absurd h (by simp)⟩, Nat.le_refl _, fun W _ => ⟨rfl, by simp, fun h => absurd h (by simp)⟩, Nat.le_refl _, ⟨by simp, by simp, by simp⟩, bl_alloc _ (bl_refl w1)⟩
  case round =>
    obtain ⟨i, s, A1, A2, c1, c2, hi, hgg, rfl, HK, HD, HL1, HT, HL2, HN, HB⟩ := hrel
    have hi0 : (0 : Int) ≤ (i : Int) := by omega
    by_cases hlt : i < L.length
    rotate_left
    · have hltz : ¬ (i : Int) < (L.length : Int) := by omega
      go_wp2
      go_ret
      exact ⟨rfl, bl_trans HB1.out HB.out⟩
    have hltz : (i : Int) < (L.length : Int) := by omega
    by_cases hl2 : i < 200
    rotate_left
    · have hl2z : ¬ (i : Int) < 200 := by omega
      go_wp2
      go_ret
      exact ⟨rfl, bl_trans HB1.out HB.out⟩
    have hl2z : (i : Int) < 200 := by omega
    obtain ⟨x, hx⟩ : ∃ x, L[i]! = x := ⟨_, rfl⟩
    have hxm : x ∈ L := by rw [← hx, getElem!_pos L i hlt]; exact List.getElem_mem hlt
    have HXW := Lib.hid (Kd.C_below (HW1.out x hxm) HB.out)
    obtain ⟨ad, rfl, x0, x1, x2⟩ := Bv.at (Kd.C_below HC1.out HB.out) i hlt
    rw [hx] at x0 x1 x2
    have y0 := cell_rule x0
    have y1 := cell_rule x1
    have y2 := cell_rule x2
    have r4 := blk_cells HK.out
    have Br := bl_refl wr
    have HLT := Lib.hid hlt
    clear x0 x1 x2 hx hxm
    obtain ⟨t, err, hdo⟩ : ∃ t err, doSt s x.b = (t, err) := ⟨_, _, rfl⟩
    have HLAW := Lib.hid (doSt_law s t x.b err hdo)
    have HDO := Lib.hid hdo
    obtain ⟨how, was, hfs⟩ : ∃ how was, tFind s.toks x.b.tok = (how, was) := ⟨_, _, rfl⟩
    have HFS := Lib.hid hfs
    obtain ⟨now, has, hft⟩ : ∃ now has, tFind t.toks x.b.tok = (now, has) := ⟨_, _, rfl⟩
    have HFT := Lib.hid hft
    have HG := Lib.hid (show w1.heap.size < wr.heap.size from (Array.getElem?_eq_some_iff.1 HK.out).1)
    clear hdo hfs hft
    go_wp2
    refine start_ (n := 12) (S := fun w' => w'.cell? ⟨w1.heap.size, 0, none⟩ = some (.slice A1 s.data.length c1) ∧ w'.cell? ⟨w1.heap.size, 1, none⟩ = some (.slice A2 s.toks.length c2) ∧ w'.cell? ⟨(ad.add (i * 3)).block, (ad.add (i * 3)).off + 1, none⟩ = some (.string x.b.tok)) (ds := []) #[false, false, false, false, false, false, false, false, false, false, false, false] (by kernel_rfl) rfl rfl ⟨(r4 _ 0 (bl_drew (bl_refl wr))), (r4 _ 1 (bl_drew (bl_refl wr))), (y1 _ (bl_drew (bl_refl wr)))⟩ (fun hHeld => ?_)
    refine pure_ (i := 1) (N := some 28) (v := ?_) (a' := ?_) #[false, true, false, false, false, false, false, false, false, false, false, false] rfl rfl (by kernel_rfl) (fun _ _ _ h => h) (Or.inl ⟨by rfl, ?_⟩) ?_ ?_
    rotate_left
    · intro w'
      go_simp
      with_reducible rfl
    rotate_left
    · simp only [Act.put, List.setIfInBounds_toArray, List.set_cons_zero, List.set_cons_succ, i64_w, i32_w]
      rfl
    refine pure_ (i := 2) (N := some 29) (v := ?_) (a' := ?_) #[false, true, true, false, false, false, false, false, false, false, false, false] rfl rfl (by kernel_rfl) (fun _ _ _ h => h) (Or.inl ⟨by rfl, ?_⟩) ?_ ?_
    rotate_left
    · intro w'
      go_simp
      with_reducible rfl
    rotate_left
    · simp only [Act.put, List.setIfInBounds_toArray, List.set_cons_zero, List.set_cons_succ, i64_w, i32_w]
      rfl
    refine pure_ (i := 3) (N := some 30) (v := ?_) (a' := ?_) #[false, true, true, true, false, false, false, false, false, false, false, false] rfl rfl (by kernel_rfl) (fun _ _ _ h => h) (Or.inl ⟨by rfl, ?_⟩) ?_ ?_
    rotate_left
    · intro w'
      go_simp
      with_reducible rfl
    rotate_left
    · simp only [Act.put, List.setIfInBounds_toArray, List.set_cons_zero, List.set_cons_succ, i64_w, i32_w]
      rfl
    refine pure_ (i := 4) (N := some 31) (v := ?_) (a' := ?_) #[false, true, true, true, true, false, false, false, false, false, false, false] rfl rfl (by kernel_rfl) (fun _ _ _ h => h) (Or.inl ⟨by rfl, ?_⟩) ?_ ?_
    rotate_left
    · intro w'
      go_simp
      with_reducible rfl
    rotate_left
    · simp only [Act.put, List.setIfInBounds_toArray, List.set_cons_zero, List.set_cons_succ, i64_w, i32_w]
      rfl
    refine take_ (i := 0) (N := some 27) (v := ?_) (a' := ?_) #[true, true, true, true, true, false, false, false, false, false, false, false] rfl rfl (by kernel_rfl) (fun _ _ _ h => h) (Or.inl ⟨by rfl, ?_⟩) hHeld ?_ ?_
    rotate_left
    · rintro w' ⟨s0, s1, s2⟩
      go_simp
      with_reducible rfl
    rotate_left
    · simp only [Act.put, List.setIfInBounds_toArray, List.set_cons_zero, List.set_cons_succ, i64_w, i32_w]
      rfl
    refine take_ (i := 5) (N := some 32) (v := ?_) (a' := ?_) #[true, true, true, true, true, true, false, false, false, false, false, false] rfl rfl (by kernel_rfl) (fun _ _ _ h => h) (Or.inl ⟨by rfl, ?_⟩) hHeld ?_ ?_
    rotate_left
    · rintro w' ⟨s0, s1, s2⟩
      go_simp
      with_reducible rfl
    rotate_left
    · simp only [Act.put, List.setIfInBounds_toArray, List.set_cons_zero, List.set_cons_succ, i64_w, i32_w]
      rfl
    refine one_ (i := 6) (N := some 33) #[true, true, true, true, true, true, true, false, false, false, false, false] rfl rfl (by kernel_rfl) (by decide) (fun K hK => ?_)
    refine goes_ Try.func56 (by kernel_rfl) rfl #[.agg #[.slice A1 s.data.length c1, .slice A2 s.toks.length c2], .string x.b.tok] (by rfl) rfl rfl (by simp only [List.map_toArray, List.map_cons, List.map_nil]; rfl) ?_
    with_reducible refine (decided56 A2 c2 (.slice A1 s.data.length c1) rfl s.toks x.b.tok _ (HT.out.below (bl_drew (bl_refl wr))).self).mono ?_
    rintro e w2 ⟨rfl, hb⟩
    refine ⟨_, rfl, ?_⟩
    rw [HFS.out]
    have B2 : Below wr.heap.size wr w2 := bl_trans (bl_drew (bl_refl wr)) hb
    clear hb
    refine hK.out _ _ ⟨(r4 _ 0 B2), (r4 _ 1 B2), (y1 _ B2)⟩ (fun hHeld => ?_)
    clear hK K
    refine norm_ (a' := ?_) ?_ ?_
    rotate_left
    · show Act.put _ (some 33) _ = _
      simp only [Act.put, List.setIfInBounds_toArray, List.set_cons_zero, List.set_cons_succ, i64_w, i32_w]
      rfl
    refine pure_ (i := 7) (N := some 26) (v := ?_) (a' := ?_) #[true, true, true, true, true, true, true, true, false, false, false, false] rfl rfl (by kernel_rfl) (fun _ _ _ h => h) (Or.inl ⟨by rfl, ?_⟩) ?_ ?_
    rotate_left
    · intro w'
      go_simp
      with_reducible rfl
    rotate_left
    · simp only [Act.put, List.setIfInBounds_toArray, List.set_cons_zero, List.set_cons_succ, i64_w, i32_w]
      rfl
    refine pure_ (i := 8) (N := some 34) (v := ?_) (a' := ?_) #[true, true, true, true, true, true, true, true, true, false, false, false] rfl rfl (by kernel_rfl) (fun _ _ _ h => h) (Or.inl ⟨by rfl, ?_⟩) ?_ ?_
    rotate_left
    · intro w'
      go_simp
      with_reducible rfl
    rotate_left
    · simp only [Act.put, List.setIfInBounds_toArray, List.set_cons_zero, List.set_cons_succ, i64_w, i32_w]
      rfl
    refine pure_ (i := 9) (N := some 35) (v := ?_) (a' := ?_) #[true, true, true, true, true, true, true, true, true, true, false, false] rfl rfl (by kernel_rfl) (fun _ _ _ h => h) (Or.inl ⟨by rfl, ?_⟩) ?_ ?_
    rotate_left
    · intro w'
      go_simp
      with_reducible rfl
    rotate_left
    · simp only [Act.put, List.setIfInBounds_toArray, List.set_cons_zero, List.set_cons_succ, i64_w, i32_w]
      rfl
    refine pure_ (i := 10) (N := some 6) (v := ?_) (a' := ?_) #[true, true, true, true, true, true, true, true, true, true, true, false] rfl rfl (by kernel_rfl) (fun _ _ _ h => h) (Or.inl ⟨by rfl, ?_⟩) ?_ ?_
    rotate_left
    · intro w'
      go_simp
      with_reducible rfl
    rotate_left
    · simp only [Act.put, List.setIfInBounds_toArray, List.set_cons_zero, List.set_cons_succ, i64_w, i32_w]
      rfl
    refine pure_ (i := 11) (N := some 7) (v := ?_) (a' := ?_) #[true, true, true, true, true, true, true, true, true, true, true, true] rfl rfl (by kernel_rfl) (fun _ _ _ h => h) (Or.inl ⟨by rfl, ?_⟩) ?_ ?_
    rotate_left
    · intro w'
      go_simp
      with_reducible rfl
    rotate_left
    · simp only [Act.put, List.setIfInBounds_toArray, List.set_cons_zero, List.set_cons_succ, i64_w, i32_w]
      rfl
    refine done_ (by kernel_rfl) ?_
    have q0 := cell_rule (r4 w2 0 B2)
    have q1 := cell_rule (r4 w2 1 B2)
    have y0' := cell_rule (y0 w2 B2)
    have y1' := cell_rule (y1 w2 B2)
    have y2' := cell_rule (y2 w2 B2)
    have FD := Lib.hid ((HD.out.below B2).mono (fun k hk hl => (⟨hk, Nat.ne_of_lt hl⟩ : k ≠ w1.heap.size ∧ k ≠ w2.heap.size)))
    have FT := Lib.hid ((HT.out.below B2).mono (fun k hk hl => (⟨hk, Nat.ne_of_lt hl⟩ : k ≠ w1.heap.size ∧ k ≠ w2.heap.size)))
    have HG2 := Lib.hid (show w1.heap.size < w2.heap.size from Nat.lt_of_lt_of_le HG.out B2.size)
    have Bw2 := bl_refl w2
    clear Br r4 y0 y1 y2
    go_wp2
    refine start_ (n := 12) (S := fun w' => w'.cell? ⟨w1.heap.size, 0, none⟩ = some (.slice A1 s.data.length c1) ∧ w'.cell? ⟨w1.heap.size, 1, none⟩ = some (.slice A2 s.toks.length c2) ∧ w'.cell? (ad.add (i * 3)) = some (.int .i64 x.b.kind) ∧ w'.cell? ⟨(ad.add (i * 3)).block, (ad.add (i * 3)).off + 1, none⟩ = some (.string x.b.tok) ∧ w'.cell? ⟨(ad.add (i * 3)).block, (ad.add (i * 3)).off + 2, none⟩ = some (.slice x.A x.b.ws.length x.c)) (ds := [10]) #[false, false, false, false, false, false, false, false, false, false, false, false] (by kernel_rfl) rfl rfl ⟨(q0 _ (bl_drew (bl_refl w2))), (q1 _ (bl_drew (bl_refl w2))), (y0' _ (bl_drew (bl_refl w2))), (y1' _ (bl_drew (bl_refl w2))), (y2' _ (bl_drew (bl_refl w2)))⟩ (fun hHeld => ?_)
    refine pure_ (i := 1) (N := some 38) (v := ?_) (a' := ?_) #[false, true, false, false, false, false, false, false, false, false, false, false] rfl rfl (by kernel_rfl) (fun _ _ _ h => h) (Or.inl ⟨by rfl, ?_⟩) ?_ ?_
    rotate_left
    · intro w'
      go_simp
      with_reducible rfl
    rotate_left
    · simp only [Act.put, List.setIfInBounds_toArray, List.set_cons_zero, List.set_cons_succ, i64_w, i32_w]
      rfl
    refine pure_ (i := 2) (N := some 39) (v := ?_) (a' := ?_) #[false, true, true, false, false, false, false, false, false, false, false, false] rfl rfl (by kernel_rfl) (fun _ _ _ h => h) (Or.inl ⟨by rfl, ?_⟩) ?_ ?_
    rotate_left
    · intro w'
      go_simp
      with_reducible rfl
    rotate_left
    · simp only [Act.put, List.setIfInBounds_toArray, List.set_cons_zero, List.set_cons_succ, i64_w, i32_w]
      rfl
    refine pure_ (i := 3) (N := some 40) (v := ?_) (a' := ?_) #[false, true, true, true, false, false, false, false, false, false, false, false] rfl rfl (by kernel_rfl) (fun _ _ _ h => h) (Or.inl ⟨by rfl, ?_⟩) ?_ ?_
    rotate_left
    · intro w'
      go_simp
      with_reducible rfl
    rotate_left
    · simp only [Act.put, List.setIfInBounds_toArray, List.set_cons_zero, List.set_cons_succ, i64_w, i32_w]
      rfl
    refine take_ (i := 0) (N := some 37) (v := ?_) (a' := ?_) #[true, true, true, true, false, false, false, false, false, false, false, false] rfl rfl (by kernel_rfl) (fun _ _ _ h => h) (Or.inl ⟨by rfl, ?_⟩) hHeld ?_ ?_
    rotate_left
    · rintro w' ⟨s0, s1, s2, s3, s4⟩
      go_simp
      with_reducible rfl
    rotate_left
    · simp only [Act.put, List.setIfInBounds_toArray, List.set_cons_zero, List.set_cons_succ, i64_w, i32_w]
      rfl
    refine take_ (i := 4) (N := some 41) (v := ?_) (a' := ?_) #[true, true, true, true, true, false, false, false, false, false, false, false] rfl rfl (by kernel_rfl) (fun _ _ _ h => h) (Or.inl ⟨by rfl, ?_⟩) hHeld ?_ ?_
    rotate_left
    · rintro w' ⟨s0, s1, s2, s3, s4⟩
      go_simp
      with_reducible rfl
    rotate_left
    · simp only [Act.put, List.setIfInBounds_toArray, List.set_cons_zero, List.set_cons_succ, i64_w, i32_w]
      rfl
    refine join_ (σ := Nat × Option Addr × Nat × Option Addr × Nat) 2 #[true, true, true, true, true, true, true, true, true, true, false, false] (fun p_ => [(42, .tuple #[.agg #[.slice p_.2.1 t.data.length p_.2.2.1, .slice p_.2.2.2.1 t.toks.length p_.2.2.2.2], .int .i64 err]), (8, .pointer (some ⟨p_.1, 0, none⟩)), (36, .tuple #[.agg #[.slice p_.2.1 t.data.length p_.2.2.1, .slice p_.2.2.2.1 t.toks.length p_.2.2.2.2], .int .i64 err]), (43, .agg #[.slice p_.2.1 t.data.length p_.2.2.1, .slice p_.2.2.2.1 t.toks.length p_.2.2.2.2]), (44, .int .i64 err)]) (fun p_ w' => (w'.cell? ⟨w1.heap.size, 0, none⟩ = some (.slice A1 s.data.length c1) ∧ w'.cell? ⟨w1.heap.size, 1, none⟩ = some (.slice A2 s.toks.length c2) ∧ w'.cell? (ad.add (i * 3)) = some (.int .i64 x.b.kind) ∧ w'.cell? ⟨(ad.add (i * 3)).block, (ad.add (i * 3)).off + 1, none⟩ = some (.string x.b.tok) ∧ w'.cell? ⟨(ad.add (i * 3)).block, (ad.add (i * 3)).off + 2, none⟩ = some (.slice x.A x.b.ws.length x.c)) ∧ Below w2.heap.size w2 w' ∧ w'.heap[p_.1]? = some (.cells #[.slice none 0 0, .slice none 0 0] 86 (0, 0)) ∧ w2.heap.size ≤ p_.1 ∧ Ft (fun k => k ≠ w1.heap.size ∧ k ≠ p_.1) w' (fun W => Kd.C kPr W p_.2.1 t.data.length t.data) ∧ t.data.length ≤ p_.2.2.1 ∧ Ft (fun k => k ≠ w1.heap.size ∧ k ≠ p_.1) w' (fun W => Kd.C kPr W p_.2.2.2.1 t.toks.length t.toks) ∧ t.toks.length ≤ p_.2.2.2.2) ?_ ?_
    rotate_left
    · intro hCont
      refine two_ (i := 5) (j := 9) (Ni := some 42) (Nj := some 8) #[true, true, true, true, true, true, false, false, false, false, false, false] #[true, true, true, true, true, false, false, false, false, true, false, false] rfl rfl rfl rfl (by kernel_rfl) (by decide) (by decide) (fun K hK => ?_) (fun K hK => ?_)
      · skip
        refine goes_ Try.func57 (by kernel_rfl) rfl #[.agg #[.slice A1 s.data.length c1, .slice A2 s.toks.length c2], .agg #[.int .i64 x.b.kind, .string x.b.tok, .slice x.A x.b.ws.length x.c]] (by rfl) rfl rfl (by simp only [List.map_toArray, List.map_cons, List.map_nil]; rfl) ?_
        with_reducible refine (do57 (fun k => k ≠ w1.heap.size ∧ k ≠ w2.heap.size) A1 A2 x.A c1 c2 x.c s t err x.b HDO.out _ (FD.out.drew) HL1.out (FT.out.drew) HL2.out (Kd.C_below HXW.out (bl_trans B2 (bl_drew (bl_refl w2)))) (by have := HN.out; omega) (by have := HN.out; omega)).mono ?_
        rintro e w4 ⟨A4, c4, A5, c5, rfl, hf1, hk1, hf2, hk2, hb0⟩
        refine ⟨_, rfl, ?_⟩
        have hb : Below w2.heap.size w2 w4 := bl_trans (bl_drew (bl_refl w2)) hb0
        refine hK.out _ _ ⟨(q0 _ hb), (q1 _ hb), (y0' _ hb), (y1' _ hb), (y2' _ hb)⟩ (fun hHeld => ?_)
        clear hK K
        refine norm_ (a' := ?_) ?_ ?_
        rotate_left
        · show Act.put _ (some 42) _ = _
          simp only [Act.put, List.setIfInBounds_toArray, List.set_cons_zero, List.set_cons_succ, i64_w, i32_w]
          rfl
        refine pure_ (i := 6) (N := some 36) (v := ?_) (a' := ?_) #[true, true, true, true, true, true, true, false, false, false, false, false] rfl rfl (by kernel_rfl) (fun _ _ _ h => h) (Or.inl ⟨by rfl, ?_⟩) ?_ ?_
        rotate_left
        · intro w'
          go_simp
          with_reducible rfl
        rotate_left
        · simp only [Act.put, List.setIfInBounds_toArray, List.set_cons_zero, List.set_cons_succ, i64_w, i32_w]
          rfl
        refine pure_ (i := 7) (N := some 43) (v := ?_) (a' := ?_) #[true, true, true, true, true, true, true, true, false, false, false, false] rfl rfl (by kernel_rfl) (fun _ _ _ h => h) (Or.inl ⟨by rfl, ?_⟩) ?_ ?_
        rotate_left
        · intro w'
          go_simp
          with_reducible rfl
        rotate_left
        · simp only [Act.put, List.setIfInBounds_toArray, List.set_cons_zero, List.set_cons_succ, i64_w, i32_w]
          rfl
        refine pure_ (i := 8) (N := some 44) (v := ?_) (a' := ?_) #[true, true, true, true, true, true, true, true, true, false, false, false] rfl rfl (by kernel_rfl) (fun _ _ _ h => h) (Or.inl ⟨by rfl, ?_⟩) ?_ ?_
        rotate_left
        · intro w'
          go_simp
          with_reducible rfl
        rotate_left
        · simp only [Act.put, List.setIfInBounds_toArray, List.set_cons_zero, List.set_cons_succ, i64_w, i32_w]
          rfl
        refine one_ (i := 9) (N := some 8) #[true, true, true, true, true, true, true, true, true, true, false, false] rfl rfl (by kernel_rfl) (by decide) (fun K hK => ?_)
        refine value_ (w1 := ?_) (v := ?_) (by rfl) rfl ?_ ?_
        rotate_left 2
        · go_simp
          constructor
          · rfl
          · rfl
        refine hK.out _ _ ⟨(q0 _ (bl_alloc _ hb)), (q1 _ (bl_alloc _ hb)), (y0' _ (bl_alloc _ hb)), (y1' _ (bl_alloc _ hb)), (y2' _ (bl_alloc _ hb))⟩ (fun hHeld => ?_)
        clear hK K
        refine norm_ (a' := ?_) ?_ ?_
        rotate_left
        · show Act.put _ (some 8) _ = _
          simp only [Act.put, List.setIfInBounds_toArray, List.set_cons_zero, List.set_cons_succ, i64_w, i32_w]
          rfl
        exact norm_ (by simp only [putAll, Act.put, List.setIfInBounds_toArray, List.set_cons_zero, List.set_cons_succ]) (hCont (w4.heap.size, A4, c4, A5, c5) _ ⟨⟨(q0 _ (bl_alloc _ hb)), (q1 _ (bl_alloc _ hb)), (y0' _ (bl_alloc _ hb)), (y1' _ (bl_alloc _ hb)), (y2' _ (bl_alloc _ hb))⟩, bl_alloc _ hb, blk_new w4 (.cells #[.slice none 0 0, .slice none 0 0] 86), hb.size, ((Ft.cut hf1).below (bl_alloc (.cells #[.slice none 0 0, .slice none 0 0] 86) (bl_refl w4))).mono (fun k hk _ => ⟨by rcases hk.1 with h | h; exact h.1.1; have := HG2.out; (try change w2.heap.size ≤ k at h); omega, Nat.ne_of_lt hk.2⟩), hk1, ((Ft.cut hf2).below (bl_alloc (.cells #[.slice none 0 0, .slice none 0 0] 86) (bl_refl w4))).mono (fun k hk _ => ⟨by rcases hk.1 with h | h; exact h.1.1; have := HG2.out; (try change w2.heap.size ≤ k at h); omega, Nat.ne_of_lt hk.2⟩), hk2⟩)
      · skip
        refine value_ (w1 := ?_) (v := ?_) (by rfl) rfl ?_ ?_
        rotate_left 2
        · go_simp
          constructor
          · rfl
          · rfl
        refine hK.out _ _ ⟨(q0 _ (bl_drew (bl_alloc _ (bl_refl w2)))), (q1 _ (bl_drew (bl_alloc _ (bl_refl w2)))), (y0' _ (bl_drew (bl_alloc _ (bl_refl w2)))), (y1' _ (bl_drew (bl_alloc _ (bl_refl w2)))), (y2' _ (bl_drew (bl_alloc _ (bl_refl w2))))⟩ (fun hHeld => ?_)
        clear hK K
        refine norm_ (a' := ?_) ?_ ?_
        rotate_left
        · show Act.put _ (some 8) _ = _
          simp only [Act.put, List.setIfInBounds_toArray, List.set_cons_zero, List.set_cons_succ, i64_w, i32_w]
          rfl
        refine one_ (i := 5) (N := some 42) #[true, true, true, true, true, true, false, false, false, true, false, false] rfl rfl (by kernel_rfl) (by decide) (fun K hK => ?_)
        refine goes_ Try.func57 (by kernel_rfl) rfl #[.agg #[.slice A1 s.data.length c1, .slice A2 s.toks.length c2], .agg #[.int .i64 x.b.kind, .string x.b.tok, .slice x.A x.b.ws.length x.c]] (by rfl) rfl rfl (by simp only [List.map_toArray, List.map_cons, List.map_nil]; rfl) ?_
        with_reducible refine (do57 (fun k => k ≠ w1.heap.size ∧ k ≠ w2.heap.size) A1 A2 x.A c1 c2 x.c s t err x.b HDO.out _ (FD.out.below (bl_drew (bl_alloc _ (bl_refl w2)))) HL1.out (FT.out.below (bl_drew (bl_alloc _ (bl_refl w2)))) HL2.out (Kd.C_below HXW.out (bl_trans B2 (bl_drew (bl_alloc _ (bl_refl w2))))) (by have := HN.out; omega) (by have := HN.out; omega)).mono ?_
        rintro e w4 ⟨A4, c4, A5, c5, rfl, hf1, hk1, hf2, hk2, hb0⟩
        refine ⟨_, rfl, ?_⟩
        have hb : Below w2.heap.size w2 w4 := bl_trans (bl_drew (bl_alloc _ (bl_refl w2))) hb0
        refine hK.out _ _ ⟨(q0 _ hb), (q1 _ hb), (y0' _ hb), (y1' _ hb), (y2' _ hb)⟩ (fun hHeld => ?_)
        clear hK K
        refine norm_ (a' := ?_) ?_ ?_
        rotate_left
        · show Act.put _ (some 42) _ = _
          simp only [Act.put, List.setIfInBounds_toArray, List.set_cons_zero, List.set_cons_succ, i64_w, i32_w]
          rfl
        refine pure_ (i := 6) (N := some 36) (v := ?_) (a' := ?_) #[true, true, true, true, true, true, true, false, false, true, false, false] rfl rfl (by kernel_rfl) (fun _ _ _ h => h) (Or.inl ⟨by rfl, ?_⟩) ?_ ?_
        rotate_left
        · intro w'
          go_simp
          with_reducible rfl
        rotate_left
        · simp only [Act.put, List.setIfInBounds_toArray, List.set_cons_zero, List.set_cons_succ, i64_w, i32_w]
          rfl
        refine pure_ (i := 7) (N := some 43) (v := ?_) (a' := ?_) #[true, true, true, true, true, true, true, true, false, true, false, false] rfl rfl (by kernel_rfl) (fun _ _ _ h => h) (Or.inl ⟨by rfl, ?_⟩) ?_ ?_
        rotate_left
        · intro w'
          go_simp
          with_reducible rfl
        rotate_left
        · simp only [Act.put, List.setIfInBounds_toArray, List.set_cons_zero, List.set_cons_succ, i64_w, i32_w]
          rfl
        refine pure_ (i := 8) (N := some 44) (v := ?_) (a' := ?_) #[true, true, true, true, true, true, true, true, true, true, false, false] rfl rfl (by kernel_rfl) (fun _ _ _ h => h) (Or.inl ⟨by rfl, ?_⟩) ?_ ?_
        rotate_left
        · intro w'
          go_simp
          with_reducible rfl
        rotate_left
        · simp only [Act.put, List.setIfInBounds_toArray, List.set_cons_zero, List.set_cons_succ, i64_w, i32_w]
          rfl
        exact norm_ (by simp only [putAll, Act.put, List.setIfInBounds_toArray, List.set_cons_zero, List.set_cons_succ]) (hCont (w2.heap.size, A4, c4, A5, c5) _ ⟨⟨(q0 _ hb), (q1 _ hb), (y0' _ hb), (y1' _ hb), (y2' _ hb)⟩, hb, blk_below (w := (w2.alloc (.cells #[.slice none 0 0, .slice none 0 0] 86)).drew) (blk_new w2 (.cells #[.slice none 0 0, .slice none 0 0] 86)) hb0, Nat.le_refl _, Ft.mono hf1 (fun k hk _ => by rcases hk with h | h; exact h.1; have := HG2.out; have h2 : w2.heap.size + 1 ≤ k := (by simpa using h); exact ⟨by omega, by omega⟩), hk1, Ft.mono hf2 (fun k hk _ => by rcases hk with h | h; exact h.1; have := HG2.out; have h2 : w2.heap.size + 1 ≤ k := (by simpa using h); exact ⟨by omega, by omega⟩), hk2⟩)
    rintro ⟨b9, A4, c4, A5, c5⟩ w5 ⟨hHeld, hb5, hK9, hb9, hf1, hk1, hf2, hk2⟩
    dsimp only at hK9 hb9 hf1 hk1 hf2 hk2
    have r9 := blk_cells hK9
    have z9 := blk_frz hK9
    have B9 := bl_refl w5
    refine norm_ (a' := ?_) ?_ ?_
    rotate_left
    · simp only [putAll, Act.put, List.setIfInBounds_toArray, List.set_cons_zero, List.set_cons_succ]
      rfl
    refine last_ (i := 10) (N := none) #[true, true, true, true, true, true, true, true, true, true, true, false] rfl rfl (by kernel_rfl) (by decide) (fun K hK => ?_)
    refine skip_ (w1 := ?_) (by rfl) rfl ?_ ?_
    rotate_left
    · go_simp
      rfl
    refine hK.out _ _ ?_
    clear hK K
    refine pure_ (i := 11) (N := some 9) (v := ?_) (a' := ?_) #[true, true, true, true, true, true, true, true, true, true, true, true] rfl rfl (by kernel_rfl) (fun _ _ _ h => h) (Or.inl ⟨by rfl, ?_⟩) ?_ ?_
    rotate_left
    · intro w'
      go_simp
      with_reducible rfl
    rotate_left
    · simp only [Act.put, List.setIfInBounds_toArray, List.set_cons_zero, List.set_cons_succ, i64_w, i32_w]
      rfl
    refine done_ (by kernel_rfl) ?_
    have hKV := blk_put (blk_put hK9 0 (.slice A4 t.data.length c4) rfl) 1 (.slice A5 t.toks.length c5) rfl
    have hbV := bl_set (g := b9) (j := 1) (u := .slice A5 t.toks.length c5) (bl_set (g := b9) (j := 0) (u := .slice A4 t.data.length c4) hb5 hb9) hb9
    have hF1 := Ft.set (g := b9) (j := 1) (u := .slice A5 t.toks.length c5) (Ft.set (g := b9) (j := 0) (u := .slice A4 t.data.length c4) hf1 (fun h => h.2 rfl)) (fun h => h.2 rfl)
    have hF2 := Ft.set (g := b9) (j := 1) (u := .slice A5 t.toks.length c5) (Ft.set (g := b9) (j := 0) (u := .slice A4 t.data.length c4) hf2 (fun h => h.2 rfl)) (fun h => h.2 rfl)
    generalize ((w5.setCell ⟨b9, 0, none⟩ (.slice A4 t.data.length c4)).setCell ⟨b9, 1, none⟩ (.slice A5 t.toks.length c5)) = V at hKV hbV hF1 hF2 ⊢
    clear hK9 r9 z9 B9 hb5 hf1 hf2
    have HBV := Lib.hid (Below.trans B2 (hbV.mono B2.size))
    have HG3 := Lib.hid (show w1.heap.size < V.heap.size from Nat.lt_of_lt_of_le HG.out HBV.out.size)
    have HK1 := Lib.hid hk1
    have HK2 := Lib.hid hk2
    have HF1 := Lib.hid hF1
    have HF2 := Lib.hid hF2
    have HKV := Lib.hid hKV
    have HB9 := Lib.hid (show w1.heap.size < b9 from Nat.lt_of_lt_of_le HG2.out hb9)
    have v0 : V.cell? ⟨b9, 0, none⟩ = some (.slice A4 t.data.length c4) := blk_cell hKV 0
    have v1 : V.cell? ⟨b9, 1, none⟩ = some (.slice A5 t.toks.length c5) := blk_cell hKV 1
    have q0 := cell_rule v0
    have q1 := cell_rule v1
    have g0 := cell_rule ((blk_cell (blk_below HK.out HBV.out) 0 : V.cell? ⟨w1.heap.size, 0, none⟩ = some (.slice A1 s.data.length c1)))
    have g1 := cell_rule ((blk_cell (blk_below HK.out HBV.out) 1 : V.cell? ⟨w1.heap.size, 1, none⟩ = some (.slice A2 s.toks.length c2)))
    have u0 := cell_rule (y0' V hbV)
    have u1 := cell_rule (y1' V hbV)
    have u2 := cell_rule (y2' V hbV)
    have HN2 := Lib.hid (show t.data.length ≤ 24 * (i + 1) ∧ t.toks.length ≤ i + 1 ∧ i + 1 ≤ 200 by have h1 := HLAW.out.1; have h2 := HLAW.out.2.1; have := HN.out; omega)
    have Bv := bl_refl V
    clear v0 v1 hk1 hk2 hF1 hF2 hKV hb9 q0 q1 y0' y1' y2' B2 Bw2 hbV
    have q0 := cell_rule (show V.cell? ⟨b9, 0, none⟩ = some (.slice A4 t.data.length c4) from blk_cell HKV.out 0)
    have q1 := cell_rule (show V.cell? ⟨b9, 1, none⟩ = some (.slice A5 t.toks.length c5) from blk_cell HKV.out 1)
    go_wp2
    refine start_ (n := 12) (S := fun w' => w'.cell? ⟨b9, 0, none⟩ = some (.slice A4 t.data.length c4) ∧ w'.cell? ⟨b9, 1, none⟩ = some (.slice A5 t.toks.length c5) ∧ w'.cell? ⟨(ad.add (i * 3)).block, (ad.add (i * 3)).off + 1, none⟩ = some (.string x.b.tok)) (ds := []) #[false, false, false, false, false, false, false, false, false, false, false, false] (by kernel_rfl) rfl rfl ⟨(q0 _ (bl_drew (bl_refl V))), (q1 _ (bl_drew (bl_refl V))), (u1 _ (bl_drew (bl_refl V)))⟩ (fun hHeld => ?_)
    refine pure_ (i := 1) (N := some 47) (v := ?_) (a' := ?_) #[false, true, false, false, false, false, false, false, false, false, false, false] rfl rfl (by kernel_rfl) (fun _ _ _ h => h) (Or.inl ⟨by rfl, ?_⟩) ?_ ?_
    rotate_left
    · intro w'
      go_simp
      with_reducible rfl
    rotate_left
    · simp only [Act.put, List.setIfInBounds_toArray, List.set_cons_zero, List.set_cons_succ, i64_w, i32_w]
      rfl
    refine pure_ (i := 2) (N := some 48) (v := ?_) (a' := ?_) #[false, true, true, false, false, false, false, false, false, false, false, false] rfl rfl (by kernel_rfl) (fun _ _ _ h => h) (Or.inl ⟨by rfl, ?_⟩) ?_ ?_
    rotate_left
    · intro w'
      go_simp
      with_reducible rfl
    rotate_left
    · simp only [Act.put, List.setIfInBounds_toArray, List.set_cons_zero, List.set_cons_succ, i64_w, i32_w]
      rfl
    refine pure_ (i := 3) (N := some 49) (v := ?_) (a' := ?_) #[false, true, true, true, false, false, false, false, false, false, false, false] rfl rfl (by kernel_rfl) (fun _ _ _ h => h) (Or.inl ⟨by rfl, ?_⟩) ?_ ?_
    rotate_left
    · intro w'
      go_simp
      with_reducible rfl
    rotate_left
    · simp only [Act.put, List.setIfInBounds_toArray, List.set_cons_zero, List.set_cons_succ, i64_w, i32_w]
      rfl
    refine pure_ (i := 4) (N := some 50) (v := ?_) (a' := ?_) #[false, true, true, true, true, false, false, false, false, false, false, false] rfl rfl (by kernel_rfl) (fun _ _ _ h => h) (Or.inl ⟨by rfl, ?_⟩) ?_ ?_
    rotate_left
    · intro w'
      go_simp
      with_reducible rfl
    rotate_left
    · simp only [Act.put, List.setIfInBounds_toArray, List.set_cons_zero, List.set_cons_succ, i64_w, i32_w]
      rfl
    refine take_ (i := 0) (N := some 46) (v := ?_) (a' := ?_) #[true, true, true, true, true, false, false, false, false, false, false, false] rfl rfl (by kernel_rfl) (fun _ _ _ h => h) (Or.inl ⟨by rfl, ?_⟩) hHeld ?_ ?_
    rotate_left
    · rintro w' ⟨s0, s1, s2⟩
      go_simp
      with_reducible rfl
    rotate_left
    · simp only [Act.put, List.setIfInBounds_toArray, List.set_cons_zero, List.set_cons_succ, i64_w, i32_w]
      rfl
    refine take_ (i := 5) (N := some 51) (v := ?_) (a' := ?_) #[true, true, true, true, true, true, false, false, false, false, false, false] rfl rfl (by kernel_rfl) (fun _ _ _ h => h) (Or.inl ⟨by rfl, ?_⟩) hHeld ?_ ?_
    rotate_left
    · rintro w' ⟨s0, s1, s2⟩
      go_simp
      with_reducible rfl
    rotate_left
    · simp only [Act.put, List.setIfInBounds_toArray, List.set_cons_zero, List.set_cons_succ, i64_w, i32_w]
      rfl
    refine one_ (i := 6) (N := some 52) #[true, true, true, true, true, true, true, false, false, false, false, false] rfl rfl (by kernel_rfl) (by decide) (fun K hK => ?_)
    refine goes_ Try.func56 (by kernel_rfl) rfl #[.agg #[.slice A4 t.data.length c4, .slice A5 t.toks.length c5], .string x.b.tok] (by rfl) rfl rfl (by simp only [List.map_toArray, List.map_cons, List.map_nil]; rfl) ?_
    with_reducible refine (decided56 A5 c5 (.slice A4 t.data.length c4) rfl t.toks x.b.tok _ (HF2.out.below (bl_drew (bl_refl V))).self).mono ?_
    rintro e w6 ⟨rfl, hb⟩
    refine ⟨_, rfl, ?_⟩
    rw [HFT.out]
    have B6 : Below V.heap.size V w6 := bl_trans (bl_drew (bl_refl V)) hb
    clear hb
    refine hK.out _ _ ⟨(q0 _ B6), (q1 _ B6), (u1 _ B6)⟩ (fun hHeld => ?_)
    clear hK K
    refine norm_ (a' := ?_) ?_ ?_
    rotate_left
    · show Act.put _ (some 52) _ = _
      simp only [Act.put, List.setIfInBounds_toArray, List.set_cons_zero, List.set_cons_succ, i64_w, i32_w]
      rfl
    refine pure_ (i := 7) (N := some 45) (v := ?_) (a' := ?_) #[true, true, true, true, true, true, true, true, false, false, false, false] rfl rfl (by kernel_rfl) (fun _ _ _ h => h) (Or.inl ⟨by rfl, ?_⟩) ?_ ?_
    rotate_left
    · intro w'
      go_simp
      with_reducible rfl
    rotate_left
    · simp only [Act.put, List.setIfInBounds_toArray, List.set_cons_zero, List.set_cons_succ, i64_w, i32_w]
      rfl
    refine pure_ (i := 8) (N := some 53) (v := ?_) (a' := ?_) #[true, true, true, true, true, true, true, true, true, false, false, false] rfl rfl (by kernel_rfl) (fun _ _ _ h => h) (Or.inl ⟨by rfl, ?_⟩) ?_ ?_
    rotate_left
    · intro w'
      go_simp
      with_reducible rfl
    rotate_left
    · simp only [Act.put, List.setIfInBounds_toArray, List.set_cons_zero, List.set_cons_succ, i64_w, i32_w]
      rfl
    refine pure_ (i := 9) (N := some 54) (v := ?_) (a' := ?_) #[true, true, true, true, true, true, true, true, true, true, false, false] rfl rfl (by kernel_rfl) (fun _ _ _ h => h) (Or.inl ⟨by rfl, ?_⟩) ?_ ?_
    rotate_left
    · intro w'
      go_simp
      with_reducible rfl
    rotate_left
    · simp only [Act.put, List.setIfInBounds_toArray, List.set_cons_zero, List.set_cons_succ, i64_w, i32_w]
      rfl
    refine pure_ (i := 10) (N := some 10) (v := ?_) (a' := ?_) #[true, true, true, true, true, true, true, true, true, true, true, false] rfl rfl (by kernel_rfl) (fun _ _ _ h => h) (Or.inl ⟨by rfl, ?_⟩) ?_ ?_
    rotate_left
    · intro w'
      go_simp
      with_reducible rfl
    rotate_left
    · simp only [Act.put, List.setIfInBounds_toArray, List.set_cons_zero, List.set_cons_succ, i64_w, i32_w]
      rfl
    refine pure_ (i := 11) (N := some 11) (v := ?_) (a' := ?_) #[true, true, true, true, true, true, true, true, true, true, true, true] rfl rfl (by kernel_rfl) (fun _ _ _ h => h) (Or.inl ⟨by rfl, ?_⟩) ?_ ?_
    rotate_left
    · intro w'
      go_simp
      with_reducible rfl
    rotate_left
    · simp only [Act.put, List.setIfInBounds_toArray, List.set_cons_zero, List.set_cons_succ, i64_w, i32_w]
      rfl
    refine done_ (by kernel_rfl) ?_
    clear Bv
    rcases HLAW.out.2.2 with ⟨he, hts⟩ | ⟨he, hs, hft, hk, hd2⟩
    · have HST := Lib.hid (show s.data = t.data ∧ s.toks = t.toks by rw [hts]; exact ⟨rfl, rfl⟩)
      have HD2 := Lib.hid (show doSt t x.b = (t, err) by have := HDO.out; rw [hts] at this ⊢; exact this)
      have hee : (now, has) = (how, was) := by rw [← HFT.out, ← HFS.out, hts]
      obtain ⟨rfl, rfl⟩ := Prod.mk.inj hee
      have hz : (err == 0) = false := beq_eq_false_iff_ne.2 he
      clear he hts hee
      cases has with
      | true =>
        go_wp2_with fail
        refine (same58 A1 A2 A4 A5 c1 c2 c4 c5 s t w6 (HD.out.below (bl_trans HBV.out B6)).self (HT.out.below (bl_trans HBV.out B6)).self (HF1.out.below B6).self (HF2.out.below B6).self true ⟨fun _ => HST.out, fun _ => rfl⟩).mono ?_
        rintro e w7 ⟨rfl, hb⟩
        have B7 : Below V.heap.size V w7 := bl_trans B6 hb
        clear hb B6
        go_wp2_with fail
        have p0 := cell_rule (q0 w7 B7)
        have p1 := cell_rule (q1 w7 B7)
        have e0 := cell_rule (u0 w7 B7)
        have e1 := cell_rule (u1 w7 B7)
        have e2 := cell_rule (u2 w7 B7)
        have FD2 := Lib.hid ((HF1.out.below B7).mono (fun k hk hl => (⟨hk.1, Nat.ne_of_lt hl⟩ : k ≠ w1.heap.size ∧ k ≠ w7.heap.size)))
        have FT2 := Lib.hid ((HF2.out.below B7).mono (fun k hk hl => (⟨hk.1, Nat.ne_of_lt hl⟩ : k ≠ w1.heap.size ∧ k ≠ w7.heap.size)))
        have HG4 := Lib.hid (show w1.heap.size < w7.heap.size from Nat.lt_of_lt_of_le HG3.out B7.size)
        have BC7 := Lib.hid B7
        have Bw7 := bl_refl w7
        clear B7 q0 q1 u0 u1 u2 g0 g1
        refine start_ (n := 12) (S := fun w' => w'.cell? ⟨b9, 0, none⟩ = some (.slice A4 t.data.length c4) ∧ w'.cell? ⟨b9, 1, none⟩ = some (.slice A5 t.toks.length c5) ∧ w'.cell? (ad.add (i * 3)) = some (.int .i64 x.b.kind) ∧ w'.cell? ⟨(ad.add (i * 3)).block, (ad.add (i * 3)).off + 1, none⟩ = some (.string x.b.tok) ∧ w'.cell? ⟨(ad.add (i * 3)).block, (ad.add (i * 3)).off + 2, none⟩ = some (.slice x.A x.b.ws.length x.c)) (ds := [10]) #[false, false, false, false, false, false, false, false, false, false, false, false] (by kernel_rfl) rfl rfl ⟨(p0 _ (bl_drew (bl_refl w7))), (p1 _ (bl_drew (bl_refl w7))), (e0 _ (bl_drew (bl_refl w7))), (e1 _ (bl_drew (bl_refl w7))), (e2 _ (bl_drew (bl_refl w7)))⟩ (fun hHeld => ?_)
        refine pure_ (i := 1) (N := some 94) (v := ?_) (a' := ?_) #[false, true, false, false, false, false, false, false, false, false, false, false] rfl rfl (by kernel_rfl) (fun _ _ _ h => h) (Or.inl ⟨by rfl, ?_⟩) ?_ ?_
        rotate_left
        · intro w'
          go_simp
          with_reducible rfl
        rotate_left
        · simp only [Act.put, List.setIfInBounds_toArray, List.set_cons_zero, List.set_cons_succ, i64_w, i32_w]
          rfl
        refine pure_ (i := 2) (N := some 95) (v := ?_) (a' := ?_) #[false, true, true, false, false, false, false, false, false, false, false, false] rfl rfl (by kernel_rfl) (fun _ _ _ h => h) (Or.inl ⟨by rfl, ?_⟩) ?_ ?_
        rotate_left
        · intro w'
          go_simp
          with_reducible rfl
        rotate_left
        · simp only [Act.put, List.setIfInBounds_toArray, List.set_cons_zero, List.set_cons_succ, i64_w, i32_w]
          rfl
        refine pure_ (i := 3) (N := some 96) (v := ?_) (a' := ?_) #[false, true, true, true, false, false, false, false, false, false, false, false] rfl rfl (by kernel_rfl) (fun _ _ _ h => h) (Or.inl ⟨by rfl, ?_⟩) ?_ ?_
        rotate_left
        · intro w'
          go_simp
          with_reducible rfl
        rotate_left
        · simp only [Act.put, List.setIfInBounds_toArray, List.set_cons_zero, List.set_cons_succ, i64_w, i32_w]
          rfl
        refine take_ (i := 0) (N := some 93) (v := ?_) (a' := ?_) #[true, true, true, true, false, false, false, false, false, false, false, false] rfl rfl (by kernel_rfl) (fun _ _ _ h => h) (Or.inl ⟨by rfl, ?_⟩) hHeld ?_ ?_
        rotate_left
        · rintro w' ⟨s0, s1, s2, s3, s4⟩
          go_simp
          with_reducible rfl
        rotate_left
        · simp only [Act.put, List.setIfInBounds_toArray, List.set_cons_zero, List.set_cons_succ, i64_w, i32_w]
          rfl
        refine take_ (i := 4) (N := some 97) (v := ?_) (a' := ?_) #[true, true, true, true, true, false, false, false, false, false, false, false] rfl rfl (by kernel_rfl) (fun _ _ _ h => h) (Or.inl ⟨by rfl, ?_⟩) hHeld ?_ ?_
        rotate_left
        · rintro w' ⟨s0, s1, s2, s3, s4⟩
          go_simp
          with_reducible rfl
        rotate_left
        · simp only [Act.put, List.setIfInBounds_toArray, List.set_cons_zero, List.set_cons_succ, i64_w, i32_w]
          rfl
        refine join_ (σ := Nat × Option Addr × Nat × Option Addr × Nat) 2 #[true, true, true, true, true, true, true, true, true, true, false, false] (fun p_ => [(98, .tuple #[.agg #[.slice p_.2.1 t.data.length p_.2.2.1, .slice p_.2.2.2.1 t.toks.length p_.2.2.2.2], .int .i64 err]), (12, .pointer (some ⟨p_.1, 0, none⟩)), (92, .tuple #[.agg #[.slice p_.2.1 t.data.length p_.2.2.1, .slice p_.2.2.2.1 t.toks.length p_.2.2.2.2], .int .i64 err]), (99, .agg #[.slice p_.2.1 t.data.length p_.2.2.1, .slice p_.2.2.2.1 t.toks.length p_.2.2.2.2]), (100, .int .i64 err)]) (fun p_ w' => (w'.cell? ⟨b9, 0, none⟩ = some (.slice A4 t.data.length c4) ∧ w'.cell? ⟨b9, 1, none⟩ = some (.slice A5 t.toks.length c5) ∧ w'.cell? (ad.add (i * 3)) = some (.int .i64 x.b.kind) ∧ w'.cell? ⟨(ad.add (i * 3)).block, (ad.add (i * 3)).off + 1, none⟩ = some (.string x.b.tok) ∧ w'.cell? ⟨(ad.add (i * 3)).block, (ad.add (i * 3)).off + 2, none⟩ = some (.slice x.A x.b.ws.length x.c)) ∧ Below w7.heap.size w7 w' ∧ w'.heap[p_.1]? = some (.cells #[.slice none 0 0, .slice none 0 0] 86 (0, 0)) ∧ w7.heap.size ≤ p_.1 ∧ Ft (fun k => k ≠ w1.heap.size ∧ k ≠ p_.1) w' (fun W => Kd.C kPr W p_.2.1 t.data.length t.data) ∧ t.data.length ≤ p_.2.2.1 ∧ Ft (fun k => k ≠ w1.heap.size ∧ k ≠ p_.1) w' (fun W => Kd.C kPr W p_.2.2.2.1 t.toks.length t.toks) ∧ t.toks.length ≤ p_.2.2.2.2) ?_ ?_
        rotate_left
        · intro hCont
          refine two_ (i := 5) (j := 9) (Ni := some 98) (Nj := some 12) #[true, true, true, true, true, true, false, false, false, false, false, false] #[true, true, true, true, true, false, false, false, false, true, false, false] rfl rfl rfl rfl (by kernel_rfl) (by decide) (by decide) (fun K hK => ?_) (fun K hK => ?_)
          · skip
            refine goes_ Try.func57 (by kernel_rfl) rfl #[.agg #[.slice A4 t.data.length c4, .slice A5 t.toks.length c5], .agg #[.int .i64 x.b.kind, .string x.b.tok, .slice x.A x.b.ws.length x.c]] (by rfl) rfl rfl (by simp only [List.map_toArray, List.map_cons, List.map_nil]; rfl) ?_
            with_reducible refine (do57 (fun k => k ≠ w1.heap.size ∧ k ≠ w7.heap.size) A4 A5 x.A c4 c5 x.c t t err x.b HD2.out _ (FD2.out.drew) HK1.out (FT2.out.drew) HK2.out (Kd.C_below HXW.out (bl_trans (bl_trans HBV.out BC7.out) (bl_drew (bl_refl w7)))) (by have := HN2.out; omega) (by have := HN2.out; omega)).mono ?_
            rintro e w8 ⟨A6, c6, A7, c7, rfl, hf1, hk1, hf2, hk2, hb0⟩
            refine ⟨_, rfl, ?_⟩
            have hb : Below w7.heap.size w7 w8 := bl_trans (bl_drew (bl_refl w7)) hb0
            refine hK.out _ _ ⟨(p0 _ hb), (p1 _ hb), (e0 _ hb), (e1 _ hb), (e2 _ hb)⟩ (fun hHeld => ?_)
            clear hK K
            refine norm_ (a' := ?_) ?_ ?_
            rotate_left
            · show Act.put _ (some 98) _ = _
              simp only [Act.put, List.setIfInBounds_toArray, List.set_cons_zero, List.set_cons_succ, i64_w, i32_w]
              rfl
            refine pure_ (i := 6) (N := some 92) (v := ?_) (a' := ?_) #[true, true, true, true, true, true, true, false, false, false, false, false] rfl rfl (by kernel_rfl) (fun _ _ _ h => h) (Or.inl ⟨by rfl, ?_⟩) ?_ ?_
            rotate_left
            · intro w'
              go_simp
              with_reducible rfl
            rotate_left
            · simp only [Act.put, List.setIfInBounds_toArray, List.set_cons_zero, List.set_cons_succ, i64_w, i32_w]
              rfl
            refine pure_ (i := 7) (N := some 99) (v := ?_) (a' := ?_) #[true, true, true, true, true, true, true, true, false, false, false, false] rfl rfl (by kernel_rfl) (fun _ _ _ h => h) (Or.inl ⟨by rfl, ?_⟩) ?_ ?_
            rotate_left
            · intro w'
              go_simp
              with_reducible rfl
            rotate_left
            · simp only [Act.put, List.setIfInBounds_toArray, List.set_cons_zero, List.set_cons_succ, i64_w, i32_w]
              rfl
            refine pure_ (i := 8) (N := some 100) (v := ?_) (a' := ?_) #[true, true, true, true, true, true, true, true, true, false, false, false] rfl rfl (by kernel_rfl) (fun _ _ _ h => h) (Or.inl ⟨by rfl, ?_⟩) ?_ ?_
            rotate_left
            · intro w'
              go_simp
              with_reducible rfl
            rotate_left
            · simp only [Act.put, List.setIfInBounds_toArray, List.set_cons_zero, List.set_cons_succ, i64_w, i32_w]
              rfl
            refine one_ (i := 9) (N := some 12) #[true, true, true, true, true, true, true, true, true, true, false, false] rfl rfl (by kernel_rfl) (by decide) (fun K hK => ?_)
            refine value_ (w1 := ?_) (v := ?_) (by rfl) rfl ?_ ?_
            rotate_left 2
            · go_simp
              constructor
              · rfl
              · rfl
            refine hK.out _ _ ⟨(p0 _ (bl_alloc _ hb)), (p1 _ (bl_alloc _ hb)), (e0 _ (bl_alloc _ hb)), (e1 _ (bl_alloc _ hb)), (e2 _ (bl_alloc _ hb))⟩ (fun hHeld => ?_)
            clear hK K
            refine norm_ (a' := ?_) ?_ ?_
            rotate_left
            · show Act.put _ (some 12) _ = _
              simp only [Act.put, List.setIfInBounds_toArray, List.set_cons_zero, List.set_cons_succ, i64_w, i32_w]
              rfl
            exact norm_ (by simp only [putAll, Act.put, List.setIfInBounds_toArray, List.set_cons_zero, List.set_cons_succ]) (hCont (w8.heap.size, A6, c6, A7, c7) _ ⟨⟨(p0 _ (bl_alloc _ hb)), (p1 _ (bl_alloc _ hb)), (e0 _ (bl_alloc _ hb)), (e1 _ (bl_alloc _ hb)), (e2 _ (bl_alloc _ hb))⟩, bl_alloc _ hb, blk_new w8 (.cells #[.slice none 0 0, .slice none 0 0] 86), hb.size, ((Ft.cut hf1).below (bl_alloc (.cells #[.slice none 0 0, .slice none 0 0] 86) (bl_refl w8))).mono (fun k hk _ => ⟨by rcases hk.1 with h | h; exact h.1.1; have := HG4.out; (try change w7.heap.size ≤ k at h); omega, Nat.ne_of_lt hk.2⟩), hk1, ((Ft.cut hf2).below (bl_alloc (.cells #[.slice none 0 0, .slice none 0 0] 86) (bl_refl w8))).mono (fun k hk _ => ⟨by rcases hk.1 with h | h; exact h.1.1; have := HG4.out; (try change w7.heap.size ≤ k at h); omega, Nat.ne_of_lt hk.2⟩), hk2⟩)
          · skip
            refine value_ (w1 := ?_) (v := ?_) (by rfl) rfl ?_ ?_
            rotate_left 2
            · go_simp
              constructor
              · rfl
              · rfl
            refine hK.out _ _ ⟨(p0 _ (bl_drew (bl_alloc _ (bl_refl w7)))), (p1 _ (bl_drew (bl_alloc _ (bl_refl w7)))), (e0 _ (bl_drew (bl_alloc _ (bl_refl w7)))), (e1 _ (bl_drew (bl_alloc _ (bl_refl w7)))), (e2 _ (bl_drew (bl_alloc _ (bl_refl w7))))⟩ (fun hHeld => ?_)
            clear hK K
            refine norm_ (a' := ?_) ?_ ?_
            rotate_left
            · show Act.put _ (some 12) _ = _
              simp only [Act.put, List.setIfInBounds_toArray, List.set_cons_zero, List.set_cons_succ, i64_w, i32_w]
              rfl
            refine one_ (i := 5) (N := some 98) #[true, true, true, true, true, true, false, false, false, true, false, false] rfl rfl (by kernel_rfl) (by decide) (fun K hK => ?_)
            refine goes_ Try.func57 (by kernel_rfl) rfl #[.agg #[.slice A4 t.data.length c4, .slice A5 t.toks.length c5], .agg #[.int .i64 x.b.kind, .string x.b.tok, .slice x.A x.b.ws.length x.c]] (by rfl) rfl rfl (by simp only [List.map_toArray, List.map_cons, List.map_nil]; rfl) ?_
            with_reducible refine (do57 (fun k => k ≠ w1.heap.size ∧ k ≠ w7.heap.size) A4 A5 x.A c4 c5 x.c t t err x.b HD2.out _ (FD2.out.below (bl_drew (bl_alloc _ (bl_refl w7)))) HK1.out (FT2.out.below (bl_drew (bl_alloc _ (bl_refl w7)))) HK2.out (Kd.C_below HXW.out (bl_trans (bl_trans HBV.out BC7.out) (bl_drew (bl_alloc _ (bl_refl w7))))) (by have := HN2.out; omega) (by have := HN2.out; omega)).mono ?_
            rintro e w8 ⟨A6, c6, A7, c7, rfl, hf1, hk1, hf2, hk2, hb0⟩
            refine ⟨_, rfl, ?_⟩
            have hb : Below w7.heap.size w7 w8 := bl_trans (bl_drew (bl_alloc _ (bl_refl w7))) hb0
            refine hK.out _ _ ⟨(p0 _ hb), (p1 _ hb), (e0 _ hb), (e1 _ hb), (e2 _ hb)⟩ (fun hHeld => ?_)
            clear hK K
            refine norm_ (a' := ?_) ?_ ?_
            rotate_left
            · show Act.put _ (some 98) _ = _
              simp only [Act.put, List.setIfInBounds_toArray, List.set_cons_zero, List.set_cons_succ, i64_w, i32_w]
              rfl
            refine pure_ (i := 6) (N := some 92) (v := ?_) (a' := ?_) #[true, true, true, true, true, true, true, false, false, true, false, false] rfl rfl (by kernel_rfl) (fun _ _ _ h => h) (Or.inl ⟨by rfl, ?_⟩) ?_ ?_
            rotate_left
            · intro w'
              go_simp
              with_reducible rfl
            rotate_left
            · simp only [Act.put, List.setIfInBounds_toArray, List.set_cons_zero, List.set_cons_succ, i64_w, i32_w]
              rfl
            refine pure_ (i := 7) (N := some 99) (v := ?_) (a' := ?_) #[true, true, true, true, true, true, true, true, false, true, false, false] rfl rfl (by kernel_rfl) (fun _ _ _ h => h) (Or.inl ⟨by rfl, ?_⟩) ?_ ?_
            rotate_left
            · intro w'
              go_simp
              with_reducible rfl
            rotate_left
            · simp only [Act.put, List.setIfInBounds_toArray, List.set_cons_zero, List.set_cons_succ, i64_w, i32_w]
              rfl
            refine pure_ (i := 8) (N := some 100) (v := ?_) (a' := ?_) #[true, true, true, true, true, true, true, true, true, true, false, false] rfl rfl (by kernel_rfl) (fun _ _ _ h => h) (Or.inl ⟨by rfl, ?_⟩) ?_ ?_
            rotate_left
            · intro w'
              go_simp
              with_reducible rfl
            rotate_left
            · simp only [Act.put, List.setIfInBounds_toArray, List.set_cons_zero, List.set_cons_succ, i64_w, i32_w]
              rfl
            exact norm_ (by simp only [putAll, Act.put, List.setIfInBounds_toArray, List.set_cons_zero, List.set_cons_succ]) (hCont (w7.heap.size, A6, c6, A7, c7) _ ⟨⟨(p0 _ hb), (p1 _ hb), (e0 _ hb), (e1 _ hb), (e2 _ hb)⟩, hb, blk_below (w := (w7.alloc (.cells #[.slice none 0 0, .slice none 0 0] 86)).drew) (blk_new w7 (.cells #[.slice none 0 0, .slice none 0 0] 86)) hb0, Nat.le_refl _, Ft.mono hf1 (fun k hk _ => by rcases hk with h | h; exact h.1; have := HG4.out; have h2 : w7.heap.size + 1 ≤ k := (by simpa using h); exact ⟨by omega, by omega⟩), hk1, Ft.mono hf2 (fun k hk _ => by rcases hk with h | h; exact h.1; have := HG4.out; have h2 : w7.heap.size + 1 ≤ k := (by simpa using h); exact ⟨by omega, by omega⟩), hk2⟩)
        rintro ⟨b7, A6, c6, A7, c7⟩ w9 ⟨hHeld, hb5, hK9, hb9, hf1, hk1, hf2, hk2⟩
        dsimp only at hK9 hb9 hf1 hk1 hf2 hk2
        have r9 := blk_cells hK9
        have z9 := blk_frz hK9
        have B9 := bl_refl w9
        refine norm_ (a' := ?_) ?_ ?_
        rotate_left
        · simp only [putAll, Act.put, List.setIfInBounds_toArray, List.set_cons_zero, List.set_cons_succ]
          rfl
        refine last_ (i := 10) (N := none) #[true, true, true, true, true, true, true, true, true, true, true, false] rfl rfl (by kernel_rfl) (by decide) (fun K hK => ?_)
        refine skip_ (w1 := ?_) (by rfl) rfl ?_ ?_
        rotate_left
        · go_simp
          rfl
        refine hK.out _ _ ?_
        clear hK K
        refine pure_ (i := 11) (N := some 13) (v := ?_) (a' := ?_) #[true, true, true, true, true, true, true, true, true, true, true, true] rfl rfl (by kernel_rfl) (fun _ _ _ h => h) (Or.inl ⟨by rfl, ?_⟩) ?_ ?_
        rotate_left
        · intro w'
          go_simp
          with_reducible rfl
        rotate_left
        · simp only [Act.put, List.setIfInBounds_toArray, List.set_cons_zero, List.set_cons_succ, i64_w, i32_w]
          rfl
        refine done_ (by kernel_rfl) ?_
        have hKV2 := blk_put (blk_put hK9 0 (.slice A6 t.data.length c6) rfl) 1 (.slice A7 t.toks.length c7) rfl
        have hbV2 := bl_set (g := b7) (j := 1) (u := .slice A7 t.toks.length c7) (bl_set (g := b7) (j := 0) (u := .slice A6 t.data.length c6) hb5 hb9) hb9
        have hF3 := Ft.set (g := b7) (j := 1) (u := .slice A7 t.toks.length c7) (Ft.set (g := b7) (j := 0) (u := .slice A6 t.data.length c6) hf1 (fun h => h.2 rfl)) (fun h => h.2 rfl)
        have hF4 := Ft.set (g := b7) (j := 1) (u := .slice A7 t.toks.length c7) (Ft.set (g := b7) (j := 0) (u := .slice A6 t.data.length c6) hf2 (fun h => h.2 rfl)) (fun h => h.2 rfl)
        generalize ((w9.setCell ⟨b7, 0, none⟩ (.slice A6 t.data.length c6)).setCell ⟨b7, 1, none⟩ (.slice A7 t.toks.length c7)) = V2 at hKV2 hbV2 hF3 hF4 ⊢
        clear hK9 r9 z9 B9 hb5 hf1 hf2
        have BVX := Lib.hid (bl_trans BC7.out (hbV2.mono (Nat.le_refl _)))
        have gb := blk_below HK.out (bl_trans HBV.out BVX.out)
        have g0 := cell_rule (show V2.cell? ⟨w1.heap.size, 0, none⟩ = some (.slice A1 s.data.length c1) from blk_cell gb 0)
        have g1 := cell_rule (show V2.cell? ⟨w1.heap.size, 1, none⟩ = some (.slice A2 s.toks.length c2) from blk_cell gb 1)
        have gz := blk_frz gb
        have p0 := cell_rule (show V2.cell? ⟨b9, 0, none⟩ = some (.slice A4 t.data.length c4) from blk_cell (blk_below HKV.out BVX.out) 0)
        have p1 := cell_rule (show V2.cell? ⟨b9, 1, none⟩ = some (.slice A5 t.toks.length c5) from blk_cell (blk_below HKV.out BVX.out) 1)
        have m0 := cell_rule (show V2.cell? ⟨b7, 0, none⟩ = some (.slice A6 t.data.length c6) from blk_cell hKV2 0)
        have m1 := cell_rule (show V2.cell? ⟨b7, 1, none⟩ = some (.slice A7 t.toks.length c7) from blk_cell hKV2 1)
        have HF3 := Lib.hid hF3
        have HF4 := Lib.hid hF4
        have B2v := bl_refl V2
        have nb := HB9.out
        have n9 : w1.heap.size ≠ b9 := by omega
        have n9' : b9 ≠ w1.heap.size := by omega
        clear hbV2 hKV2 hF3 hF4 e0 e1 e2 gb nb
        go_wp2
        go_roundg (L.length - (i + 1))
        case measure => have := HLT.out; omega
        case rel =>
          exact ⟨i + 1, t, A4, A5, c4, c5, HLT.out, by have := HLT.out; omega, by go_num, blk_put (blk_put (blk_below HK.out (bl_trans HBV.out BVX.out)) 0 (.slice A4 t.data.length c4) rfl) 1 (.slice A5 t.toks.length c5) rfl, Ft.set (Ft.set ((HF1.out.below BVX.out).mono (fun k hk _ => hk.1)) (fun h => h rfl)) (fun h => h rfl), HK1.out, Ft.set (Ft.set ((HF2.out.below BVX.out).mono (fun k hk _ => hk.1)) (fun h => h rfl)) (fun h => h rfl), HK2.out, HN2.out, bl_set (bl_set (bl_trans HB.out (bl_trans HBV.out BVX.out)) (Nat.le_refl _)) (Nat.le_refl _)⟩
      | false =>
        go_wp2_with fail
        have p0 := cell_rule (q0 w6 B6)
        have p1 := cell_rule (q1 w6 B6)
        have e0 := cell_rule (u0 w6 B6)
        have e1 := cell_rule (u1 w6 B6)
        have e2 := cell_rule (u2 w6 B6)
        have FD2 := Lib.hid ((HF1.out.below B6).mono (fun k hk hl => (⟨hk.1, Nat.ne_of_lt hl⟩ : k ≠ w1.heap.size ∧ k ≠ w6.heap.size)))
        have FT2 := Lib.hid ((HF2.out.below B6).mono (fun k hk hl => (⟨hk.1, Nat.ne_of_lt hl⟩ : k ≠ w1.heap.size ∧ k ≠ w6.heap.size)))
        have HG4 := Lib.hid (show w1.heap.size < w6.heap.size from Nat.lt_of_lt_of_le HG3.out B6.size)
        have BC7 := Lib.hid B6
        have Bw7 := bl_refl w6
        clear B6 q0 q1 u0 u1 u2 g0 g1
        refine start_ (n := 12) (S := fun w' => w'.cell? ⟨b9, 0, none⟩ = some (.slice A4 t.data.length c4) ∧ w'.cell? ⟨b9, 1, none⟩ = some (.slice A5 t.toks.length c5) ∧ w'.cell? (ad.add (i * 3)) = some (.int .i64 x.b.kind) ∧ w'.cell? ⟨(ad.add (i * 3)).block, (ad.add (i * 3)).off + 1, none⟩ = some (.string x.b.tok) ∧ w'.cell? ⟨(ad.add (i * 3)).block, (ad.add (i * 3)).off + 2, none⟩ = some (.slice x.A x.b.ws.length x.c)) (ds := [10]) #[false, false, false, false, false, false, false, false, false, false, false, false] (by kernel_rfl) rfl rfl ⟨(p0 _ (bl_drew (bl_refl w6))), (p1 _ (bl_drew (bl_refl w6))), (e0 _ (bl_drew (bl_refl w6))), (e1 _ (bl_drew (bl_refl w6))), (e2 _ (bl_drew (bl_refl w6)))⟩ (fun hHeld => ?_)
        refine pure_ (i := 1) (N := some 94) (v := ?_) (a' := ?_) #[false, true, false, false, false, false, false, false, false, false, false, false] rfl rfl (by kernel_rfl) (fun _ _ _ h => h) (Or.inl ⟨by rfl, ?_⟩) ?_ ?_
        rotate_left
        · intro w'
          go_simp
          with_reducible rfl
        rotate_left
        · simp only [Act.put, List.setIfInBounds_toArray, List.set_cons_zero, List.set_cons_succ, i64_w, i32_w]
          rfl
        refine pure_ (i := 2) (N := some 95) (v := ?_) (a' := ?_) #[false, true, true, false, false, false, false, false, false, false, false, false] rfl rfl (by kernel_rfl) (fun _ _ _ h => h) (Or.inl ⟨by rfl, ?_⟩) ?_ ?_
        rotate_left
        · intro w'
          go_simp
          with_reducible rfl
        rotate_left
        · simp only [Act.put, List.setIfInBounds_toArray, List.set_cons_zero, List.set_cons_succ, i64_w, i32_w]
          rfl
        refine pure_ (i := 3) (N := some 96) (v := ?_) (a' := ?_) #[false, true, true, true, false, false, false, false, false, false, false, false] rfl rfl (by kernel_rfl) (fun _ _ _ h => h) (Or.inl ⟨by rfl, ?_⟩) ?_ ?_
        rotate_left
        · intro w'
          go_simp
          with_reducible rfl
        rotate_left
        · simp only [Act.put, List.setIfInBounds_toArray, List.set_cons_zero, List.set_cons_succ, i64_w, i32_w]
          rfl
        refine take_ (i := 0) (N := some 93) (v := ?_) (a' := ?_) #[true, true, true, true, false, false, false, false, false, false, false, false] rfl rfl (by kernel_rfl) (fun _ _ _ h => h) (Or.inl ⟨by rfl, ?_⟩) hHeld ?_ ?_
        rotate_left
        · rintro w' ⟨s0, s1, s2, s3, s4⟩
          go_simp
          with_reducible rfl
        rotate_left
        · simp only [Act.put, List.setIfInBounds_toArray, List.set_cons_zero, List.set_cons_succ, i64_w, i32_w]
          rfl
        refine take_ (i := 4) (N := some 97) (v := ?_) (a' := ?_) #[true, true, true, true, true, false, false, false, false, false, false, false] rfl rfl (by kernel_rfl) (fun _ _ _ h => h) (Or.inl ⟨by rfl, ?_⟩) hHeld ?_ ?_
        rotate_left
        · rintro w' ⟨s0, s1, s2, s3, s4⟩
          go_simp
          with_reducible rfl
        rotate_left
        · simp only [Act.put, List.setIfInBounds_toArray, List.set_cons_zero, List.set_cons_succ, i64_w, i32_w]
          rfl
        refine join_ (σ := Nat × Option Addr × Nat × Option Addr × Nat) 2 #[true, true, true, true, true, true, true, true, true, true, false, false] (fun p_ => [(98, .tuple #[.agg #[.slice p_.2.1 t.data.length p_.2.2.1, .slice p_.2.2.2.1 t.toks.length p_.2.2.2.2], .int .i64 err]), (12, .pointer (some ⟨p_.1, 0, none⟩)), (92, .tuple #[.agg #[.slice p_.2.1 t.data.length p_.2.2.1, .slice p_.2.2.2.1 t.toks.length p_.2.2.2.2], .int .i64 err]), (99, .agg #[.slice p_.2.1 t.data.length p_.2.2.1, .slice p_.2.2.2.1 t.toks.length p_.2.2.2.2]), (100, .int .i64 err)]) (fun p_ w' => (w'.cell? ⟨b9, 0, none⟩ = some (.slice A4 t.data.length c4) ∧ w'.cell? ⟨b9, 1, none⟩ = some (.slice A5 t.toks.length c5) ∧ w'.cell? (ad.add (i * 3)) = some (.int .i64 x.b.kind) ∧ w'.cell? ⟨(ad.add (i * 3)).block, (ad.add (i * 3)).off + 1, none⟩ = some (.string x.b.tok) ∧ w'.cell? ⟨(ad.add (i * 3)).block, (ad.add (i * 3)).off + 2, none⟩ = some (.slice x.A x.b.ws.length x.c)) ∧ Below w6.heap.size w6 w' ∧ w'.heap[p_.1]? = some (.cells #[.slice none 0 0, .slice none 0 0] 86 (0, 0)) ∧ w6.heap.size ≤ p_.1 ∧ Ft (fun k => k ≠ w1.heap.size ∧ k ≠ p_.1) w' (fun W => Kd.C kPr W p_.2.1 t.data.length t.data) ∧ t.data.length ≤ p_.2.2.1 ∧ Ft (fun k => k ≠ w1.heap.size ∧ k ≠ p_.1) w' (fun W => Kd.C kPr W p_.2.2.2.1 t.toks.length t.toks) ∧ t.toks.length ≤ p_.2.2.2.2) ?_ ?_
        rotate_left
        · intro hCont
          refine two_ (i := 5) (j := 9) (Ni := some 98) (Nj := some 12) #[true, true, true, true, true, true, false, false, false, false, false, false] #[true, true, true, true, true, false, false, false, false, true, false, false] rfl rfl rfl rfl (by kernel_rfl) (by decide) (by decide) (fun K hK => ?_) (fun K hK => ?_)
          · skip
            refine goes_ Try.func57 (by kernel_rfl) rfl #[.agg #[.slice A4 t.data.length c4, .slice A5 t.toks.length c5], .agg #[.int .i64 x.b.kind, .string x.b.tok, .slice x.A x.b.ws.length x.c]] (by rfl) rfl rfl (by simp only [List.map_toArray, List.map_cons, List.map_nil]; rfl) ?_
            with_reducible refine (do57 (fun k => k ≠ w1.heap.size ∧ k ≠ w6.heap.size) A4 A5 x.A c4 c5 x.c t t err x.b HD2.out _ (FD2.out.drew) HK1.out (FT2.out.drew) HK2.out (Kd.C_below HXW.out (bl_trans (bl_trans HBV.out BC7.out) (bl_drew (bl_refl w6)))) (by have := HN2.out; omega) (by have := HN2.out; omega)).mono ?_
            rintro e w8 ⟨A6, c6, A7, c7, rfl, hf1, hk1, hf2, hk2, hb0⟩
            refine ⟨_, rfl, ?_⟩
            have hb : Below w6.heap.size w6 w8 := bl_trans (bl_drew (bl_refl w6)) hb0
            refine hK.out _ _ ⟨(p0 _ hb), (p1 _ hb), (e0 _ hb), (e1 _ hb), (e2 _ hb)⟩ (fun hHeld => ?_)
            clear hK K
            refine norm_ (a' := ?_) ?_ ?_
            rotate_left
            · show Act.put _ (some 98) _ = _
              simp only [Act.put, List.setIfInBounds_toArray, List.set_cons_zero, List.set_cons_succ, i64_w, i32_w]
              rfl
            refine pure_ (i := 6) (N := some 92) (v := ?_) (a' := ?_) #[true, true, true, true, true, true, true, false, false, false, false, false] rfl rfl (by kernel_rfl) (fun _ _ _ h => h) (Or.inl ⟨by rfl, ?_⟩) ?_ ?_
            rotate_left
            · intro w'
              go_simp
              with_reducible rfl
            rotate_left
            · simp only [Act.put, List.setIfInBounds_toArray, List.set_cons_zero, List.set_cons_succ, i64_w, i32_w]
              rfl
            refine pure_ (i := 7) (N := some 99) (v := ?_) (a' := ?_) #[true, true, true, true, true, true, true, true, false, false, false, false] rfl rfl (by kernel_rfl) (fun _ _ _ h => h) (Or.inl ⟨by rfl, ?_⟩) ?_ ?_
            rotate_left
            · intro w'
              go_simp
              with_reducible rfl
            rotate_left
            · simp only [Act.put, List.setIfInBounds_toArray, List.set_cons_zero, List.set_cons_succ, i64_w, i32_w]
              rfl
            refine pure_ (i := 8) (N := some 100) (v := ?_) (a' := ?_) #[true, true, true, true, true, true, true, true, true, false, false, false] rfl rfl (by kernel_rfl) (fun _ _ _ h => h) (Or.inl ⟨by rfl, ?_⟩) ?_ ?_
            rotate_left
            · intro w'
              go_simp
              with_reducible rfl
            rotate_left
            · simp only [Act.put, List.setIfInBounds_toArray, List.set_cons_zero, List.set_cons_succ, i64_w, i32_w]
              rfl
            refine one_ (i := 9) (N := some 12) #[true, true, true, true, true, true, true, true, true, true, false, false] rfl rfl (by kernel_rfl) (by decide) (fun K hK => ?_)
            refine value_ (w1 := ?_) (v := ?_) (by rfl) rfl ?_ ?_
            rotate_left 2
            · go_simp
              constructor
              · rfl
              · rfl
            refine hK.out _ _ ⟨(p0 _ (bl_alloc _ hb)), (p1 _ (bl_alloc _ hb)), (e0 _ (bl_alloc _ hb)), (e1 _ (bl_alloc _ hb)), (e2 _ (bl_alloc _ hb))⟩ (fun hHeld => ?_)
            clear hK K
            refine norm_ (a' := ?_) ?_ ?_
            rotate_left
            · show Act.put _ (some 12) _ = _
              simp only [Act.put, List.setIfInBounds_toArray, List.set_cons_zero, List.set_cons_succ, i64_w, i32_w]
              rfl
            exact norm_ (by simp only [putAll, Act.put, List.setIfInBounds_toArray, List.set_cons_zero, List.set_cons_succ]) (hCont (w8.heap.size, A6, c6, A7, c7) _ ⟨⟨(p0 _ (bl_alloc _ hb)), (p1 _ (bl_alloc _ hb)), (e0 _ (bl_alloc _ hb)), (e1 _ (bl_alloc _ hb)), (e2 _ (bl_alloc _ hb))⟩, bl_alloc _ hb, blk_new w8 (.cells #[.slice none 0 0, .slice none 0 0] 86), hb.size, ((Ft.cut hf1).below (bl_alloc (.cells #[.slice none 0 0, .slice none 0 0] 86) (bl_refl w8))).mono (fun k hk _ => ⟨by rcases hk.1 with h | h; exact h.1.1; have := HG4.out; (try change w6.heap.size ≤ k at h); omega, Nat.ne_of_lt hk.2⟩), hk1, ((Ft.cut hf2).below (bl_alloc (.cells #[.slice none 0 0, .slice none 0 0] 86) (bl_refl w8))).mono (fun k hk _ => ⟨by rcases hk.1 with h | h; exact h.1.1; have := HG4.out; (try change w6.heap.size ≤ k at h); omega, Nat.ne_of_lt hk.2⟩), hk2⟩)
          · skip
            refine value_ (w1 := ?_) (v := ?_) (by rfl) rfl ?_ ?_
            rotate_left 2
            · go_simp
              constructor
              · rfl
              · rfl
            refine hK.out _ _ ⟨(p0 _ (bl_drew (bl_alloc _ (bl_refl w6)))), (p1 _ (bl_drew (bl_alloc _ (bl_refl w6)))), (e0 _ (bl_drew (bl_alloc _ (bl_refl w6)))), (e1 _ (bl_drew (bl_alloc _ (bl_refl w6)))), (e2 _ (bl_drew (bl_alloc _ (bl_refl w6))))⟩ (fun hHeld => ?_)
            clear hK K
            refine norm_ (a' := ?_) ?_ ?_
            rotate_left
            · show Act.put _ (some 12) _ = _
              simp only [Act.put, List.setIfInBounds_toArray, List.set_cons_zero, List.set_cons_succ, i64_w, i32_w]
              rfl
            refine one_ (i := 5) (N := some 98) #[true, true, true, true, true, true, false, false, false, true, false, false] rfl rfl (by kernel_rfl) (by decide) (fun K hK => ?_)
            refine goes_ Try.func57 (by kernel_rfl) rfl #[.agg #[.slice A4 t.data.length c4, .slice A5 t.toks.length c5], .agg #[.int .i64 x.b.kind, .string x.b.tok, .slice x.A x.b.ws.length x.c]] (by rfl) rfl rfl (by simp only [List.map_toArray, List.map_cons, List.map_nil]; rfl) ?_
            with_reducible refine (do57 (fun k => k ≠ w1.heap.size ∧ k ≠ w6.heap.size) A4 A5 x.A c4 c5 x.c t t err x.b HD2.out _ (FD2.out.below (bl_drew (bl_alloc _ (bl_refl w6)))) HK1.out (FT2.out.below (bl_drew (bl_alloc _ (bl_refl w6)))) HK2.out (Kd.C_below HXW.out (bl_trans (bl_trans HBV.out BC7.out) (bl_drew (bl_alloc _ (bl_refl w6))))) (by have := HN2.out; omega) (by have := HN2.out; omega)).mono ?_
            rintro e w8 ⟨A6, c6, A7, c7, rfl, hf1, hk1, hf2, hk2, hb0⟩
            refine ⟨_, rfl, ?_⟩
            have hb : Below w6.heap.size w6 w8 := bl_trans (bl_drew (bl_alloc _ (bl_refl w6))) hb0
            refine hK.out _ _ ⟨(p0 _ hb), (p1 _ hb), (e0 _ hb), (e1 _ hb), (e2 _ hb)⟩ (fun hHeld => ?_)
            clear hK K
            refine norm_ (a' := ?_) ?_ ?_
            rotate_left
            · show Act.put _ (some 98) _ = _
              simp only [Act.put, List.setIfInBounds_toArray, List.set_cons_zero, List.set_cons_succ, i64_w, i32_w]
              rfl
            refine pure_ (i := 6) (N := some 92) (v := ?_) (a' := ?_) #[true, true, true, true, true, true, true, false, false, true, false, false] rfl rfl (by kernel_rfl) (fun _ _ _ h => h) (Or.inl ⟨by rfl, ?_⟩) ?_ ?_
            rotate_left
            · intro w'
              go_simp
              with_reducible rfl
            rotate_left
            · simp only [Act.put, List.setIfInBounds_toArray, List.set_cons_zero, List.set_cons_succ, i64_w, i32_w]
              rfl
            refine pure_ (i := 7) (N := some 99) (v := ?_) (a' := ?_) #[true, true, true, true, true, true, true, true, false, true, false, false] rfl rfl (by kernel_rfl) (fun _ _ _ h => h) (Or.inl ⟨by rfl, ?_⟩) ?_ ?_
            rotate_left
            · intro w'
              go_simp
              with_reducible rfl
            rotate_left
            · simp only [Act.put, List.setIfInBounds_toArray, List.set_cons_zero, List.set_cons_succ, i64_w, i32_w]
              rfl
            refine pure_ (i := 8) (N := some 100) (v := ?_) (a' := ?_) #[true, true, true, true, true, true, true, true, true, true, false, false] rfl rfl (by kernel_rfl) (fun _ _ _ h => h) (Or.inl ⟨by rfl, ?_⟩) ?_ ?_
            rotate_left
            · intro w'
              go_simp
              with_reducible rfl
            rotate_left
            · simp only [Act.put, List.setIfInBounds_toArray, List.set_cons_zero, List.set_cons_succ, i64_w, i32_w]
              rfl
            exact norm_ (by simp only [putAll, Act.put, List.setIfInBounds_toArray, List.set_cons_zero, List.set_cons_succ]) (hCont (w6.heap.size, A6, c6, A7, c7) _ ⟨⟨(p0 _ hb), (p1 _ hb), (e0 _ hb), (e1 _ hb), (e2 _ hb)⟩, hb, blk_below (w := (w6.alloc (.cells #[.slice none 0 0, .slice none 0 0] 86)).drew) (blk_new w6 (.cells #[.slice none 0 0, .slice none 0 0] 86)) hb0, Nat.le_refl _, Ft.mono hf1 (fun k hk _ => by rcases hk with h | h; exact h.1; have := HG4.out; have h2 : w6.heap.size + 1 ≤ k := (by simpa using h); exact ⟨by omega, by omega⟩), hk1, Ft.mono hf2 (fun k hk _ => by rcases hk with h | h; exact h.1; have := HG4.out; have h2 : w6.heap.size + 1 ≤ k := (by simpa using h); exact ⟨by omega, by omega⟩), hk2⟩)
        rintro ⟨b7, A6, c6, A7, c7⟩ w9 ⟨hHeld, hb5, hK9, hb9, hf1, hk1, hf2, hk2⟩
        dsimp only at hK9 hb9 hf1 hk1 hf2 hk2
        have r9 := blk_cells hK9
        have z9 := blk_frz hK9
        have B9 := bl_refl w9
        refine norm_ (a' := ?_) ?_ ?_
        rotate_left
        · simp only [putAll, Act.put, List.setIfInBounds_toArray, List.set_cons_zero, List.set_cons_succ]
          rfl
        refine last_ (i := 10) (N := none) #[true, true, true, true, true, true, true, true, true, true, true, false] rfl rfl (by kernel_rfl) (by decide) (fun K hK => ?_)
        refine skip_ (w1 := ?_) (by rfl) rfl ?_ ?_
        rotate_left
        · go_simp
          rfl
        refine hK.out _ _ ?_
        clear hK K
        refine pure_ (i := 11) (N := some 13) (v := ?_) (a' := ?_) #[true, true, true, true, true, true, true, true, true, true, true, true] rfl rfl (by kernel_rfl) (fun _ _ _ h => h) (Or.inl ⟨by rfl, ?_⟩) ?_ ?_
        rotate_left
        · intro w'
          go_simp
          with_reducible rfl
        rotate_left
        · simp only [Act.put, List.setIfInBounds_toArray, List.set_cons_zero, List.set_cons_succ, i64_w, i32_w]
          rfl
        refine done_ (by kernel_rfl) ?_
        have hKV2 := blk_put (blk_put hK9 0 (.slice A6 t.data.length c6) rfl) 1 (.slice A7 t.toks.length c7) rfl
        have hbV2 := bl_set (g := b7) (j := 1) (u := .slice A7 t.toks.length c7) (bl_set (g := b7) (j := 0) (u := .slice A6 t.data.length c6) hb5 hb9) hb9
        have hF3 := Ft.set (g := b7) (j := 1) (u := .slice A7 t.toks.length c7) (Ft.set (g := b7) (j := 0) (u := .slice A6 t.data.length c6) hf1 (fun h => h.2 rfl)) (fun h => h.2 rfl)
        have hF4 := Ft.set (g := b7) (j := 1) (u := .slice A7 t.toks.length c7) (Ft.set (g := b7) (j := 0) (u := .slice A6 t.data.length c6) hf2 (fun h => h.2 rfl)) (fun h => h.2 rfl)
        generalize ((w9.setCell ⟨b7, 0, none⟩ (.slice A6 t.data.length c6)).setCell ⟨b7, 1, none⟩ (.slice A7 t.toks.length c7)) = V2 at hKV2 hbV2 hF3 hF4 ⊢
        clear hK9 r9 z9 B9 hb5 hf1 hf2
        have BVX := Lib.hid (bl_trans BC7.out (hbV2.mono (Nat.le_refl _)))
        have gb := blk_below HK.out (bl_trans HBV.out BVX.out)
        have g0 := cell_rule (show V2.cell? ⟨w1.heap.size, 0, none⟩ = some (.slice A1 s.data.length c1) from blk_cell gb 0)
        have g1 := cell_rule (show V2.cell? ⟨w1.heap.size, 1, none⟩ = some (.slice A2 s.toks.length c2) from blk_cell gb 1)
        have gz := blk_frz gb
        have p0 := cell_rule (show V2.cell? ⟨b9, 0, none⟩ = some (.slice A4 t.data.length c4) from blk_cell (blk_below HKV.out BVX.out) 0)
        have p1 := cell_rule (show V2.cell? ⟨b9, 1, none⟩ = some (.slice A5 t.toks.length c5) from blk_cell (blk_below HKV.out BVX.out) 1)
        have m0 := cell_rule (show V2.cell? ⟨b7, 0, none⟩ = some (.slice A6 t.data.length c6) from blk_cell hKV2 0)
        have m1 := cell_rule (show V2.cell? ⟨b7, 1, none⟩ = some (.slice A7 t.toks.length c7) from blk_cell hKV2 1)
        have HF3 := Lib.hid hF3
        have HF4 := Lib.hid hF4
        have B2v := bl_refl V2
        have nb := HB9.out
        have n9 : w1.heap.size ≠ b9 := by omega
        have n9' : b9 ≠ w1.heap.size := by omega
        clear hbV2 hKV2 hF3 hF4 e0 e1 e2 gb nb
        go_wp2
        go_roundg (L.length - (i + 1))
        case measure => have := HLT.out; omega
        case rel =>
          exact ⟨i + 1, t, A4, A5, c4, c5, HLT.out, by have := HLT.out; omega, by go_num, blk_put (blk_put (blk_below HK.out (bl_trans HBV.out BVX.out)) 0 (.slice A4 t.data.length c4) rfl) 1 (.slice A5 t.toks.length c5) rfl, Ft.set (Ft.set ((HF1.out.below BVX.out).mono (fun k hk _ => hk.1)) (fun h => h rfl)) (fun h => h rfl), HK1.out, Ft.set (Ft.set ((HF2.out.below BVX.out).mono (fun k hk _ => hk.1)) (fun h => h rfl)) (fun h => h rfl), HK2.out, HN2.out, bl_set (bl_set (bl_trans HB.out (bl_trans HBV.out BVX.out)) (Nat.le_refl _)) (Nat.le_refl _)⟩
    · have hee : (now, has) = (howB x.b.kind, true) := by rw [← HFT.out, hft]
      obtain ⟨rfl, rfl⟩ := Prod.mk.inj hee
      obtain rfl : was = false := by rw [← hs, HFS.out]
      have HD2 := Lib.hid hd2
      subst he
      clear hft hs hee hd2
      rcases hk with hk | hk
      · have hh : howB x.b.kind = ⟨#[99]⟩ := by unfold howB; rw [hk]; rfl
        rw [hh]
        have hk2 : (x.b.kind == 1) = true := by rw [hk]; rfl
        have HH := Lib.hid hh
        clear hh hk
        go_wp2_with fail
        have p0 := cell_rule (q0 w6 B6)
        have p1 := cell_rule (q1 w6 B6)
        have e0 := cell_rule (u0 w6 B6)
        have e1 := cell_rule (u1 w6 B6)
        have e2 := cell_rule (u2 w6 B6)
        have FD2 := Lib.hid ((HF1.out.below B6).mono (fun k hk hl => (⟨hk.1, Nat.ne_of_lt hl⟩ : k ≠ w1.heap.size ∧ k ≠ w6.heap.size)))
        have FT2 := Lib.hid ((HF2.out.below B6).mono (fun k hk hl => (⟨hk.1, Nat.ne_of_lt hl⟩ : k ≠ w1.heap.size ∧ k ≠ w6.heap.size)))
        have HG4 := Lib.hid (show w1.heap.size < w6.heap.size from Nat.lt_of_lt_of_le HG3.out B6.size)
        have BC7 := Lib.hid B6
        have Bw7 := bl_refl w6
        clear B6 q0 q1 u0 u1 u2 g0 g1
        refine start_ (n := 12) (S := fun w' => w'.cell? ⟨b9, 0, none⟩ = some (.slice A4 t.data.length c4) ∧ w'.cell? ⟨b9, 1, none⟩ = some (.slice A5 t.toks.length c5) ∧ w'.cell? (ad.add (i * 3)) = some (.int .i64 x.b.kind) ∧ w'.cell? ⟨(ad.add (i * 3)).block, (ad.add (i * 3)).off + 1, none⟩ = some (.string x.b.tok) ∧ w'.cell? ⟨(ad.add (i * 3)).block, (ad.add (i * 3)).off + 2, none⟩ = some (.slice x.A x.b.ws.length x.c)) (ds := [10]) #[false, false, false, false, false, false, false, false, false, false, false, false] (by kernel_rfl) rfl rfl ⟨(p0 _ (bl_drew (bl_refl w6))), (p1 _ (bl_drew (bl_refl w6))), (e0 _ (bl_drew (bl_refl w6))), (e1 _ (bl_drew (bl_refl w6))), (e2 _ (bl_drew (bl_refl w6)))⟩ (fun hHeld => ?_)
        refine pure_ (i := 1) (N := some 94) (v := ?_) (a' := ?_) #[false, true, false, false, false, false, false, false, false, false, false, false] rfl rfl (by kernel_rfl) (fun _ _ _ h => h) (Or.inl ⟨by rfl, ?_⟩) ?_ ?_
        rotate_left
        · intro w'
          go_simp
          with_reducible rfl
        rotate_left
        · simp only [Act.put, List.setIfInBounds_toArray, List.set_cons_zero, List.set_cons_succ, i64_w, i32_w]
          rfl
        refine pure_ (i := 2) (N := some 95) (v := ?_) (a' := ?_) #[false, true, true, false, false, false, false, false, false, false, false, false] rfl rfl (by kernel_rfl) (fun _ _ _ h => h) (Or.inl ⟨by rfl, ?_⟩) ?_ ?_
        rotate_left
        · intro w'
          go_simp
          with_reducible rfl
        rotate_left
        · simp only [Act.put, List.setIfInBounds_toArray, List.set_cons_zero, List.set_cons_succ, i64_w, i32_w]
          rfl
        refine pure_ (i := 3) (N := some 96) (v := ?_) (a' := ?_) #[false, true, true, true, false, false, false, false, false, false, false, false] rfl rfl (by kernel_rfl) (fun _ _ _ h => h) (Or.inl ⟨by rfl, ?_⟩) ?_ ?_
        rotate_left
        · intro w'
          go_simp
          with_reducible rfl
        rotate_left
        · simp only [Act.put, List.setIfInBounds_toArray, List.set_cons_zero, List.set_cons_succ, i64_w, i32_w]
          rfl
        refine take_ (i := 0) (N := some 93) (v := ?_) (a' := ?_) #[true, true, true, true, false, false, false, false, false, false, false, false] rfl rfl (by kernel_rfl) (fun _ _ _ h => h) (Or.inl ⟨by rfl, ?_⟩) hHeld ?_ ?_
        rotate_left
        · rintro w' ⟨s0, s1, s2, s3, s4⟩
          go_simp
          with_reducible rfl
        rotate_left
        · simp only [Act.put, List.setIfInBounds_toArray, List.set_cons_zero, List.set_cons_succ, i64_w, i32_w]
          rfl
        refine take_ (i := 4) (N := some 97) (v := ?_) (a' := ?_) #[true, true, true, true, true, false, false, false, false, false, false, false] rfl rfl (by kernel_rfl) (fun _ _ _ h => h) (Or.inl ⟨by rfl, ?_⟩) hHeld ?_ ?_
        rotate_left
        · rintro w' ⟨s0, s1, s2, s3, s4⟩
          go_simp
          with_reducible rfl
        rotate_left
        · simp only [Act.put, List.setIfInBounds_toArray, List.set_cons_zero, List.set_cons_succ, i64_w, i32_w]
          rfl
        refine join_ (σ := Nat × Option Addr × Nat × Option Addr × Nat) 2 #[true, true, true, true, true, true, true, true, true, true, false, false] (fun p_ => [(98, .tuple #[.agg #[.slice p_.2.1 t.data.length p_.2.2.1, .slice p_.2.2.2.1 t.toks.length p_.2.2.2.2], .int .i64 8]), (12, .pointer (some ⟨p_.1, 0, none⟩)), (92, .tuple #[.agg #[.slice p_.2.1 t.data.length p_.2.2.1, .slice p_.2.2.2.1 t.toks.length p_.2.2.2.2], .int .i64 8]), (99, .agg #[.slice p_.2.1 t.data.length p_.2.2.1, .slice p_.2.2.2.1 t.toks.length p_.2.2.2.2]), (100, .int .i64 8)]) (fun p_ w' => (w'.cell? ⟨b9, 0, none⟩ = some (.slice A4 t.data.length c4) ∧ w'.cell? ⟨b9, 1, none⟩ = some (.slice A5 t.toks.length c5) ∧ w'.cell? (ad.add (i * 3)) = some (.int .i64 x.b.kind) ∧ w'.cell? ⟨(ad.add (i * 3)).block, (ad.add (i * 3)).off + 1, none⟩ = some (.string x.b.tok) ∧ w'.cell? ⟨(ad.add (i * 3)).block, (ad.add (i * 3)).off + 2, none⟩ = some (.slice x.A x.b.ws.length x.c)) ∧ Below w6.heap.size w6 w' ∧ w'.heap[p_.1]? = some (.cells #[.slice none 0 0, .slice none 0 0] 86 (0, 0)) ∧ w6.heap.size ≤ p_.1 ∧ Ft (fun k => k ≠ w1.heap.size ∧ k ≠ p_.1) w' (fun W => Kd.C kPr W p_.2.1 t.data.length t.data) ∧ t.data.length ≤ p_.2.2.1 ∧ Ft (fun k => k ≠ w1.heap.size ∧ k ≠ p_.1) w' (fun W => Kd.C kPr W p_.2.2.2.1 t.toks.length t.toks) ∧ t.toks.length ≤ p_.2.2.2.2) ?_ ?_
        rotate_left
        · intro hCont
          refine two_ (i := 5) (j := 9) (Ni := some 98) (Nj := some 12) #[true, true, true, true, true, true, false, false, false, false, false, false] #[true, true, true, true, true, false, false, false, false, true, false, false] rfl rfl rfl rfl (by kernel_rfl) (by decide) (by decide) (fun K hK => ?_) (fun K hK => ?_)
          · skip
            refine goes_ Try.func57 (by kernel_rfl) rfl #[.agg #[.slice A4 t.data.length c4, .slice A5 t.toks.length c5], .agg #[.int .i64 x.b.kind, .string x.b.tok, .slice x.A x.b.ws.length x.c]] (by rfl) rfl rfl (by simp only [List.map_toArray, List.map_cons, List.map_nil]; rfl) ?_
            with_reducible refine (do57 (fun k => k ≠ w1.heap.size ∧ k ≠ w6.heap.size) A4 A5 x.A c4 c5 x.c t t 8 x.b HD2.out _ (FD2.out.drew) HK1.out (FT2.out.drew) HK2.out (Kd.C_below HXW.out (bl_trans (bl_trans HBV.out BC7.out) (bl_drew (bl_refl w6)))) (by have := HN2.out; omega) (by have := HN2.out; omega)).mono ?_
            rintro e w8 ⟨A6, c6, A7, c7, rfl, hf1, hk1, hf2, hk2, hb0⟩
            refine ⟨_, rfl, ?_⟩
            have hb : Below w6.heap.size w6 w8 := bl_trans (bl_drew (bl_refl w6)) hb0
            refine hK.out _ _ ⟨(p0 _ hb), (p1 _ hb), (e0 _ hb), (e1 _ hb), (e2 _ hb)⟩ (fun hHeld => ?_)
            clear hK K
            refine norm_ (a' := ?_) ?_ ?_
            rotate_left
            · show Act.put _ (some 98) _ = _
              simp only [Act.put, List.setIfInBounds_toArray, List.set_cons_zero, List.set_cons_succ, i64_w, i32_w]
              rfl
            refine pure_ (i := 6) (N := some 92) (v := ?_) (a' := ?_) #[true, true, true, true, true, true, true, false, false, false, false, false] rfl rfl (by kernel_rfl) (fun _ _ _ h => h) (Or.inl ⟨by rfl, ?_⟩) ?_ ?_
            rotate_left
            · intro w'
              go_simp
              with_reducible rfl
            rotate_left
            · simp only [Act.put, List.setIfInBounds_toArray, List.set_cons_zero, List.set_cons_succ, i64_w, i32_w]
              rfl
            refine pure_ (i := 7) (N := some 99) (v := ?_) (a' := ?_) #[true, true, true, true, true, true, true, true, false, false, false, false] rfl rfl (by kernel_rfl) (fun _ _ _ h => h) (Or.inl ⟨by rfl, ?_⟩) ?_ ?_
            rotate_left
            · intro w'
              go_simp
              with_reducible rfl
            rotate_left
            · simp only [Act.put, List.setIfInBounds_toArray, List.set_cons_zero, List.set_cons_succ, i64_w, i32_w]
              rfl
            refine pure_ (i := 8) (N := some 100) (v := ?_) (a' := ?_) #[true, true, true, true, true, true, true, true, true, false, false, false] rfl rfl (by kernel_rfl) (fun _ _ _ h => h) (Or.inl ⟨by rfl, ?_⟩) ?_ ?_
            rotate_left
            · intro w'
              go_simp
              with_reducible rfl
            rotate_left
            · simp only [Act.put, List.setIfInBounds_toArray, List.set_cons_zero, List.set_cons_succ, i64_w, i32_w]
              rfl
            refine one_ (i := 9) (N := some 12) #[true, true, true, true, true, true, true, true, true, true, false, false] rfl rfl (by kernel_rfl) (by decide) (fun K hK => ?_)
            refine value_ (w1 := ?_) (v := ?_) (by rfl) rfl ?_ ?_
            rotate_left 2
            · go_simp
              constructor
              · rfl
              · rfl
            refine hK.out _ _ ⟨(p0 _ (bl_alloc _ hb)), (p1 _ (bl_alloc _ hb)), (e0 _ (bl_alloc _ hb)), (e1 _ (bl_alloc _ hb)), (e2 _ (bl_alloc _ hb))⟩ (fun hHeld => ?_)
            clear hK K
            refine norm_ (a' := ?_) ?_ ?_
            rotate_left
            · show Act.put _ (some 12) _ = _
              simp only [Act.put, List.setIfInBounds_toArray, List.set_cons_zero, List.set_cons_succ, i64_w, i32_w]
              rfl
            exact norm_ (by simp only [putAll, Act.put, List.setIfInBounds_toArray, List.set_cons_zero, List.set_cons_succ]) (hCont (w8.heap.size, A6, c6, A7, c7) _ ⟨⟨(p0 _ (bl_alloc _ hb)), (p1 _ (bl_alloc _ hb)), (e0 _ (bl_alloc _ hb)), (e1 _ (bl_alloc _ hb)), (e2 _ (bl_alloc _ hb))⟩, bl_alloc _ hb, blk_new w8 (.cells #[.slice none 0 0, .slice none 0 0] 86), hb.size, ((Ft.cut hf1).below (bl_alloc (.cells #[.slice none 0 0, .slice none 0 0] 86) (bl_refl w8))).mono (fun k hk _ => ⟨by rcases hk.1 with h | h; exact h.1.1; have := HG4.out; (try change w6.heap.size ≤ k at h); omega, Nat.ne_of_lt hk.2⟩), hk1, ((Ft.cut hf2).below (bl_alloc (.cells #[.slice none 0 0, .slice none 0 0] 86) (bl_refl w8))).mono (fun k hk _ => ⟨by rcases hk.1 with h | h; exact h.1.1; have := HG4.out; (try change w6.heap.size ≤ k at h); omega, Nat.ne_of_lt hk.2⟩), hk2⟩)
          · skip
            refine value_ (w1 := ?_) (v := ?_) (by rfl) rfl ?_ ?_
            rotate_left 2
            · go_simp
              constructor
              · rfl
              · rfl
            refine hK.out _ _ ⟨(p0 _ (bl_drew (bl_alloc _ (bl_refl w6)))), (p1 _ (bl_drew (bl_alloc _ (bl_refl w6)))), (e0 _ (bl_drew (bl_alloc _ (bl_refl w6)))), (e1 _ (bl_drew (bl_alloc _ (bl_refl w6)))), (e2 _ (bl_drew (bl_alloc _ (bl_refl w6))))⟩ (fun hHeld => ?_)
            clear hK K
            refine norm_ (a' := ?_) ?_ ?_
            rotate_left
            · show Act.put _ (some 12) _ = _
              simp only [Act.put, List.setIfInBounds_toArray, List.set_cons_zero, List.set_cons_succ, i64_w, i32_w]
              rfl
            refine one_ (i := 5) (N := some 98) #[true, true, true, true, true, true, false, false, false, true, false, false] rfl rfl (by kernel_rfl) (by decide) (fun K hK => ?_)
            refine goes_ Try.func57 (by kernel_rfl) rfl #[.agg #[.slice A4 t.data.length c4, .slice A5 t.toks.length c5], .agg #[.int .i64 x.b.kind, .string x.b.tok, .slice x.A x.b.ws.length x.c]] (by rfl) rfl rfl (by simp only [List.map_toArray, List.map_cons, List.map_nil]; rfl) ?_
            with_reducible refine (do57 (fun k => k ≠ w1.heap.size ∧ k ≠ w6.heap.size) A4 A5 x.A c4 c5 x.c t t 8 x.b HD2.out _ (FD2.out.below (bl_drew (bl_alloc _ (bl_refl w6)))) HK1.out (FT2.out.below (bl_drew (bl_alloc _ (bl_refl w6)))) HK2.out (Kd.C_below HXW.out (bl_trans (bl_trans HBV.out BC7.out) (bl_drew (bl_alloc _ (bl_refl w6))))) (by have := HN2.out; omega) (by have := HN2.out; omega)).mono ?_
            rintro e w8 ⟨A6, c6, A7, c7, rfl, hf1, hk1, hf2, hk2, hb0⟩
            refine ⟨_, rfl, ?_⟩
            have hb : Below w6.heap.size w6 w8 := bl_trans (bl_drew (bl_alloc _ (bl_refl w6))) hb0
            refine hK.out _ _ ⟨(p0 _ hb), (p1 _ hb), (e0 _ hb), (e1 _ hb), (e2 _ hb)⟩ (fun hHeld => ?_)
            clear hK K
            refine norm_ (a' := ?_) ?_ ?_
            rotate_left
            · show Act.put _ (some 98) _ = _
              simp only [Act.put, List.setIfInBounds_toArray, List.set_cons_zero, List.set_cons_succ, i64_w, i32_w]
              rfl
            refine pure_ (i := 6) (N := some 92) (v := ?_) (a' := ?_) #[true, true, true, true, true, true, true, false, false, true, false, false] rfl rfl (by kernel_rfl) (fun _ _ _ h => h) (Or.inl ⟨by rfl, ?_⟩) ?_ ?_
            rotate_left
            · intro w'
              go_simp
              with_reducible rfl
            rotate_left
            · simp only [Act.put, List.setIfInBounds_toArray, List.set_cons_zero, List.set_cons_succ, i64_w, i32_w]
              rfl
            refine pure_ (i := 7) (N := some 99) (v := ?_) (a' := ?_) #[true, true, true, true, true, true, true, true, false, true, false, false] rfl rfl (by kernel_rfl) (fun _ _ _ h => h) (Or.inl ⟨by rfl, ?_⟩) ?_ ?_
            rotate_left
            · intro w'
              go_simp
              with_reducible rfl
            rotate_left
            · simp only [Act.put, List.setIfInBounds_toArray, List.set_cons_zero, List.set_cons_succ, i64_w, i32_w]
              rfl
            refine pure_ (i := 8) (N := some 100) (v := ?_) (a' := ?_) #[true, true, true, true, true, true, true, true, true, true, false, false] rfl rfl (by kernel_rfl) (fun _ _ _ h => h) (Or.inl ⟨by rfl, ?_⟩) ?_ ?_
            rotate_left
            · intro w'
              go_simp
              with_reducible rfl
            rotate_left
            · simp only [Act.put, List.setIfInBounds_toArray, List.set_cons_zero, List.set_cons_succ, i64_w, i32_w]
              rfl
            exact norm_ (by simp only [putAll, Act.put, List.setIfInBounds_toArray, List.set_cons_zero, List.set_cons_succ]) (hCont (w6.heap.size, A6, c6, A7, c7) _ ⟨⟨(p0 _ hb), (p1 _ hb), (e0 _ hb), (e1 _ hb), (e2 _ hb)⟩, hb, blk_below (w := (w6.alloc (.cells #[.slice none 0 0, .slice none 0 0] 86)).drew) (blk_new w6 (.cells #[.slice none 0 0, .slice none 0 0] 86)) hb0, Nat.le_refl _, Ft.mono hf1 (fun k hk _ => by rcases hk with h | h; exact h.1; have := HG4.out; have h2 : w6.heap.size + 1 ≤ k := (by simpa using h); exact ⟨by omega, by omega⟩), hk1, Ft.mono hf2 (fun k hk _ => by rcases hk with h | h; exact h.1; have := HG4.out; have h2 : w6.heap.size + 1 ≤ k := (by simpa using h); exact ⟨by omega, by omega⟩), hk2⟩)
        rintro ⟨b7, A6, c6, A7, c7⟩ w9 ⟨hHeld, hb5, hK9, hb9, hf1, hk1, hf2, hk2⟩
        dsimp only at hK9 hb9 hf1 hk1 hf2 hk2
        have r9 := blk_cells hK9
        have z9 := blk_frz hK9
        have B9 := bl_refl w9
        refine norm_ (a' := ?_) ?_ ?_
        rotate_left
        · simp only [putAll, Act.put, List.setIfInBounds_toArray, List.set_cons_zero, List.set_cons_succ]
          rfl
        refine last_ (i := 10) (N := none) #[true, true, true, true, true, true, true, true, true, true, true, false] rfl rfl (by kernel_rfl) (by decide) (fun K hK => ?_)
        refine skip_ (w1 := ?_) (by rfl) rfl ?_ ?_
        rotate_left
        · go_simp
          rfl
        refine hK.out _ _ ?_
        clear hK K
        refine pure_ (i := 11) (N := some 13) (v := ?_) (a' := ?_) #[true, true, true, true, true, true, true, true, true, true, true, true] rfl rfl (by kernel_rfl) (fun _ _ _ h => h) (Or.inl ⟨by rfl, ?_⟩) ?_ ?_
        rotate_left
        · intro w'
          go_simp
          with_reducible rfl
        rotate_left
        · simp only [Act.put, List.setIfInBounds_toArray, List.set_cons_zero, List.set_cons_succ, i64_w, i32_w]
          rfl
        refine done_ (by kernel_rfl) ?_
        have hKV2 := blk_put (blk_put hK9 0 (.slice A6 t.data.length c6) rfl) 1 (.slice A7 t.toks.length c7) rfl
        have hbV2 := bl_set (g := b7) (j := 1) (u := .slice A7 t.toks.length c7) (bl_set (g := b7) (j := 0) (u := .slice A6 t.data.length c6) hb5 hb9) hb9
        have hF3 := Ft.set (g := b7) (j := 1) (u := .slice A7 t.toks.length c7) (Ft.set (g := b7) (j := 0) (u := .slice A6 t.data.length c6) hf1 (fun h => h.2 rfl)) (fun h => h.2 rfl)
        have hF4 := Ft.set (g := b7) (j := 1) (u := .slice A7 t.toks.length c7) (Ft.set (g := b7) (j := 0) (u := .slice A6 t.data.length c6) hf2 (fun h => h.2 rfl)) (fun h => h.2 rfl)
        generalize ((w9.setCell ⟨b7, 0, none⟩ (.slice A6 t.data.length c6)).setCell ⟨b7, 1, none⟩ (.slice A7 t.toks.length c7)) = V2 at hKV2 hbV2 hF3 hF4 ⊢
        clear hK9 r9 z9 B9 hb5 hf1 hf2
        have BVX := Lib.hid (bl_trans BC7.out (hbV2.mono (Nat.le_refl _)))
        have gb := blk_below HK.out (bl_trans HBV.out BVX.out)
        have g0 := cell_rule (show V2.cell? ⟨w1.heap.size, 0, none⟩ = some (.slice A1 s.data.length c1) from blk_cell gb 0)
        have g1 := cell_rule (show V2.cell? ⟨w1.heap.size, 1, none⟩ = some (.slice A2 s.toks.length c2) from blk_cell gb 1)
        have gz := blk_frz gb
        have p0 := cell_rule (show V2.cell? ⟨b9, 0, none⟩ = some (.slice A4 t.data.length c4) from blk_cell (blk_below HKV.out BVX.out) 0)
        have p1 := cell_rule (show V2.cell? ⟨b9, 1, none⟩ = some (.slice A5 t.toks.length c5) from blk_cell (blk_below HKV.out BVX.out) 1)
        have m0 := cell_rule (show V2.cell? ⟨b7, 0, none⟩ = some (.slice A6 t.data.length c6) from blk_cell hKV2 0)
        have m1 := cell_rule (show V2.cell? ⟨b7, 1, none⟩ = some (.slice A7 t.toks.length c7) from blk_cell hKV2 1)
        have HF3 := Lib.hid hF3
        have HF4 := Lib.hid hF4
        have B2v := bl_refl V2
        have nb := HB9.out
        have n9 : w1.heap.size ≠ b9 := by omega
        have n9' : b9 ≠ w1.heap.size := by omega
        clear hbV2 hKV2 hF3 hF4 e0 e1 e2 gb nb
        go_wp2_with fail
        refine (same58 A4 A5 A6 A7 c4 c5 c6 c7 t t V2 (HF1.out.below BVX.out).self (HF2.out.below BVX.out).self HF3.out.self HF4.out.self true ⟨fun _ => ⟨rfl, rfl⟩, fun _ => rfl⟩).mono ?_
        rintro e wx ⟨rfl, hb⟩
        have Bx : Below V2.heap.size V2 wx := hb
        have BVX2 := Lib.hid (bl_trans BVX.out hb)
        clear hb B2v
        go_wp2
        go_roundg (L.length - (i + 1))
        case measure => have := HLT.out; omega
        case rel =>
          exact ⟨i + 1, t, A4, A5, c4, c5, HLT.out, by have := HLT.out; omega, by go_num, blk_put (blk_put (blk_below HK.out (bl_trans HBV.out BVX2.out)) 0 (.slice A4 t.data.length c4) rfl) 1 (.slice A5 t.toks.length c5) rfl, Ft.set (Ft.set ((HF1.out.below BVX2.out).mono (fun k hk _ => hk.1)) (fun h => h rfl)) (fun h => h rfl), HK1.out, Ft.set (Ft.set ((HF2.out.below BVX2.out).mono (fun k hk _ => hk.1)) (fun h => h rfl)) (fun h => h rfl), HK2.out, HN2.out, bl_set (bl_set (bl_trans HB.out (bl_trans HBV.out BVX2.out)) (Nat.le_refl _)) (Nat.le_refl _)⟩
      · have hh : howB x.b.kind = ⟨#[103]⟩ := by unfold howB; rw [hk]; rfl
        rw [hh]
        have hk2 : (x.b.kind == 1) = false := by rw [hk]; rfl
        have HH := Lib.hid hh
        clear hh hk
        go_wp2_with fail
        have p0 := cell_rule (q0 w6 B6)
        have p1 := cell_rule (q1 w6 B6)
        have e0 := cell_rule (u0 w6 B6)
        have e1 := cell_rule (u1 w6 B6)
        have e2 := cell_rule (u2 w6 B6)
        have FD2 := Lib.hid ((HF1.out.below B6).mono (fun k hk hl => (⟨hk.1, Nat.ne_of_lt hl⟩ : k ≠ w1.heap.size ∧ k ≠ w6.heap.size)))
        have FT2 := Lib.hid ((HF2.out.below B6).mono (fun k hk hl => (⟨hk.1, Nat.ne_of_lt hl⟩ : k ≠ w1.heap.size ∧ k ≠ w6.heap.size)))
        have HG4 := Lib.hid (show w1.heap.size < w6.heap.size from Nat.lt_of_lt_of_le HG3.out B6.size)
        have BC7 := Lib.hid B6
        have Bw7 := bl_refl w6
        clear B6 q0 q1 u0 u1 u2 g0 g1
        refine start_ (n := 12) (S := fun w' => w'.cell? ⟨b9, 0, none⟩ = some (.slice A4 t.data.length c4) ∧ w'.cell? ⟨b9, 1, none⟩ = some (.slice A5 t.toks.length c5) ∧ w'.cell? (ad.add (i * 3)) = some (.int .i64 x.b.kind) ∧ w'.cell? ⟨(ad.add (i * 3)).block, (ad.add (i * 3)).off + 1, none⟩ = some (.string x.b.tok) ∧ w'.cell? ⟨(ad.add (i * 3)).block, (ad.add (i * 3)).off + 2, none⟩ = some (.slice x.A x.b.ws.length x.c)) (ds := [10]) #[false, false, false, false, false, false, false, false, false, false, false, false] (by kernel_rfl) rfl rfl ⟨(p0 _ (bl_drew (bl_refl w6))), (p1 _ (bl_drew (bl_refl w6))), (e0 _ (bl_drew (bl_refl w6))), (e1 _ (bl_drew (bl_refl w6))), (e2 _ (bl_drew (bl_refl w6)))⟩ (fun hHeld => ?_)
        refine pure_ (i := 1) (N := some 94) (v := ?_) (a' := ?_) #[false, true, false, false, false, false, false, false, false, false, false, false] rfl rfl (by kernel_rfl) (fun _ _ _ h => h) (Or.inl ⟨by rfl, ?_⟩) ?_ ?_
        rotate_left
        · intro w'
          go_simp
          with_reducible rfl
        rotate_left
        · simp only [Act.put, List.setIfInBounds_toArray, List.set_cons_zero, List.set_cons_succ, i64_w, i32_w]
          rfl
        refine pure_ (i := 2) (N := some 95) (v := ?_) (a' := ?_) #[false, true, true, false, false, false, false, false, false, false, false, false] rfl rfl (by kernel_rfl) (fun _ _ _ h => h) (Or.inl ⟨by rfl, ?_⟩) ?_ ?_
        rotate_left
        · intro w'
          go_simp
          with_reducible rfl
        rotate_left
        · simp only [Act.put, List.setIfInBounds_toArray, List.set_cons_zero, List.set_cons_succ, i64_w, i32_w]
          rfl
        refine pure_ (i := 3) (N := some 96) (v := ?_) (a' := ?_) #[false, true, true, true, false, false, false, false, false, false, false, false] rfl rfl (by kernel_rfl) (fun _ _ _ h => h) (Or.inl ⟨by rfl, ?_⟩) ?_ ?_
        rotate_left
        · intro w'
          go_simp
          with_reducible rfl
        rotate_left
        · simp only [Act.put, List.setIfInBounds_toArray, List.set_cons_zero, List.set_cons_succ, i64_w, i32_w]
          rfl
        refine take_ (i := 0) (N := some 93) (v := ?_) (a' := ?_) #[true, true, true, true, false, false, false, false, false, false, false, false] rfl rfl (by kernel_rfl) (fun _ _ _ h => h) (Or.inl ⟨by rfl, ?_⟩) hHeld ?_ ?_
        rotate_left
        · rintro w' ⟨s0, s1, s2, s3, s4⟩
          go_simp
          with_reducible rfl
        rotate_left
        · simp only [Act.put, List.setIfInBounds_toArray, List.set_cons_zero, List.set_cons_succ, i64_w, i32_w]
          rfl
        refine take_ (i := 4) (N := some 97) (v := ?_) (a' := ?_) #[true, true, true, true, true, false, false, false, false, false, false, false] rfl rfl (by kernel_rfl) (fun _ _ _ h => h) (Or.inl ⟨by rfl, ?_⟩) hHeld ?_ ?_
        rotate_left
        · rintro w' ⟨s0, s1, s2, s3, s4⟩
          go_simp
          with_reducible rfl
        rotate_left
        · simp only [Act.put, List.setIfInBounds_toArray, List.set_cons_zero, List.set_cons_succ, i64_w, i32_w]
          rfl
        refine join_ (σ := Nat × Option Addr × Nat × Option Addr × Nat) 2 #[true, true, true, true, true, true, true, true, true, true, false, false] (fun p_ => [(98, .tuple #[.agg #[.slice p_.2.1 t.data.length p_.2.2.1, .slice p_.2.2.2.1 t.toks.length p_.2.2.2.2], .int .i64 8]), (12, .pointer (some ⟨p_.1, 0, none⟩)), (92, .tuple #[.agg #[.slice p_.2.1 t.data.length p_.2.2.1, .slice p_.2.2.2.1 t.toks.length p_.2.2.2.2], .int .i64 8]), (99, .agg #[.slice p_.2.1 t.data.length p_.2.2.1, .slice p_.2.2.2.1 t.toks.length p_.2.2.2.2]), (100, .int .i64 8)]) (fun p_ w' => (w'.cell? ⟨b9, 0, none⟩ = some (.slice A4 t.data.length c4) ∧ w'.cell? ⟨b9, 1, none⟩ = some (.slice A5 t.toks.length c5) ∧ w'.cell? (ad.add (i * 3)) = some (.int .i64 x.b.kind) ∧ w'.cell? ⟨(ad.add (i * 3)).block, (ad.add (i * 3)).off + 1, none⟩ = some (.string x.b.tok) ∧ w'.cell? ⟨(ad.add (i * 3)).block, (ad.add (i * 3)).off + 2, none⟩ = some (.slice x.A x.b.ws.length x.c)) ∧ Below w6.heap.size w6 w' ∧ w'.heap[p_.1]? = some (.cells #[.slice none 0 0, .slice none 0 0] 86 (0, 0)) ∧ w6.heap.size ≤ p_.1 ∧ Ft (fun k => k ≠ w1.heap.size ∧ k ≠ p_.1) w' (fun W => Kd.C kPr W p_.2.1 t.data.length t.data) ∧ t.data.length ≤ p_.2.2.1 ∧ Ft (fun k => k ≠ w1.heap.size ∧ k ≠ p_.1) w' (fun W => Kd.C kPr W p_.2.2.2.1 t.toks.length t.toks) ∧ t.toks.length ≤ p_.2.2.2.2) ?_ ?_
        rotate_left
        · intro hCont
          refine two_ (i := 5) (j := 9) (Ni := some 98) (Nj := some 12) #[true, true, true, true, true, true, false, false, false, false, false, false] #[true, true, true, true, true, false, false, false, false, true, false, false] rfl rfl rfl rfl (by kernel_rfl) (by decide) (by decide) (fun K hK => ?_) (fun K hK => ?_)
          · skip
            refine goes_ Try.func57 (by kernel_rfl) rfl #[.agg #[.slice A4 t.data.length c4, .slice A5 t.toks.length c5], .agg #[.int .i64 x.b.kind, .string x.b.tok, .slice x.A x.b.ws.length x.c]] (by rfl) rfl rfl (by simp only [List.map_toArray, List.map_cons, List.map_nil]; rfl) ?_
            with_reducible refine (do57 (fun k => k ≠ w1.heap.size ∧ k ≠ w6.heap.size) A4 A5 x.A c4 c5 x.c t t 8 x.b HD2.out _ (FD2.out.drew) HK1.out (FT2.out.drew) HK2.out (Kd.C_below HXW.out (bl_trans (bl_trans HBV.out BC7.out) (bl_drew (bl_refl w6)))) (by have := HN2.out; omega) (by have := HN2.out; omega)).mono ?_
            rintro e w8 ⟨A6, c6, A7, c7, rfl, hf1, hk1, hf2, hk2, hb0⟩
            refine ⟨_, rfl, ?_⟩
            have hb : Below w6.heap.size w6 w8 := bl_trans (bl_drew (bl_refl w6)) hb0
            refine hK.out _ _ ⟨(p0 _ hb), (p1 _ hb), (e0 _ hb), (e1 _ hb), (e2 _ hb)⟩ (fun hHeld => ?_)
            clear hK K
            refine norm_ (a' := ?_) ?_ ?_
            rotate_left
            · show Act.put _ (some 98) _ = _
              simp only [Act.put, List.setIfInBounds_toArray, List.set_cons_zero, List.set_cons_succ, i64_w, i32_w]
              rfl
            refine pure_ (i := 6) (N := some 92) (v := ?_) (a' := ?_) #[true, true, true, true, true, true, true, false, false, false, false, false] rfl rfl (by kernel_rfl) (fun _ _ _ h => h) (Or.inl ⟨by rfl, ?_⟩) ?_ ?_
            rotate_left
            · intro w'
              go_simp
              with_reducible rfl
            rotate_left
            · simp only [Act.put, List.setIfInBounds_toArray, List.set_cons_zero, List.set_cons_succ, i64_w, i32_w]
              rfl
            refine pure_ (i := 7) (N := some 99) (v := ?_) (a' := ?_) #[true, true, true, true, true, true, true, true, false, false, false, false] rfl rfl (by kernel_rfl) (fun _ _ _ h => h) (Or.inl ⟨by rfl, ?_⟩) ?_ ?_
            rotate_left
            · intro w'
              go_simp
              with_reducible rfl
            rotate_left
            · simp only [Act.put, List.setIfInBounds_toArray, List.set_cons_zero, List.set_cons_succ, i64_w, i32_w]
              rfl
            refine pure_ (i := 8) (N := some 100) (v := ?_) (a' := ?_) #[true, true, true, true, true, true, true, true, true, false, false, false] rfl rfl (by kernel_rfl) (fun _ _ _ h => h) (Or.inl ⟨by rfl, ?_⟩) ?_ ?_
            rotate_left
            · intro w'
              go_simp
              with_reducible rfl
            rotate_left
            · simp only [Act.put, List.setIfInBounds_toArray, List.set_cons_zero, List.set_cons_succ, i64_w, i32_w]
              rfl
            refine one_ (i := 9) (N := some 12) #[true, true, true, true, true, true, true, true, true, true, false, false] rfl rfl (by kernel_rfl) (by decide) (fun K hK => ?_)
            refine value_ (w1 := ?_) (v := ?_) (by rfl) rfl ?_ ?_
            rotate_left 2
            · go_simp
              constructor
              · rfl
              · rfl
            refine hK.out _ _ ⟨(p0 _ (bl_alloc _ hb)), (p1 _ (bl_alloc _ hb)), (e0 _ (bl_alloc _ hb)), (e1 _ (bl_alloc _ hb)), (e2 _ (bl_alloc _ hb))⟩ (fun hHeld => ?_)
            clear hK K
            refine norm_ (a' := ?_) ?_ ?_
            rotate_left
            · show Act.put _ (some 12) _ = _
              simp only [Act.put, List.setIfInBounds_toArray, List.set_cons_zero, List.set_cons_succ, i64_w, i32_w]
              rfl
            exact norm_ (by simp only [putAll, Act.put, List.setIfInBounds_toArray, List.set_cons_zero, List.set_cons_succ]) (hCont (w8.heap.size, A6, c6, A7, c7) _ ⟨⟨(p0 _ (bl_alloc _ hb)), (p1 _ (bl_alloc _ hb)), (e0 _ (bl_alloc _ hb)), (e1 _ (bl_alloc _ hb)), (e2 _ (bl_alloc _ hb))⟩, bl_alloc _ hb, blk_new w8 (.cells #[.slice none 0 0, .slice none 0 0] 86), hb.size, ((Ft.cut hf1).below (bl_alloc (.cells #[.slice none 0 0, .slice none 0 0] 86) (bl_refl w8))).mono (fun k hk _ => ⟨by rcases hk.1 with h | h; exact h.1.1; have := HG4.out; (try change w6.heap.size ≤ k at h); omega, Nat.ne_of_lt hk.2⟩), hk1, ((Ft.cut hf2).below (bl_alloc (.cells #[.slice none 0 0, .slice none 0 0] 86) (bl_refl w8))).mono (fun k hk _ => ⟨by rcases hk.1 with h | h; exact h.1.1; have := HG4.out; (try change w6.heap.size ≤ k at h); omega, Nat.ne_of_lt hk.2⟩), hk2⟩)
          · skip
            refine value_ (w1 := ?_) (v := ?_) (by rfl) rfl ?_ ?_
            rotate_left 2
            · go_simp
              constructor
              · rfl
              · rfl
            refine hK.out _ _ ⟨(p0 _ (bl_drew (bl_alloc _ (bl_refl w6)))), (p1 _ (bl_drew (bl_alloc _ (bl_refl w6)))), (e0 _ (bl_drew (bl_alloc _ (bl_refl w6)))), (e1 _ (bl_drew (bl_alloc _ (bl_refl w6)))), (e2 _ (bl_drew (bl_alloc _ (bl_refl w6))))⟩ (fun hHeld => ?_)
            clear hK K
            refine norm_ (a' := ?_) ?_ ?_
            rotate_left
            · show Act.put _ (some 12) _ = _
              simp only [Act.put, List.setIfInBounds_toArray, List.set_cons_zero, List.set_cons_succ, i64_w, i32_w]
              rfl
            refine one_ (i := 5) (N := some 98) #[true, true, true, true, true, true, false, false, false, true, false, false] rfl rfl (by kernel_rfl) (by decide) (fun K hK => ?_)
            refine goes_ Try.func57 (by kernel_rfl) rfl #[.agg #[.slice A4 t.data.length c4, .slice A5 t.toks.length c5], .agg #[.int .i64 x.b.kind, .string x.b.tok, .slice x.A x.b.ws.length x.c]] (by rfl) rfl rfl (by simp only [List.map_toArray, List.map_cons, List.map_nil]; rfl) ?_
            with_reducible refine (do57 (fun k => k ≠ w1.heap.size ∧ k ≠ w6.heap.size) A4 A5 x.A c4 c5 x.c t t 8 x.b HD2.out _ (FD2.out.below (bl_drew (bl_alloc _ (bl_refl w6)))) HK1.out (FT2.out.below (bl_drew (bl_alloc _ (bl_refl w6)))) HK2.out (Kd.C_below HXW.out (bl_trans (bl_trans HBV.out BC7.out) (bl_drew (bl_alloc _ (bl_refl w6))))) (by have := HN2.out; omega) (by have := HN2.out; omega)).mono ?_
            rintro e w8 ⟨A6, c6, A7, c7, rfl, hf1, hk1, hf2, hk2, hb0⟩
            refine ⟨_, rfl, ?_⟩
            have hb : Below w6.heap.size w6 w8 := bl_trans (bl_drew (bl_alloc _ (bl_refl w6))) hb0
            refine hK.out _ _ ⟨(p0 _ hb), (p1 _ hb), (e0 _ hb), (e1 _ hb), (e2 _ hb)⟩ (fun hHeld => ?_)
            clear hK K
            refine norm_ (a' := ?_) ?_ ?_
            rotate_left
            · show Act.put _ (some 98) _ = _
              simp only [Act.put, List.setIfInBounds_toArray, List.set_cons_zero, List.set_cons_succ, i64_w, i32_w]
              rfl
            refine pure_ (i := 6) (N := some 92) (v := ?_) (a' := ?_) #[true, true, true, true, true, true, true, false, false, true, false, false] rfl rfl (by kernel_rfl) (fun _ _ _ h => h) (Or.inl ⟨by rfl, ?_⟩) ?_ ?_
            rotate_left
            · intro w'
              go_simp
              with_reducible rfl
            rotate_left
            · simp only [Act.put, List.setIfInBounds_toArray, List.set_cons_zero, List.set_cons_succ, i64_w, i32_w]
              rfl
            refine pure_ (i := 7) (N := some 99) (v := ?_) (a' := ?_) #[true, true, true, true, true, true, true, true, false, true, false, false] rfl rfl (by kernel_rfl) (fun _ _ _ h => h) (Or.inl ⟨by rfl, ?_⟩) ?_ ?_
            rotate_left
            · intro w'
              go_simp
              with_reducible rfl
            rotate_left
            · simp only [Act.put, List.setIfInBounds_toArray, List.set_cons_zero, List.set_cons_succ, i64_w, i32_w]
              rfl
            refine pure_ (i := 8) (N := some 100) (v := ?_) (a' := ?_) #[true, true, true, true, true, true, true, true, true, true, false, false] rfl rfl (by kernel_rfl) (fun _ _ _ h => h) (Or.inl ⟨by rfl, ?_⟩) ?_ ?_
            rotate_left
            · intro w'
              go_simp
              with_reducible rfl
            rotate_left
            · simp only [Act.put, List.setIfInBounds_toArray, List.set_cons_zero, List.set_cons_succ, i64_w, i32_w]
              rfl
            exact norm_ (by simp only [putAll, Act.put, List.setIfInBounds_toArray, List.set_cons_zero, List.set_cons_succ]) (hCont (w6.heap.size, A6, c6, A7, c7) _ ⟨⟨(p0 _ hb), (p1 _ hb), (e0 _ hb), (e1 _ hb), (e2 _ hb)⟩, hb, blk_below (w := (w6.alloc (.cells #[.slice none 0 0, .slice none 0 0] 86)).drew) (blk_new w6 (.cells #[.slice none 0 0, .slice none 0 0] 86)) hb0, Nat.le_refl _, Ft.mono hf1 (fun k hk _ => by rcases hk with h | h; exact h.1; have := HG4.out; have h2 : w6.heap.size + 1 ≤ k := (by simpa using h); exact ⟨by omega, by omega⟩), hk1, Ft.mono hf2 (fun k hk _ => by rcases hk with h | h; exact h.1; have := HG4.out; have h2 : w6.heap.size + 1 ≤ k := (by simpa using h); exact ⟨by omega, by omega⟩), hk2⟩)
        rintro ⟨b7, A6, c6, A7, c7⟩ w9 ⟨hHeld, hb5, hK9, hb9, hf1, hk1, hf2, hk2⟩
        dsimp only at hK9 hb9 hf1 hk1 hf2 hk2
        have r9 := blk_cells hK9
        have z9 := blk_frz hK9
        have B9 := bl_refl w9
        refine norm_ (a' := ?_) ?_ ?_
        rotate_left
        · simp only [putAll, Act.put, List.setIfInBounds_toArray, List.set_cons_zero, List.set_cons_succ]
          rfl
        refine last_ (i := 10) (N := none) #[true, true, true, true, true, true, true, true, true, true, true, false] rfl rfl (by kernel_rfl) (by decide) (fun K hK => ?_)
        refine skip_ (w1 := ?_) (by rfl) rfl ?_ ?_
        rotate_left
        · go_simp
          rfl
        refine hK.out _ _ ?_
        clear hK K
        refine pure_ (i := 11) (N := some 13) (v := ?_) (a' := ?_) #[true, true, true, true, true, true, true, true, true, true, true, true] rfl rfl (by kernel_rfl) (fun _ _ _ h => h) (Or.inl ⟨by rfl, ?_⟩) ?_ ?_
        rotate_left
        · intro w'
          go_simp
          with_reducible rfl
        rotate_left
        · simp only [Act.put, List.setIfInBounds_toArray, List.set_cons_zero, List.set_cons_succ, i64_w, i32_w]
          rfl
        refine done_ (by kernel_rfl) ?_
        have hKV2 := blk_put (blk_put hK9 0 (.slice A6 t.data.length c6) rfl) 1 (.slice A7 t.toks.length c7) rfl
        have hbV2 := bl_set (g := b7) (j := 1) (u := .slice A7 t.toks.length c7) (bl_set (g := b7) (j := 0) (u := .slice A6 t.data.length c6) hb5 hb9) hb9
        have hF3 := Ft.set (g := b7) (j := 1) (u := .slice A7 t.toks.length c7) (Ft.set (g := b7) (j := 0) (u := .slice A6 t.data.length c6) hf1 (fun h => h.2 rfl)) (fun h => h.2 rfl)
        have hF4 := Ft.set (g := b7) (j := 1) (u := .slice A7 t.toks.length c7) (Ft.set (g := b7) (j := 0) (u := .slice A6 t.data.length c6) hf2 (fun h => h.2 rfl)) (fun h => h.2 rfl)
        generalize ((w9.setCell ⟨b7, 0, none⟩ (.slice A6 t.data.length c6)).setCell ⟨b7, 1, none⟩ (.slice A7 t.toks.length c7)) = V2 at hKV2 hbV2 hF3 hF4 ⊢
        clear hK9 r9 z9 B9 hb5 hf1 hf2
        have BVX := Lib.hid (bl_trans BC7.out (hbV2.mono (Nat.le_refl _)))
        have gb := blk_below HK.out (bl_trans HBV.out BVX.out)
        have g0 := cell_rule (show V2.cell? ⟨w1.heap.size, 0, none⟩ = some (.slice A1 s.data.length c1) from blk_cell gb 0)
        have g1 := cell_rule (show V2.cell? ⟨w1.heap.size, 1, none⟩ = some (.slice A2 s.toks.length c2) from blk_cell gb 1)
        have gz := blk_frz gb
        have p0 := cell_rule (show V2.cell? ⟨b9, 0, none⟩ = some (.slice A4 t.data.length c4) from blk_cell (blk_below HKV.out BVX.out) 0)
        have p1 := cell_rule (show V2.cell? ⟨b9, 1, none⟩ = some (.slice A5 t.toks.length c5) from blk_cell (blk_below HKV.out BVX.out) 1)
        have m0 := cell_rule (show V2.cell? ⟨b7, 0, none⟩ = some (.slice A6 t.data.length c6) from blk_cell hKV2 0)
        have m1 := cell_rule (show V2.cell? ⟨b7, 1, none⟩ = some (.slice A7 t.toks.length c7) from blk_cell hKV2 1)
        have HF3 := Lib.hid hF3
        have HF4 := Lib.hid hF4
        have B2v := bl_refl V2
        have nb := HB9.out
        have n9 : w1.heap.size ≠ b9 := by omega
        have n9' : b9 ≠ w1.heap.size := by omega
        clear hbV2 hKV2 hF3 hF4 e0 e1 e2 gb nb
        go_wp2_with fail
        refine (same58 A4 A5 A6 A7 c4 c5 c6 c7 t t V2 (HF1.out.below BVX.out).self (HF2.out.below BVX.out).self HF3.out.self HF4.out.self true ⟨fun _ => ⟨rfl, rfl⟩, fun _ => rfl⟩).mono ?_
        rintro e wx ⟨rfl, hb⟩
        have Bx : Below V2.heap.size V2 wx := hb
        have BVX2 := Lib.hid (bl_trans BVX.out hb)
        clear hb B2v
        go_wp2
        go_roundg (L.length - (i + 1))
        case measure => have := HLT.out; omega
        case rel =>
          exact ⟨i + 1, t, A4, A5, c4, c5, HLT.out, by have := HLT.out; omega, by go_num, blk_put (blk_put (blk_below HK.out (bl_trans HBV.out BVX2.out)) 0 (.slice A4 t.data.length c4) rfl) 1 (.slice A5 t.toks.length c5) rfl, Ft.set (Ft.set ((HF1.out.below BVX2.out).mono (fun k hk _ => hk.1)) (fun h => h rfl)) (fun h => h rfl), HK1.out, Ft.set (Ft.set ((HF2.out.below BVX2.out).mono (fun k hk _ => hk.1)) (fun h => h rfl)) (fun h => h rfl), HK2.out, HN2.out, bl_set (bl_set (bl_trans HB.out (bl_trans HBV.out BVX2.out)) (Nat.le_refl _)) (Nat.le_refl _)⟩
end Go.Proofs.Ytkcebmamohimoaa
