/- A batch's bytes, the program's. -/
import Derived.Test.YtkcebmamohimoaaB2
import Derived.Test.YtkcebmamohimoaaWLast
namespace Go.Proofs.Ytkcebmamohimoaa
open Go.RowKit Go.Proofs.YtkcebmamohimoaaW.PrintWords Go.Proofs.YtkcebmamohimoaaW.PrintLast
set_option linter.unusedVariables false
set_option linter.unusedSimpArgs false
def Wr.L (x : Wr) : Bs := numL (if x.del = true then 1 else 0) ++ textL x.key.data.toList ++ textL x.val.data.toList
def Bt.pre (b : Bt) : Bs := numL b.kind.toNat ++ textL b.tok.data.toList ++ numL b.ws.length
def Bt.bytes (b : Bt) : Bs := b.pre ++ b.ws.flatMap Wr.L
theorem odd_f {x : Wr} (h : x.odd = false) : 1 ≤ x.key.size ∧ x.key.size ≤ 32 ∧ x.val.size ≤ 64 ∧ (x.del = true → x.val.toList = []) := by
  unfold Wr.odd at h
  simp only [Bool.or_eq_false_iff, decide_eq_false_iff_not, Bool.and_eq_false_iff, Bool.not_eq_false'] at h
  obtain ⟨⟨⟨h1, h2⟩, h3⟩, h4⟩ := h
  refine ⟨by omega, by omega, by omega, fun hd => ?_⟩
  rcases h4 with h4 | h4
  · rw [hd] at h4; cases h4
  · exact List.isEmpty_iff.1 h4
structure MayOk (b : Bt) : Prop where
  kind : b.kind = 1 ∨ b.kind = 2
  tok : 1 ≤ b.tok.size ∧ b.tok.size ≤ 16
  len : b.ws.length ≤ 24
  none2 : b.kind = 2 → b.ws = []
  rises : risesB b.ws = true
  fine : ∀ x ∈ b.ws, x.odd = false
theorem may_ok {b : Bt} (h : b.may = true) : MayOk b := by
  unfold Bt.may Bt.head at h
  simp only [Bool.and_eq_true, Bool.or_eq_true, decide_eq_true_eq, beq_iff_eq, Bool.not_eq_true', Bool.and_eq_false_iff, beq_eq_false_iff_ne, decide_eq_false_iff_not] at h
  obtain ⟨⟨⟨⟨⟨⟨h1, h2⟩, h3⟩, h4⟩, h5⟩, h6⟩, h7⟩ := h
  refine ⟨h1, ⟨h2, h3⟩, h4, fun hk => ?_, h6, fun x hx => ?_⟩
  · rcases h5 with h5 | h5
    · exact absurd hk h5
    · exact List.length_eq_zero_iff.1 (by omega)
  · cases ho : x.odd with
    | false => rfl
    | true => rw [List.any_eq_false] at h7; exact absurd ho (h7 x hx)
theorem bS_size (l : Bs) : (bS l).size = l.length := by rw [size_len, bS_toList]
theorem textL_len (t : Bs) (h : t.length < big) : (textL t).length ≤ 21 + t.length := by unfold textL; rw [List.length_append]; have := numL_len t.length h; omega
theorem wrL_len {x : Wr} (h : x.odd = false) : x.L.length ≤ 200 := by
  obtain ⟨_, h1, h2, _⟩ := odd_f h
  unfold Wr.L
  rw [size_len] at h1 h2
  have a := numL_len (if x.del = true then 1 else 0) (by split <;> decide)
  have b := textL_len x.key.data.toList (by unfold big; omega)
  have c := textL_len x.val.data.toList (by unfold big; omega)
  rw [List.length_append, List.length_append]
  omega
theorem flat_len (l : List Wr) (h : ∀ x ∈ l, x.odd = false) : (l.flatMap Wr.L).length ≤ 200 * l.length := by
  induction l with
  | nil => simp
  | cons x t ih =>
    rw [List.flatMap_cons, List.length_append, List.length_cons]
    have := wrL_len (h x (by simp))
    have := ih (fun y hy => h y (by simp [hy]))
    omega
theorem pre_len {b : Bt} (h : MayOk b) : b.pre.length ≤ 100 := by
  unfold Bt.pre
  have h1 := h.tok.2
  have h2 := h.len
  rw [size_len] at h1
  have a := numL_len b.kind.toNat (by rcases h.kind with e | e <;> rw [e] <;> decide)
  have c := textL_len b.tok.data.toList (by unfold big; omega)
  have d := numL_len b.ws.length (by unfold big; omega)
  rw [List.length_append, List.length_append]
  omega
theorem flat_snoc (l : List Wr) (i : Nat) (h : i < l.length) : (l.take (i + 1)).flatMap Wr.L = (l.take i).flatMap Wr.L ++ l[i]!.L := by
  rw [List.take_succ_eq_append_getElem h, List.flatMap_append, getElem!_pos l i h]; simp
theorem bcells_app (l : Bs) (m : Bs) : Lib.byteCells l ++ Lib.strCells (bS m) = Lib.byteCells (l ++ m) := by unfold Lib.byteCells Lib.strCells; rw [List.map_append]; rfl
theorem BuilderAt_below {T e : TypeId} {B b : Nat} {p : Value} {bs : List Value} {w w1 : World} (h : Lib.BuilderAt T e B b p bs w) (hb : Below w.heap.size w w1) : Lib.BuilderAt T e B b p bs w1 := by
  have hlt := h.lt
  obtain ⟨hB, v, hk, ho, hn⟩ := h
  exact ⟨hB, v, (hb.block b hlt).trans hk, pw_own_below ho hb, hn⟩
theorem IsBuilder_below {T e : TypeId} {B b : Nat} {bs : List Value} {w w1 : World} (h : Lib.IsBuilder T e B b bs w) (hb : Below w.heap.size w w1) : Lib.IsBuilder T e B b bs w1 := h.elim (fun h => .inl (BuilderAt_below h hb)) (fun h => .inr (BuilderAt_below h hb))
theorem isB_of {T e : TypeId} {B b : Nat} {bs : List Value} {w : World} (h : Lib.BuilderAt T e B b (.pointer (some ⟨b, 0, none⟩)) bs w) : Lib.IsBuilder T e B b bs w := Or.inr h
theorem bl_low {a w w1 : World} {B : Nat} (h : Below a.heap.size a w) (h1 : Below B w w1) (hB : a.heap.size ≤ B) : Below a.heap.size a w1 := h.trans (h1.mono hB)
attribute [local go_sem] bl_refl bl_alloc bl_drew bl_drewN bS_app bS_size
set_option maxHeartbeats 16000000 in
set_option maxRecDepth 100000 in
theorem yes29 (A : Option Addr) (c : Nat) (k : Nat) (tok : ByteArray) (ws : List Wr) (w : World) (h : Kd.C kWr w A ws.length ws) (hm : (⟨(k : Int), tok, ws⟩ : Bt).may = true) :
    Calls Try.prog 29 #[.agg #[.int .i64 (k : Int), .string tok, .slice A ws.length c]] w fun e w' => e = .returned (.tuple #[.string (bS (⟨(k : Int), tok, ws⟩ : Bt).bytes), .int .i64 0]) ∧ Below w.heap.size w w' := by
  have ok := may_ok hm
  have hpl := pre_len ok
  have hk : k < big := by rcases ok.kind with e | e <;> (have e' : (k : Int) = _ := e; unfold big; omega)
  have htok := ok.tok.2
  have hlen := ok.len
  simp only [] at htok hlen
  have hwk : IntKind.u64.wrap (k : Int) = (k : Int) := IntWalk.u64_in _ (And.intro (by omega) (by unfold big at hk; omega))
  have hwl : IntKind.u64.wrap (ws.length : Int) = (ws.length : Int) := IntWalk.u64_in _ (And.intro (by omega) (by omega))
  obtain ⟨n1, hn1⟩ : ∃ n1, numL k = n1 := ⟨_, rfl⟩
  obtain ⟨t1, ht1⟩ : ∃ t1, textL tok.data.toList = t1 := ⟨_, rfl⟩
  obtain ⟨n2, hn2⟩ : ∃ n2, numL ws.length = n2 := ⟨_, rfl⟩
  have hpre : (⟨(k : Int), tok, ws⟩ : Bt).pre = n1 ++ t1 ++ n2 := by unfold Bt.pre; rw [← hn1, ← ht1, ← hn2]; rfl
  have c1 := fun w => num91 k hk w
  have c2 := fun w => text92 tok (by omega) w
  have c3 := fun w => num91 ws.length (by unfold big; omega) w
  rw [hn1] at c1
  rw [ht1] at c2
  rw [hn2] at c3
  have C1 := Lib.hid c1
  have C2 := Lib.hid c2
  have C3 := Lib.hid c3
  rw [hpre] at hpl
  rw [List.length_append, List.length_append] at hpl
  have hs1 : n1.length + t1.length ≤ 9223372036854775807 := by omega
  have hs2 : n1.length + t1.length + n2.length ≤ 9223372036854775807 := by omega
  have hs3 := eq_false (Nat.not_lt.2 hs1)
  have hs4 := eq_false (Nat.not_lt.2 hs2)
  have HPL := Lib.hid hpl
  have HPRE := Lib.hid hpre
  have OK := Lib.hid ok
  have HM := Lib.hid hm
  have HC0 := Lib.hid h
  obtain ⟨W, hW, K1, HW, hs⟩ := boxes1 w #[.int .i64 (k : Int), .string tok, .slice A ws.length c] 50
  have HC := Lib.hid (Kd.C_below h HW)
  have r0 := blk_cells K1
  have HK := Lib.hid K1
  have HWB := Lib.hid HW
  have HSZ := Lib.hid hs
  have HWW := Lib.hid hW
  have B0 := bl_refl W
  clear hW K1 HW hs h hm ok hpl hpre hn1 hn2 ht1 c1 c2 c3 hk htok hlen
  go_enter Try.func29, Try.ntmps29
  go_wp2_with fail
  rw [HWW.out]
  refine (may34 A c ⟨(k : Int), tok, ws⟩ W HC.out).mono ?_
  rintro e w1 ⟨rfl, hb⟩
  rw [HM.out]
  have K1 := blk_below HK.out hb
  have HWB1 := Lib.hid (bl_trans HWB.out hb)
  have HC1 := Lib.hid (Kd.C_below HC.out hb)
  have r1 := blk_cells K1
  have HIS := Lib.hid (show Lib.IsBuilder 140 5 w1.heap.size w1.heap.size (Lib.byteCells []) (w1.alloc (.cells #[.pointer none, .slice none 0 0] 140)) from Lib.fresh_isBuilder 140 5 w1)
  have B1 := bl_refl w1
  clear hb K1 r0 B0 HC HK HWB HC0
  go_wp2
  refine start_ (n := 15) (S := fun w' => w'.cell? ⟨w.heap.size, 0, none⟩ = some (.int .i64 (k : Int)) ∧ w'.cell? ⟨w.heap.size, 1, none⟩ = some (.string tok) ∧ w'.cell? ⟨w.heap.size, 2, none⟩ = some (.slice A ws.length c)) (ds := []) #[false, false, false, false, false, false, false, false, false, false, false, false, false, false, false] (by kernel_rfl) rfl rfl ⟨(r1 _ 0 (bl_drew (bl_alloc _ (bl_refl w1)))), (r1 _ 1 (bl_drew (bl_alloc _ (bl_refl w1)))), (r1 _ 2 (bl_drew (bl_alloc _ (bl_refl w1))))⟩ (fun hHeld => ?_)
  refine pure_ (i := 0) (N := some 11) (v := ?_) (a' := ?_) #[true, false, false, false, false, false, false, false, false, false, false, false, false, false, false] rfl rfl (by kernel_rfl) (fun _ _ _ h => h) (Or.inl ⟨by rfl, ?_⟩) ?_ ?_
  rotate_left
  · intro w'
    go_simp
    with_reducible rfl
  rotate_left
  · simp only [Act.put, List.setIfInBounds_toArray, List.set_cons_zero, List.set_cons_succ, i64_w, i32_w]
    rfl
  refine pure_ (i := 4) (N := some 15) (v := ?_) (a' := ?_) #[true, false, false, false, true, false, false, false, false, false, false, false, false, false, false] rfl rfl (by kernel_rfl) (fun _ _ _ h => h) (Or.inl ⟨by rfl, ?_⟩) ?_ ?_
  rotate_left
  · intro w'
    go_simp
    with_reducible rfl
  rotate_left
  · simp only [Act.put, List.setIfInBounds_toArray, List.set_cons_zero, List.set_cons_succ, i64_w, i32_w]
    rfl
  refine pure_ (i := 8) (N := some 19) (v := ?_) (a' := ?_) #[true, false, false, false, true, false, false, false, true, false, false, false, false, false, false] rfl rfl (by kernel_rfl) (fun _ _ _ h => h) (Or.inl ⟨by rfl, ?_⟩) ?_ ?_
  rotate_left
  · intro w'
    go_simp
    with_reducible rfl
  rotate_left
  · simp only [Act.put, List.setIfInBounds_toArray, List.set_cons_zero, List.set_cons_succ, i64_w, i32_w]
    rfl
  refine take_ (i := 1) (N := some 12) (v := ?_) (a' := ?_) #[true, true, false, false, true, false, false, false, true, false, false, false, false, false, false] rfl rfl (by kernel_rfl) (fun _ _ _ h => h) (Or.inl ⟨by rfl, ?_⟩) hHeld ?_ ?_
  rotate_left
  · rintro w' ⟨s0, s1, s2⟩
    go_simp
    with_reducible rfl
  rotate_left
  · simp only [Act.put, List.setIfInBounds_toArray, List.set_cons_zero, List.set_cons_succ, i64_w, i32_w]
    rfl
  refine pure_ (i := 2) (N := some 13) (v := ?_) (a' := ?_) #[true, true, true, false, true, false, false, false, true, false, false, false, false, false, false] rfl rfl (by kernel_rfl) (fun _ _ _ h => h) (Or.inl ⟨by rfl, ?_⟩) ?_ ?_
  rotate_left
  · intro w'
    go_simp
    with_reducible rfl
  rotate_left
  · simp only [Act.put, List.setIfInBounds_toArray, List.set_cons_zero, List.set_cons_succ, i64_w, i32_w]
    rfl
  refine take_ (i := 5) (N := some 16) (v := ?_) (a' := ?_) #[true, true, true, false, true, true, false, false, true, false, false, false, false, false, false] rfl rfl (by kernel_rfl) (fun _ _ _ h => h) (Or.inl ⟨by rfl, ?_⟩) hHeld ?_ ?_
  rotate_left
  · rintro w' ⟨s0, s1, s2⟩
    go_simp
    with_reducible rfl
  rotate_left
  · simp only [Act.put, List.setIfInBounds_toArray, List.set_cons_zero, List.set_cons_succ, i64_w, i32_w]
    rfl
  refine take_ (i := 9) (N := some 20) (v := ?_) (a' := ?_) #[true, true, true, false, true, true, false, false, true, true, false, false, false, false, false] rfl rfl (by kernel_rfl) (fun _ _ _ h => h) (Or.inl ⟨by rfl, ?_⟩) hHeld ?_ ?_
  rotate_left
  · rintro w' ⟨s0, s1, s2⟩
    go_simp
    with_reducible rfl
  rotate_left
  · simp only [Act.put, List.setIfInBounds_toArray, List.set_cons_zero, List.set_cons_succ, i64_w, i32_w]
    rfl
  refine pure_ (i := 10) (N := some 21) (v := ?_) (a' := ?_) #[true, true, true, false, true, true, false, false, true, true, true, false, false, false, false] rfl rfl (by kernel_rfl) (fun _ _ _ h => h) (Or.inl ⟨by rfl, ?_⟩) ?_ ?_
  rotate_left
  · intro w'
    go_simp
    with_reducible rfl
  rotate_left
  · simp only [Act.put, List.setIfInBounds_toArray, List.set_cons_zero, List.set_cons_succ, i64_w, i32_w]
    rfl
  refine pure_ (i := 11) (N := some 22) (v := ?_) (a' := ?_) #[true, true, true, false, true, true, false, false, true, true, true, true, false, false, false] rfl rfl (by kernel_rfl) (fun _ _ _ h => h) (Or.inl ⟨by rfl, ?_⟩) ?_ ?_
  rotate_left
  · intro w'
    go_simp
    with_reducible rfl
  rotate_left
  · simp only [Act.put, List.setIfInBounds_toArray, List.set_cons_zero, List.set_cons_succ, i64_w, i32_w]
    rfl
  refine one_ (i := 3) (N := some 14) #[true, true, true, true, true, true, false, false, true, true, true, true, false, false, false] rfl rfl (by kernel_rfl) (by decide) (fun K hK => ?_)
  refine goes_ Try.func91 (by kernel_rfl) rfl #[.int .u64 (k : Int)] (by rfl) rfl rfl (by simp only [List.map_toArray, List.map_cons, List.map_nil]; rfl) ?_
  with_reducible refine (C1.out _).mono ?_
  rintro e w2 ⟨rfl, hb⟩
  refine ⟨_, rfl, ?_⟩
  have E2 : Below w1.heap.size w1 w2 := bl_trans (bl_drew (bl_alloc _ (bl_refl w1))) hb
  have HI2 := Lib.hid (IsBuilder_below HIS.out (Below.trans (bl_drew (bl_refl (w1.alloc (.cells #[.pointer none, .slice none 0 0] 140)))) (hb.mono (Nat.le_refl _))))
  clear hb
  refine hK.out _ _ ⟨(r1 _ 0 E2), (r1 _ 1 E2), (r1 _ 2 E2)⟩ (fun hHeld => ?_)
  clear hK K
  refine norm_ (a' := ?_) ?_ ?_
  rotate_left
  · show Act.put _ (some 14) _ = _
    simp only [Act.put, List.setIfInBounds_toArray, List.set_cons_zero, List.set_cons_succ, i64_w, i32_w]
    rfl
  refine one_ (i := 6) (N := some 17) #[true, true, true, true, true, true, true, false, true, true, true, true, false, false, false] rfl rfl (by kernel_rfl) (by decide) (fun K hK => ?_)
  refine goes_ Try.func92 (by kernel_rfl) rfl #[.string tok] (by rfl) rfl rfl (by simp only [List.map_toArray, List.map_cons, List.map_nil]; rfl) ?_
  with_reducible refine (C2.out _).mono ?_
  rintro e w3 ⟨rfl, hb⟩
  refine ⟨_, rfl, ?_⟩
  have E3 : Below w1.heap.size w1 w3 := bl_trans E2 hb
  have HI3 := Lib.hid (IsBuilder_below HI2.out hb)
  clear hb
  refine hK.out _ _ ⟨(r1 _ 0 E3), (r1 _ 1 E3), (r1 _ 2 E3)⟩ (fun hHeld => ?_)
  clear hK K
  refine norm_ (a' := ?_) ?_ ?_
  rotate_left
  · show Act.put _ (some 17) _ = _
    simp only [Act.put, List.setIfInBounds_toArray, List.set_cons_zero, List.set_cons_succ, i64_w, i32_w]
    rfl
  refine pure_ (i := 7) (N := some 18) (v := ?_) (a' := ?_) #[true, true, true, true, true, true, true, true, true, true, true, true, false, false, false] rfl rfl (by kernel_rfl) (fun _ _ _ h => h) (Or.inl ⟨by rfl, ?_⟩) ?_ ?_
  rotate_left
  · intro w'
    go_simp
    with_reducible rfl
  rotate_left
  · simp only [Act.put, List.setIfInBounds_toArray, List.set_cons_zero, List.set_cons_succ, i64_w, i32_w]
    rfl
  refine one_ (i := 12) (N := some 23) #[true, true, true, true, true, true, true, true, true, true, true, true, true, false, false] rfl rfl (by kernel_rfl) (by decide) (fun K hK => ?_)
  refine goes_ Try.func91 (by kernel_rfl) rfl #[.int .u64 (ws.length : Int)] (by rfl) rfl rfl (by simp only [List.map_toArray, List.map_cons, List.map_nil]; rfl) ?_
  with_reducible refine (C3.out _).mono ?_
  rintro e w4 ⟨rfl, hb⟩
  refine ⟨_, rfl, ?_⟩
  have E4 : Below w1.heap.size w1 w4 := bl_trans E3 hb
  have HI4 := Lib.hid (IsBuilder_below HI3.out hb)
  clear hb
  refine hK.out _ _ ⟨(r1 _ 0 E4), (r1 _ 1 E4), (r1 _ 2 E4)⟩ (fun hHeld => ?_)
  clear hK K
  refine norm_ (a' := ?_) ?_ ?_
  rotate_left
  · show Act.put _ (some 23) _ = _
    simp only [Act.put, List.setIfInBounds_toArray, List.set_cons_zero, List.set_cons_succ, i64_w, i32_w]
    rfl
  refine pure_ (i := 13) (N := some 24) (v := ?_) (a' := ?_) #[true, true, true, true, true, true, true, true, true, true, true, true, true, true, false] rfl rfl (by kernel_rfl) (fun _ _ _ h => h) (Or.inl ⟨by rfl, ?_⟩) ?_ ?_
  rotate_left
  · intro w'
    go_simp
    with_reducible rfl
  rotate_left
  · simp only [Act.put, List.setIfInBounds_toArray, List.set_cons_zero, List.set_cons_succ, i64_w, i32_w]
    rfl
  refine one_ (i := 14) (N := some 25) #[true, true, true, true, true, true, true, true, true, true, true, true, true, true, true] rfl rfl (by kernel_rfl) (by decide) (fun K hK => ?_)
  refine goes_ Try.func90 (by kernel_rfl) rfl #[.pointer (some ⟨w1.heap.size, 0, none⟩), .string (bS (n1 ++ (t1 ++ n2)))] (by rfl) rfl rfl (by simp only [List.map_toArray, List.map_cons, List.map_nil]; rfl) ?_
  with_reducible refine (write90 w1.heap.size w1.heap.size (Lib.byteCells []) (bS (n1 ++ (t1 ++ n2))) w4 HI4.out (by rw [bS_size, List.length_append, List.length_append]; have := HPL.out; simp [Lib.byteCells]; omega) E4.size).mono ?_
  rintro e w5 ⟨rfl, hbd, hb⟩
  refine ⟨_, rfl, ?_⟩
  have E5 : Below w1.heap.size w1 w5 := bl_low E4 hb (Nat.le_refl _)
  rw [bcells_app, List.nil_append, ← List.append_assoc] at hbd
  have HBD := Lib.hid hbd
  clear hb hbd
  refine hK.out _ _ ⟨(r1 _ 0 E5), (r1 _ 1 E5), (r1 _ 2 E5)⟩ (fun hHeld => ?_)
  clear hK K
  refine norm_ (a' := ?_) ?_ ?_
  rotate_left
  · show Act.put _ (some 25) _ = _
    simp only [Act.put, List.setIfInBounds_toArray, List.set_cons_zero, List.set_cons_succ, i64_w, i32_w]
    rfl
  refine done_ (by kernel_rfl) ?_
  clear E2 E3 E4 hs1 hs2 hs3 hs4 hwk
  go_wp2
  go_loopg [29] ws.length (fun gg s29 wr => ∃ i : Nat, i ≤ ws.length ∧ ws.length - i ≤ gg ∧ s29 = .int .i64 i ∧ Hid (Lib.BuilderAt 140 5 w1.heap.size w1.heap.size (.pointer (some ⟨w1.heap.size, 0, none⟩)) (Lib.byteCells (n1 ++ t1 ++ n2 ++ (ws.take i).flatMap Wr.L)) wr) ∧ Hid (Below w1.heap.size w1 wr))
  case atStart => exact ⟨0, Nat.zero_le _, by omega, rfl, (by rw [List.take_zero, List.flatMap_nil, List.append_nil]; exact HBD.out), E5⟩
  case round =>
    obtain ⟨i, hi, hgg, rfl, HBR, HB⟩ := hrel
    clear E5 HBD
    have Bw : Below w1.heap.size w1 wr := HB.out
    have Br := bl_refl wr
    have hl24 : ws.length ≤ 24 := OK.out.len
    by_cases hlt : i < ws.length
    · have hltz : (i : Int) < (ws.length : Int) := by omega
      have hi0 : (0 : Int) ≤ (i : Int) := by omega
      obtain ⟨x, hx⟩ : ∃ x, ws[i]! = x := ⟨_, rfl⟩
      have hodd : x.odd = false := by rw [← hx, getElem!_pos ws i hlt]; exact OK.out.fine _ (List.getElem_mem hlt)
      obtain ⟨ad, rfl, x0, x1, x2⟩ := Wr.at (Kd.C_below HC1.out Bw) i hlt
      rw [hx] at x0 x1 x2
      have p0 := cell_rule x0
      have p1 := cell_rule x1
      have p2 := cell_rule x2
      obtain ⟨_, hks, hvs, _⟩ := odd_f hodd
      obtain ⟨t2, ht2⟩ : ∃ t2, textL x.key.data.toList = t2 := ⟨_, rfl⟩
      obtain ⟨t3, ht3⟩ : ∃ t3, textL x.val.data.toList = t3 := ⟨_, rfl⟩
      have hwl3 := wrL_len hodd
      have hfl := flat_len (ws.take i) (fun y hy => OK.out.fine y (List.mem_of_mem_take hy))
      have d2 := fun w => text92 x.key (by omega) w
      have d3 := fun w => text92 x.val (by omega) w
      rw [ht2] at d2
      rw [ht3] at d3
      have D2 := Lib.hid d2
      have D3 := Lib.hid d3
      have HLT := Lib.hid hlt
      have HFS := Lib.hid (flat_snoc ws i hlt)
      have HX := Lib.hid hx
      have HFL := Lib.hid (show (n1 ++ t1 ++ n2 ++ (ws.take i).flatMap Wr.L).length ≤ 100 + 200 * 24 by
        have := HPL.out
        have := OK.out.len
        simp only [] at this
        rw [List.length_append, List.length_append, List.length_append]
        rw [List.length_take] at hfl
        omega)
      clear x0 x1 x2 hodd d2 d3 hks hvs hx hlt hfl
      cases hd : x.del with
      | false =>
        rw [hd] at p2
        have hL : x.L = numL 0 ++ t2 ++ t3 := by unfold Wr.L; rw [hd, ht2, ht3]; rfl
        rw [hL] at hwl3
        obtain ⟨n0, hn0⟩ : ∃ n0, numL 0 = n0 := ⟨_, rfl⟩
        rw [hn0] at hL hwl3
        have d1 : ∀ w, Calls Try.prog 91 #[.int .u64 0] w _ := fun w => num91 0 (by decide) w
        rw [hn0] at d1
        have D1 := Lib.hid d1
        rw [List.length_append, List.length_append] at hwl3
        have hs1 : n0.length + t2.length ≤ 9223372036854775807 := by omega
        have hs2 : n0.length + t2.length + t3.length ≤ 9223372036854775807 := by omega
        have hs3 := eq_false (Nat.not_lt.2 hs1)
        have hs4 := eq_false (Nat.not_lt.2 hs2)
        have HLW := Lib.hid hL
        have HWL := Lib.hid hwl3
        have KX := blk_new wr (.cells #[.string x.key, .string x.val, .bool false] 127)
        have q0 := blk_cells KX
        have HBA := Lib.hid (BuilderAt_below HBR.out (bl_alloc (.cells #[.string x.key, .string x.val, .bool false] 127) (bl_refl wr)))
        obtain ⟨V, hV⟩ : ∃ V, wr.alloc (.cells #[.string x.key, .string x.val, .bool false] 127) = V := ⟨_, rfl⟩
        rw [hV] at KX q0 HBA
        have HBV := Lib.hid (show Below w1.heap.size w1 V from hV ▸ bl_alloc _ HB.out)
        have BV := bl_refl V
        have HVV := Lib.hid hV
        clear hd hL ht2 ht3 hn0 d1 hwl3 KX hV
        go_wp2
        rw [HVV.out]
        refine start_ (n := 11) (S := fun w' => w'.cell? ⟨wr.heap.size, 0, none⟩ = some (.string x.key) ∧ w'.cell? ⟨wr.heap.size, 1, none⟩ = some (.string x.val) ∧ w'.cell? ⟨wr.heap.size, 2, none⟩ = some (.bool false)) (ds := [10]) #[false, false, false, false, false, false, false, false, false, false, false] (by kernel_rfl) rfl rfl ⟨(q0 _ 0 (bl_drew (bl_refl V))), (q0 _ 1 (bl_drew (bl_refl V))), (q0 _ 2 (bl_drew (bl_refl V)))⟩ (fun hHeld => ?_)
        refine pure_ (i := 0) (N := some 35) (v := ?_) (a' := ?_) #[true, false, false, false, false, false, false, false, false, false, false] rfl rfl (by kernel_rfl) (fun _ _ _ h => h) (Or.inl ⟨by rfl, ?_⟩) ?_ ?_
        rotate_left
        · intro w'
          go_simp
          with_reducible rfl
        rotate_left
        · simp only [Act.put, List.setIfInBounds_toArray, List.set_cons_zero, List.set_cons_succ, i64_w, i32_w]
          rfl
        refine pure_ (i := 2) (N := some 37) (v := ?_) (a' := ?_) #[true, false, true, false, false, false, false, false, false, false, false] rfl rfl (by kernel_rfl) (fun _ _ _ h => h) (Or.inl ⟨by rfl, ?_⟩) ?_ ?_
        rotate_left
        · intro w'
          go_simp
          with_reducible rfl
        rotate_left
        · simp only [Act.put, List.setIfInBounds_toArray, List.set_cons_zero, List.set_cons_succ, i64_w, i32_w]
          rfl
        refine pure_ (i := 6) (N := some 41) (v := ?_) (a' := ?_) #[true, false, true, false, false, false, true, false, false, false, false] rfl rfl (by kernel_rfl) (fun _ _ _ h => h) (Or.inl ⟨by rfl, ?_⟩) ?_ ?_
        rotate_left
        · intro w'
          go_simp
          with_reducible rfl
        rotate_left
        · simp only [Act.put, List.setIfInBounds_toArray, List.set_cons_zero, List.set_cons_succ, i64_w, i32_w]
          rfl
        refine take_ (i := 3) (N := some 38) (v := ?_) (a' := ?_) #[true, false, true, true, false, false, true, false, false, false, false] rfl rfl (by kernel_rfl) (fun _ _ _ h => h) (Or.inl ⟨by rfl, ?_⟩) hHeld ?_ ?_
        rotate_left
        · rintro w' ⟨s0, s1, s2⟩
          go_simp
          with_reducible rfl
        rotate_left
        · simp only [Act.put, List.setIfInBounds_toArray, List.set_cons_zero, List.set_cons_succ, i64_w, i32_w]
          rfl
        refine take_ (i := 7) (N := some 42) (v := ?_) (a' := ?_) #[true, false, true, true, false, false, true, true, false, false, false] rfl rfl (by kernel_rfl) (fun _ _ _ h => h) (Or.inl ⟨by rfl, ?_⟩) hHeld ?_ ?_
        rotate_left
        · rintro w' ⟨s0, s1, s2⟩
          go_simp
          with_reducible rfl
        rotate_left
        · simp only [Act.put, List.setIfInBounds_toArray, List.set_cons_zero, List.set_cons_succ, i64_w, i32_w]
          rfl
        refine one_ (i := 1) (N := some 36) #[true, true, true, true, false, false, true, true, false, false, false] rfl rfl (by kernel_rfl) (by decide) (fun K hK => ?_)
        refine goes_ Try.func91 (by kernel_rfl) rfl #[.int .u64 0] (by rfl) rfl rfl (by simp only [List.map_toArray, List.map_cons, List.map_nil]; rfl) ?_
        with_reducible refine (D1.out _).mono ?_
        rintro e v2 ⟨rfl, hb⟩
        refine ⟨_, rfl, ?_⟩
        have HB2 := Lib.hid (BuilderAt_below HBA.out (bl_trans (bl_drew (bl_refl V)) hb))
        have F2 : Below V.heap.size V v2 := bl_trans (bl_drew (bl_refl V)) hb
        clear hb
        refine hK.out _ _ ⟨(q0 _ 0 F2), (q0 _ 1 F2), (q0 _ 2 F2)⟩ (fun hHeld => ?_)
        clear hK K
        refine norm_ (a' := ?_) ?_ ?_
        rotate_left
        · show Act.put _ (some 36) _ = _
          simp only [Act.put, List.setIfInBounds_toArray, List.set_cons_zero, List.set_cons_succ, i64_w, i32_w]
          rfl
        refine one_ (i := 4) (N := some 39) #[true, true, true, true, true, false, true, true, false, false, false] rfl rfl (by kernel_rfl) (by decide) (fun K hK => ?_)
        refine goes_ Try.func92 (by kernel_rfl) rfl #[.string x.key] (by rfl) rfl rfl (by simp only [List.map_toArray, List.map_cons, List.map_nil]; rfl) ?_
        with_reducible refine (D2.out _).mono ?_
        rintro e v3 ⟨rfl, hb⟩
        refine ⟨_, rfl, ?_⟩
        have HB3 := Lib.hid (BuilderAt_below HB2.out hb)
        have F3 : Below V.heap.size V v3 := bl_trans F2 hb
        clear hb
        refine hK.out _ _ ⟨(q0 _ 0 F3), (q0 _ 1 F3), (q0 _ 2 F3)⟩ (fun hHeld => ?_)
        clear hK K
        refine norm_ (a' := ?_) ?_ ?_
        rotate_left
        · show Act.put _ (some 39) _ = _
          simp only [Act.put, List.setIfInBounds_toArray, List.set_cons_zero, List.set_cons_succ, i64_w, i32_w]
          rfl
        refine pure_ (i := 5) (N := some 40) (v := ?_) (a' := ?_) #[true, true, true, true, true, true, true, true, false, false, false] rfl rfl (by kernel_rfl) (fun _ _ _ h => h) (Or.inl ⟨by rfl, ?_⟩) ?_ ?_
        rotate_left
        · intro w'
          go_simp
          with_reducible rfl
        rotate_left
        · simp only [Act.put, List.setIfInBounds_toArray, List.set_cons_zero, List.set_cons_succ, i64_w, i32_w]
          rfl
        refine one_ (i := 8) (N := some 43) #[true, true, true, true, true, true, true, true, true, false, false] rfl rfl (by kernel_rfl) (by decide) (fun K hK => ?_)
        refine goes_ Try.func92 (by kernel_rfl) rfl #[.string x.val] (by rfl) rfl rfl (by simp only [List.map_toArray, List.map_cons, List.map_nil]; rfl) ?_
        with_reducible refine (D3.out _).mono ?_
        rintro e v4 ⟨rfl, hb⟩
        refine ⟨_, rfl, ?_⟩
        have HB4 := Lib.hid (BuilderAt_below HB3.out hb)
        have F4 : Below V.heap.size V v4 := bl_trans F3 hb
        clear hb
        refine hK.out _ _ ⟨(q0 _ 0 F4), (q0 _ 1 F4), (q0 _ 2 F4)⟩ (fun hHeld => ?_)
        clear hK K
        refine norm_ (a' := ?_) ?_ ?_
        rotate_left
        · show Act.put _ (some 43) _ = _
          simp only [Act.put, List.setIfInBounds_toArray, List.set_cons_zero, List.set_cons_succ, i64_w, i32_w]
          rfl
        refine pure_ (i := 9) (N := some 44) (v := ?_) (a' := ?_) #[true, true, true, true, true, true, true, true, true, true, false] rfl rfl (by kernel_rfl) (fun _ _ _ h => h) (Or.inl ⟨by rfl, ?_⟩) ?_ ?_
        rotate_left
        · intro w'
          go_simp
          with_reducible rfl
        rotate_left
        · simp only [Act.put, List.setIfInBounds_toArray, List.set_cons_zero, List.set_cons_succ, i64_w, i32_w]
          rfl
        refine last_ (i := 10) (N := some 45) #[true, true, true, true, true, true, true, true, true, true, true] rfl rfl (by kernel_rfl) (by decide) (fun K hK => ?_)
        refine goes_ Try.func90 (by kernel_rfl) rfl #[.pointer (some ⟨w1.heap.size, 0, none⟩), .string (bS (n0 ++ (t2 ++ t3)))] (by rfl) rfl rfl (by simp only [List.map_toArray, List.map_cons, List.map_nil]; rfl) ?_
        with_reducible refine (write90 w1.heap.size w1.heap.size (Lib.byteCells (n1 ++ t1 ++ n2 ++ (ws.take i).flatMap Wr.L)) (bS (n0 ++ (t2 ++ t3))) v4 (isB_of HB4.out) (by rw [bS_size, show (n0 ++ (t2 ++ t3)).length = n0.length + t2.length + t3.length from by simp [Nat.add_assoc]]; have := HFL.out; have := HWL.out; unfold Lib.byteCells; rw [List.length_map]; omega) (Nat.le_trans HBV.out.size F4.size)).mono ?_
        rintro e v5 ⟨rfl, hbd, hb⟩
        refine ⟨_, rfl, ?_⟩
        have HB5 := Lib.hid (show Below w1.heap.size w1 v5 from bl_low (bl_trans HBV.out F4) hb (Nat.le_refl _))
        rw [bcells_app] at hbd
        have HBD5 := Lib.hid hbd
        clear hb hbd
        refine hK.out _ _ ?_
        clear hK K
        refine norm_ (a' := ?_) ?_ ?_
        rotate_left
        · show Act.put _ (some 45) _ = _
          simp only [Act.put, List.setIfInBounds_toArray, List.set_cons_zero, List.set_cons_succ, i64_w, i32_w]
          rfl
        refine done_ (by kernel_rfl) ?_
        clear F2 F3 F4
        go_wp2
        go_roundg (ws.length - (i + 1))
        case measure => have := HLT.out; omega
        case rel =>
          refine ⟨i + 1, by have := HLT.out; omega, Nat.le_refl _, by go_num, ?_, HB5.out⟩
          show Lib.BuilderAt 140 5 _ _ _ (Lib.byteCells (n1 ++ t1 ++ n2 ++ (ws.take (i + 1)).flatMap Wr.L)) v5
          rw [HFS.out, HX.out, HLW.out, ← List.append_assoc, List.append_assoc n0]
          exact HBD5.out
      | true =>
        rw [hd] at p2
        have hL : x.L = numL 1 ++ t2 ++ t3 := by unfold Wr.L; rw [hd, ht2, ht3]; rfl
        rw [hL] at hwl3
        obtain ⟨n0, hn0⟩ : ∃ n0, numL 1 = n0 := ⟨_, rfl⟩
        rw [hn0] at hL hwl3
        have d1 : ∀ w, Calls Try.prog 91 #[.int .u64 1] w _ := fun w => num91 1 (by decide) w
        rw [hn0] at d1
        have D1 := Lib.hid d1
        rw [List.length_append, List.length_append] at hwl3
        have hs1 : n0.length + t2.length ≤ 9223372036854775807 := by omega
        have hs2 : n0.length + t2.length + t3.length ≤ 9223372036854775807 := by omega
        have hs3 := eq_false (Nat.not_lt.2 hs1)
        have hs4 := eq_false (Nat.not_lt.2 hs2)
        have HLW := Lib.hid hL
        have HWL := Lib.hid hwl3
        have KX := blk_new wr (.cells #[.string x.key, .string x.val, .bool true] 127)
        have q0 := blk_cells KX
        have HBA := Lib.hid (BuilderAt_below HBR.out (bl_alloc (.cells #[.string x.key, .string x.val, .bool true] 127) (bl_refl wr)))
        obtain ⟨V, hV⟩ : ∃ V, wr.alloc (.cells #[.string x.key, .string x.val, .bool true] 127) = V := ⟨_, rfl⟩
        rw [hV] at KX q0 HBA
        have HBV := Lib.hid (show Below w1.heap.size w1 V from hV ▸ bl_alloc _ HB.out)
        have BV := bl_refl V
        have HVV := Lib.hid hV
        clear hd hL ht2 ht3 hn0 d1 hwl3 KX hV
        go_wp2
        rw [HVV.out]
        refine start_ (n := 11) (S := fun w' => w'.cell? ⟨wr.heap.size, 0, none⟩ = some (.string x.key) ∧ w'.cell? ⟨wr.heap.size, 1, none⟩ = some (.string x.val) ∧ w'.cell? ⟨wr.heap.size, 2, none⟩ = some (.bool true)) (ds := [10]) #[false, false, false, false, false, false, false, false, false, false, false] (by kernel_rfl) rfl rfl ⟨(q0 _ 0 (bl_drew (bl_refl V))), (q0 _ 1 (bl_drew (bl_refl V))), (q0 _ 2 (bl_drew (bl_refl V)))⟩ (fun hHeld => ?_)
        refine pure_ (i := 0) (N := some 35) (v := ?_) (a' := ?_) #[true, false, false, false, false, false, false, false, false, false, false] rfl rfl (by kernel_rfl) (fun _ _ _ h => h) (Or.inl ⟨by rfl, ?_⟩) ?_ ?_
        rotate_left
        · intro w'
          go_simp
          with_reducible rfl
        rotate_left
        · simp only [Act.put, List.setIfInBounds_toArray, List.set_cons_zero, List.set_cons_succ, i64_w, i32_w]
          rfl
        refine pure_ (i := 2) (N := some 37) (v := ?_) (a' := ?_) #[true, false, true, false, false, false, false, false, false, false, false] rfl rfl (by kernel_rfl) (fun _ _ _ h => h) (Or.inl ⟨by rfl, ?_⟩) ?_ ?_
        rotate_left
        · intro w'
          go_simp
          with_reducible rfl
        rotate_left
        · simp only [Act.put, List.setIfInBounds_toArray, List.set_cons_zero, List.set_cons_succ, i64_w, i32_w]
          rfl
        refine pure_ (i := 6) (N := some 41) (v := ?_) (a' := ?_) #[true, false, true, false, false, false, true, false, false, false, false] rfl rfl (by kernel_rfl) (fun _ _ _ h => h) (Or.inl ⟨by rfl, ?_⟩) ?_ ?_
        rotate_left
        · intro w'
          go_simp
          with_reducible rfl
        rotate_left
        · simp only [Act.put, List.setIfInBounds_toArray, List.set_cons_zero, List.set_cons_succ, i64_w, i32_w]
          rfl
        refine take_ (i := 3) (N := some 38) (v := ?_) (a' := ?_) #[true, false, true, true, false, false, true, false, false, false, false] rfl rfl (by kernel_rfl) (fun _ _ _ h => h) (Or.inl ⟨by rfl, ?_⟩) hHeld ?_ ?_
        rotate_left
        · rintro w' ⟨s0, s1, s2⟩
          go_simp
          with_reducible rfl
        rotate_left
        · simp only [Act.put, List.setIfInBounds_toArray, List.set_cons_zero, List.set_cons_succ, i64_w, i32_w]
          rfl
        refine take_ (i := 7) (N := some 42) (v := ?_) (a' := ?_) #[true, false, true, true, false, false, true, true, false, false, false] rfl rfl (by kernel_rfl) (fun _ _ _ h => h) (Or.inl ⟨by rfl, ?_⟩) hHeld ?_ ?_
        rotate_left
        · rintro w' ⟨s0, s1, s2⟩
          go_simp
          with_reducible rfl
        rotate_left
        · simp only [Act.put, List.setIfInBounds_toArray, List.set_cons_zero, List.set_cons_succ, i64_w, i32_w]
          rfl
        refine one_ (i := 1) (N := some 36) #[true, true, true, true, false, false, true, true, false, false, false] rfl rfl (by kernel_rfl) (by decide) (fun K hK => ?_)
        refine goes_ Try.func91 (by kernel_rfl) rfl #[.int .u64 1] (by rfl) rfl rfl (by simp only [List.map_toArray, List.map_cons, List.map_nil]; rfl) ?_
        with_reducible refine (D1.out _).mono ?_
        rintro e v2 ⟨rfl, hb⟩
        refine ⟨_, rfl, ?_⟩
        have HB2 := Lib.hid (BuilderAt_below HBA.out (bl_trans (bl_drew (bl_refl V)) hb))
        have F2 : Below V.heap.size V v2 := bl_trans (bl_drew (bl_refl V)) hb
        clear hb
        refine hK.out _ _ ⟨(q0 _ 0 F2), (q0 _ 1 F2), (q0 _ 2 F2)⟩ (fun hHeld => ?_)
        clear hK K
        refine norm_ (a' := ?_) ?_ ?_
        rotate_left
        · show Act.put _ (some 36) _ = _
          simp only [Act.put, List.setIfInBounds_toArray, List.set_cons_zero, List.set_cons_succ, i64_w, i32_w]
          rfl
        refine one_ (i := 4) (N := some 39) #[true, true, true, true, true, false, true, true, false, false, false] rfl rfl (by kernel_rfl) (by decide) (fun K hK => ?_)
        refine goes_ Try.func92 (by kernel_rfl) rfl #[.string x.key] (by rfl) rfl rfl (by simp only [List.map_toArray, List.map_cons, List.map_nil]; rfl) ?_
        with_reducible refine (D2.out _).mono ?_
        rintro e v3 ⟨rfl, hb⟩
        refine ⟨_, rfl, ?_⟩
        have HB3 := Lib.hid (BuilderAt_below HB2.out hb)
        have F3 : Below V.heap.size V v3 := bl_trans F2 hb
        clear hb
        refine hK.out _ _ ⟨(q0 _ 0 F3), (q0 _ 1 F3), (q0 _ 2 F3)⟩ (fun hHeld => ?_)
        clear hK K
        refine norm_ (a' := ?_) ?_ ?_
        rotate_left
        · show Act.put _ (some 39) _ = _
          simp only [Act.put, List.setIfInBounds_toArray, List.set_cons_zero, List.set_cons_succ, i64_w, i32_w]
          rfl
        refine pure_ (i := 5) (N := some 40) (v := ?_) (a' := ?_) #[true, true, true, true, true, true, true, true, false, false, false] rfl rfl (by kernel_rfl) (fun _ _ _ h => h) (Or.inl ⟨by rfl, ?_⟩) ?_ ?_
        rotate_left
        · intro w'
          go_simp
          with_reducible rfl
        rotate_left
        · simp only [Act.put, List.setIfInBounds_toArray, List.set_cons_zero, List.set_cons_succ, i64_w, i32_w]
          rfl
        refine one_ (i := 8) (N := some 43) #[true, true, true, true, true, true, true, true, true, false, false] rfl rfl (by kernel_rfl) (by decide) (fun K hK => ?_)
        refine goes_ Try.func92 (by kernel_rfl) rfl #[.string x.val] (by rfl) rfl rfl (by simp only [List.map_toArray, List.map_cons, List.map_nil]; rfl) ?_
        with_reducible refine (D3.out _).mono ?_
        rintro e v4 ⟨rfl, hb⟩
        refine ⟨_, rfl, ?_⟩
        have HB4 := Lib.hid (BuilderAt_below HB3.out hb)
        have F4 : Below V.heap.size V v4 := bl_trans F3 hb
        clear hb
        refine hK.out _ _ ⟨(q0 _ 0 F4), (q0 _ 1 F4), (q0 _ 2 F4)⟩ (fun hHeld => ?_)
        clear hK K
        refine norm_ (a' := ?_) ?_ ?_
        rotate_left
        · show Act.put _ (some 43) _ = _
          simp only [Act.put, List.setIfInBounds_toArray, List.set_cons_zero, List.set_cons_succ, i64_w, i32_w]
          rfl
        refine pure_ (i := 9) (N := some 44) (v := ?_) (a' := ?_) #[true, true, true, true, true, true, true, true, true, true, false] rfl rfl (by kernel_rfl) (fun _ _ _ h => h) (Or.inl ⟨by rfl, ?_⟩) ?_ ?_
        rotate_left
        · intro w'
          go_simp
          with_reducible rfl
        rotate_left
        · simp only [Act.put, List.setIfInBounds_toArray, List.set_cons_zero, List.set_cons_succ, i64_w, i32_w]
          rfl
        refine last_ (i := 10) (N := some 45) #[true, true, true, true, true, true, true, true, true, true, true] rfl rfl (by kernel_rfl) (by decide) (fun K hK => ?_)
        refine goes_ Try.func90 (by kernel_rfl) rfl #[.pointer (some ⟨w1.heap.size, 0, none⟩), .string (bS (n0 ++ (t2 ++ t3)))] (by rfl) rfl rfl (by simp only [List.map_toArray, List.map_cons, List.map_nil]; rfl) ?_
        with_reducible refine (write90 w1.heap.size w1.heap.size (Lib.byteCells (n1 ++ t1 ++ n2 ++ (ws.take i).flatMap Wr.L)) (bS (n0 ++ (t2 ++ t3))) v4 (isB_of HB4.out) (by rw [bS_size, show (n0 ++ (t2 ++ t3)).length = n0.length + t2.length + t3.length from by simp [Nat.add_assoc]]; have := HFL.out; have := HWL.out; unfold Lib.byteCells; rw [List.length_map]; omega) (Nat.le_trans HBV.out.size F4.size)).mono ?_
        rintro e v5 ⟨rfl, hbd, hb⟩
        refine ⟨_, rfl, ?_⟩
        have HB5 := Lib.hid (show Below w1.heap.size w1 v5 from bl_low (bl_trans HBV.out F4) hb (Nat.le_refl _))
        rw [bcells_app] at hbd
        have HBD5 := Lib.hid hbd
        clear hb hbd
        refine hK.out _ _ ?_
        clear hK K
        refine norm_ (a' := ?_) ?_ ?_
        rotate_left
        · show Act.put _ (some 45) _ = _
          simp only [Act.put, List.setIfInBounds_toArray, List.set_cons_zero, List.set_cons_succ, i64_w, i32_w]
          rfl
        refine done_ (by kernel_rfl) ?_
        clear F2 F3 F4
        go_wp2
        go_roundg (ws.length - (i + 1))
        case measure => have := HLT.out; omega
        case rel =>
          refine ⟨i + 1, by have := HLT.out; omega, Nat.le_refl _, by go_num, ?_, HB5.out⟩
          show Lib.BuilderAt 140 5 _ _ _ (Lib.byteCells (n1 ++ t1 ++ n2 ++ (ws.take (i + 1)).flatMap Wr.L)) v5
          rw [HFS.out, HX.out, HLW.out, ← List.append_assoc, List.append_assoc n0]
          exact HBD5.out
    · have hltz : ¬ (i : Int) < (ws.length : Int) := by omega
      have hfin : (⟨(k : Int), tok, ws⟩ : Bt).bytes = n1 ++ t1 ++ n2 ++ (ws.take i).flatMap Wr.L := by
        unfold Bt.bytes
        rw [HPRE.out, show i = ws.length by omega, List.take_length]
      have HFIN := Lib.hid hfin
      clear hfin hlt
      go_wp2_with fail
      refine (Builder_String_any w1.heap.size w1.heap.size (n1 ++ t1 ++ n2 ++ (ws.take i).flatMap Wr.L) wr (isB_of HBR.out) HB.out.size).mono ?_
      rintro e w9 ⟨rfl, hb⟩
      have HZ := Lib.hid (show Below w.heap.size w w9 from (bl_low (bl_trans HWB1.out HB.out) (hb.mono (Nat.le_refl _)) HWB1.out.size))
      clear hb
      go_wp2
      exact bodyPost_ret (v := .tuple #[.string (bS (n1 ++ t1 ++ n2 ++ (ws.take i).flatMap Wr.L)), .int .i64 0]) (by simp [results, Try.results29, go_sem]; rfl) rfl ⟨by rw [HFIN.out], HZ.out⟩
end Go.Proofs.Ytkcebmamohimoaa
