/- Batches, plainly: taking undoes telling; more or fewer bytes are none. The document's example. -/
import Derived.Test.YtkcebmamohimoaaB6
namespace Go.Proofs.Ytkcebmamohimoaa
open Go.RowKit Go.Proofs.YtkcebmamohimoaaW.PrintWords
set_option linter.unusedVariables false
set_option linter.unusedSimpArgs false
def parseB (l : Bs) : Bt × Bs × Bool :=
  (⟨((nmF l true 2).1 : Nat), bS (txF (nmF l true 2).2.1 (nmF l true 2).2.2 16).1, (iterT (nmF (txF (nmF l true 2).2.1 (nmF l true 2).2.2 16).2.1 (txF (nmF l true 2).2.1 (nmF l true 2).2.2 16).2.2 24).1 ([], (nmF (txF (nmF l true 2).2.1 (nmF l true 2).2.2 16).2.1 (txF (nmF l true 2).2.1 (nmF l true 2).2.2 16).2.2 24).2)).1⟩,
   (iterT (nmF (txF (nmF l true 2).2.1 (nmF l true 2).2.2 16).2.1 (txF (nmF l true 2).2.1 (nmF l true 2).2.2 16).2.2 24).1 ([], (nmF (txF (nmF l true 2).2.1 (nmF l true 2).2.2 16).2.1 (txF (nmF l true 2).2.1 (nmF l true 2).2.2 16).2.2 24).2)).2)
theorem parseB_of {l l1 l2 l3 l4 t : Bs} {ok1 ok2 ok3 ok4 : Bool} {k n : Nat} {ws : List Wr} (h1 : nmF l true 2 = (k, l1, ok1)) (h2 : txF l1 ok1 16 = (t, l2, ok2)) (h3 : nmF l2 ok2 24 = (n, l3, ok3)) (h4 : iterT n ([], l3, ok3) = (ws, l4, ok4)) : parseB l = (⟨(k : Nat), bS t, ws⟩, l4, ok4) := by
  unfold parseB
  simp only [h1, h2, h3, h4]
theorem takeB_parse (l : Bs) : takeB l = if (parseB l).2 = ([], true) ∧ (parseB l).1.may = true then ((parseB l).1, 0) else (⟨0, ⟨#[]⟩, []⟩, 3) := rfl
theorem nmF_ext {l r : Bs} {v most : Nat} {ok : Bool} (h : nmF l ok most = (v, r, true)) (x : Bs) : ok = true ∧ nmF (l ++ x) ok most = (v, r ++ x, true) := by
  unfold nmF at h ⊢
  simp only [Prod.mk.injEq, Bool.and_eq_true, beq_iff_eq, decide_eq_true_eq] at h
  obtain ⟨h1, h2, ⟨h3, h4⟩, h5⟩ := h
  rw [if_pos ⟨⟨h3, h4⟩, h5⟩] at h1
  have he : tnL l = (v, r, 0) := by rw [← h1, ← h2, ← h4]
  rw [tnL_ext l v r he x]
  have hv : v ≤ most := by rw [← h1]; exact h5
  subst h3
  refine ⟨rfl, ?_⟩
  simp [hv]
theorem txF_ext {l r t : Bs} {most : Nat} {ok : Bool} (h : txF l ok most = (t, r, true)) (x : Bs) : ok = true ∧ txF (l ++ x) ok most = (t, r ++ x, true) := by
  unfold txF at h ⊢
  simp only [Prod.mk.injEq, Bool.and_eq_true, beq_iff_eq] at h
  obtain ⟨h1, h2, h3, h4⟩ := h
  have he : ttL l most = (t, r, 0) := by rw [← h1, ← h2, ← h4]
  rw [ttL_ext l t r most he x]
  subst h3
  exact ⟨rfl, rfl⟩
theorem stepT_ext {ws ws' : List Wr} {l r : Bs} {ok : Bool} (h : stepT (ws, l, ok) = (ws', r, true)) (x : Bs) : ok = true ∧ stepT (ws, l ++ x, ok) = (ws', r ++ x, true) := by
  obtain ⟨d, l4, ok4, h4⟩ : ∃ d l4 ok4, nmF l ok 1 = (d, l4, ok4) := ⟨_, _, _, rfl⟩
  obtain ⟨key, l5, ok5, h5⟩ : ∃ key l5 ok5, txF l4 ok4 32 = (key, l5, ok5) := ⟨_, _, _, rfl⟩
  obtain ⟨val, l6, ok6, h6⟩ : ∃ val l6 ok6, txF l5 ok5 64 = (val, l6, ok6) := ⟨_, _, _, rfl⟩
  rw [stepT_of h4 h5 h6] at h
  simp only [Prod.mk.injEq] at h
  obtain ⟨e1, e2, e3⟩ := h
  subst e3
  obtain ⟨e5, g6⟩ := txF_ext h6 x
  subst e5
  obtain ⟨e4, g5⟩ := txF_ext h5 x
  subst e4
  obtain ⟨e, g4⟩ := nmF_ext h4 x
  subst e
  exact ⟨rfl, by rw [stepT_of g4 g5 g6, e1, e2]⟩
theorem iterT_ext (x : Bs) (n : Nat) : ∀ {ws ws' : List Wr} {l r : Bs} {ok : Bool}, iterT n (ws, l, ok) = (ws', r, true) → ok = true ∧ iterT n (ws, l ++ x, ok) = (ws', r ++ x, true) := by
  induction n with
  | zero =>
    intro ws ws' l r ok h
    simp only [iterT, Prod.mk.injEq] at h ⊢
    obtain ⟨h1, h2, h3⟩ := h
    exact ⟨h3, h1, by rw [h2], h3⟩
  | succ n ih =>
    intro ws ws' l r ok h
    obtain ⟨ws1, l1, ok1, h1⟩ : ∃ ws1 l1 ok1, iterT n (ws, l, ok) = (ws1, l1, ok1) := ⟨_, _, _, rfl⟩
    have h' : stepT (ws1, l1, ok1) = (ws', r, true) := by rw [← h1]; exact h
    obtain ⟨e1, g1⟩ := stepT_ext h' x
    subst e1
    obtain ⟨e, g⟩ := ih h1
    exact ⟨e, by show stepT (iterT n (ws, l ++ x, ok)) = _; rw [g]; exact g1⟩
theorem parseB_ext {l r : Bs} {b : Bt} (h : parseB l = (b, r, true)) (x : Bs) : parseB (l ++ x) = (b, r ++ x, true) := by
  obtain ⟨k, l1, ok1, h1⟩ : ∃ k l1 ok1, nmF l true 2 = (k, l1, ok1) := ⟨_, _, _, rfl⟩
  obtain ⟨t, l2, ok2, h2⟩ : ∃ t l2 ok2, txF l1 ok1 16 = (t, l2, ok2) := ⟨_, _, _, rfl⟩
  obtain ⟨n, l3, ok3, h3⟩ : ∃ n l3 ok3, nmF l2 ok2 24 = (n, l3, ok3) := ⟨_, _, _, rfl⟩
  obtain ⟨ws, l4, ok4, h4⟩ : ∃ ws l4 ok4, iterT n ([], l3, ok3) = (ws, l4, ok4) := ⟨_, _, _, rfl⟩
  rw [parseB_of h1 h2 h3 h4] at h
  simp only [Prod.mk.injEq] at h
  obtain ⟨e1, e2, e3⟩ := h
  subst e3
  obtain ⟨e, g4⟩ := iterT_ext x n h4
  subst e
  obtain ⟨e, g3⟩ := nmF_ext h3 x
  subst e
  obtain ⟨e, g2⟩ := txF_ext h2 x
  subst e
  obtain ⟨_, g1⟩ := nmF_ext h1 x
  rw [parseB_of g1 g2 g3 g4, e1, e2]
theorem nmF_num (n most : Nat) (hn : n ≤ most) (hb : n < big) (x : Bs) : nmF (numL n ++ x) true most = (n, x, true) := by
  unfold nmF
  rw [tnL_num n hb x]
  simp [hn]
theorem txF_text (t : Bs) (most : Nat) (hm : t.length ≤ most) (hb : t.length < big) (x : Bs) : txF (textL t ++ x) true most = (t, x, true) := by
  unfold txF
  rw [ttL_text t x most hm hb]
  rfl
theorem iterT_flat (ws : List Wr) (hw : ∀ y ∈ ws, y.odd = false) (x : Bs) (i : Nat) (hi : i ≤ ws.length) : iterT i ([], ws.flatMap Wr.L ++ x, true) = (ws.take i, (ws.drop i).flatMap Wr.L ++ x, true) := by
  induction i with
  | zero => rfl
  | succ i ih =>
    have hlt : i < ws.length := by omega
    have ho := hw ws[i] (List.getElem_mem hlt)
    obtain ⟨_, h32, h64, _⟩ := odd_f ho
    rw [size_len] at h32 h64
    show stepT (iterT i _) = _
    rw [ih (by omega), List.drop_eq_getElem_cons hlt, List.flatMap_cons]
    obtain ⟨y, hy⟩ : ∃ y, ws[i] = y := ⟨_, rfl⟩
    rw [hy] at h32 h64 ⊢
    have e : y.L ++ (ws.drop (i + 1)).flatMap Wr.L ++ x = numL (if y.del = true then 1 else 0) ++ (textL y.key.data.toList ++ (textL y.val.data.toList ++ ((ws.drop (i + 1)).flatMap Wr.L ++ x))) := by unfold Wr.L; simp only [List.append_assoc]
    rw [e, stepT_of (nmF_num _ 1 (by split <;> omega) (by unfold big; split <;> omega) _) (txF_text _ 32 h32 (by unfold big; omega) _) (txF_text _ 64 h64 (by unfold big; omega) _)]
    simp only [Prod.mk.injEq, and_true]
    rw [List.take_succ_eq_append_getElem hlt, hy, bS_data, bS_data]
    congr 1
    cases y with | mk a b c => cases c <;> rfl
/-- Taking undoes telling, whatever follows. -/
theorem parse_bytes {b : Bt} (h : MayOk b) (x : Bs) : parseB (b.bytes ++ x) = (b, x, true) := by
  obtain ⟨kind, tok, ws⟩ := b
  obtain ⟨k, rfl⟩ : ∃ k : Nat, kind = k := ⟨kind.toNat, by have := h.kind; simp only [] at this; omega⟩
  have hk := h.kind
  have ht := h.tok.2
  have hl := h.len
  simp only [] at hk ht hl
  rw [size_len] at ht
  have e : (⟨(k : Int), tok, ws⟩ : Bt).bytes ++ x = numL k ++ (textL tok.data.toList ++ (numL ws.length ++ (ws.flatMap Wr.L ++ x))) := by unfold Bt.bytes Bt.pre; simp only [List.append_assoc, Int.toNat_natCast]
  have h4 := iterT_flat ws h.fine x ws.length (Nat.le_refl _)
  rw [List.take_length, List.drop_length] at h4
  rw [e, parseB_of (nmF_num k 2 (by omega) (by unfold big; omega) _) (txF_text _ 16 ht (by unfold big; omega) _) (nmF_num ws.length 24 hl (by unfold big; omega) _) h4, bS_data]
  rfl
theorem take_back {b : Bt} (h : b.may = true) : takeB b.bytes = (b, 0) := by
  have hp := parse_bytes (may_ok h) []
  rw [List.append_nil] at hp
  rw [takeB_parse, hp, if_pos ⟨rfl, h⟩]
theorem take_more {b : Bt} (h : b.may = true) (x : Bs) (hx : x ≠ []) : takeB (b.bytes ++ x) = (⟨0, ⟨#[]⟩, []⟩, 3) := by
  rw [takeB_parse, parse_bytes (may_ok h) x, if_neg]
  rintro ⟨e, _⟩
  simp only [Prod.mk.injEq, and_true] at e
  exact hx e
theorem take_less {b : Bt} (h : b.may = true) (cut : Nat) (hc : cut < b.bytes.length) : takeB (b.bytes.take cut) = (⟨0, ⟨#[]⟩, []⟩, 3) := by
  rw [takeB_parse, if_neg]
  rintro ⟨e, _⟩
  obtain ⟨b', r, ok, hp⟩ : ∃ b' r ok, parseB (b.bytes.take cut) = (b', r, ok) := ⟨_, _, _, rfl⟩
  rw [hp] at e
  simp only [Prod.mk.injEq] at e
  obtain ⟨rfl, rfl⟩ := e
  have h1 := parseB_ext hp (b.bytes.drop cut)
  rw [List.take_append_drop, List.nil_append] at h1
  have h2 := parse_bytes (may_ok h) []
  rw [List.append_nil, h1] at h2
  simp only [Prod.mk.injEq, and_true] at h2
  have := congrArg List.length h2.2
  rw [List.length_drop] at this
  simp at this
  omega
theorem digs_small (n : Nat) (h : n < 10) : digs n = [UInt8.ofNat (48 + n)] := by unfold digs; rw [if_pos h]
def shBt : Bt := ⟨((1 : Nat) : Int), bS [116], [⟨bS [97], bS [49], false⟩]⟩
theorem shBt_may : shBt.may = true := by rfl
theorem shBt_bytes : shBt.bytes = [49, 59, 49, 59, 116, 49, 59, 48, 59, 49, 59, 97, 49, 59, 49] := by
  unfold shBt Bt.bytes Bt.pre
  simp [Wr.L, textL, numL, digs_small, bS]
attribute [local go_sem] bl_refl bl_alloc bl_drew bl_drewN
set_option maxHeartbeats 4000000 in
set_option maxRecDepth 100000 in
theorem shown28 (w : World) : Calls Try.prog 28 #[] w fun e w' => e = .returned (.bool true) ∧ Below w.heap.size w w' := by
  have hk := blk_new w (.cells #[.string ⟨#[97]⟩, .string ⟨#[49]⟩, .bool false] 127)
  have hc := yes29 (some ⟨w.heap.size, 0, none⟩) 1 1 (bS [116]) [⟨bS [97], bS [49], false⟩] (w.alloc (.cells #[.string ⟨#[97]⟩, .string ⟨#[49]⟩, .bool false] 127)) (C_one (f := Wr.cells) (t := 127) ⟨bS [97], bS [49], false⟩ hk) shBt_may
  rw [show (⟨((1 : Nat) : Int), bS [116], [⟨bS [97], bS [49], false⟩]⟩ : Bt) = shBt from rfl, shBt_bytes] at hc
  have hc' : Calls Try.prog 29 #[.agg #[.int .i64 1, .string ⟨#[116]⟩, .slice (some ⟨w.heap.size, 0, none⟩) 1 1]] (w.alloc (.cells #[.string ⟨#[97]⟩, .string ⟨#[49]⟩, .bool false] 127)) _ := hc
  have HC := Lib.hid hc'
  have HE := Lib.hid (show (bS [49, 59, 49, 59, 116, 49, 59, 48, 59, 49, 59, 97, 49, 59, 49]).toList = [49, 59, 49, 59, 116, 49, 59, 48, 59, 49, 59, 97, 49, 59, 49] by rw [Lib.toList_data, bS_toList])
  clear hk hc hc'
  go_enter Try.func28, Try.ntmps28
  go_wp2_with fail
  refine HC.out.mono ?_
  rintro e w1 ⟨rfl, hb⟩
  have HB := Lib.hid (bl_trans (bl_alloc _ (bl_refl w)) hb)
  clear hb
  go_wp2
  all_goals go_ret
  all_goals exact ⟨by first | rfl | simp [HE.out], HB.out⟩
end Go.Proofs.Ytkcebmamohimoaa
