/- The batch of bytes, the program's. -/
import Derived.Test.YtkcebmamohimoaaB4
namespace Go.Proofs.Ytkcebmamohimoaa
open Go.RowKit Go.Proofs.YtkcebmamohimoaaW.PrintWords
set_option linter.unusedVariables false
set_option linter.unusedSimpArgs false
attribute [local go_sem] bl_refl bl_alloc bl_drew bl_drewN
def stepT (s : List Wr × Bs × Bool) : List Wr × Bs × Bool :=
  (s.1 ++ [⟨bS (txF (nmF s.2.1 s.2.2 1).2.1 (nmF s.2.1 s.2.2 1).2.2 32).1, bS (txF (txF (nmF s.2.1 s.2.2 1).2.1 (nmF s.2.1 s.2.2 1).2.2 32).2.1 (txF (nmF s.2.1 s.2.2 1).2.1 (nmF s.2.1 s.2.2 1).2.2 32).2.2 64).1, (nmF s.2.1 s.2.2 1).1 == 1⟩],
    (txF (txF (nmF s.2.1 s.2.2 1).2.1 (nmF s.2.1 s.2.2 1).2.2 32).2.1 (txF (nmF s.2.1 s.2.2 1).2.1 (nmF s.2.1 s.2.2 1).2.2 32).2.2 64).2.1,
    (txF (txF (nmF s.2.1 s.2.2 1).2.1 (nmF s.2.1 s.2.2 1).2.2 32).2.1 (txF (nmF s.2.1 s.2.2 1).2.1 (nmF s.2.1 s.2.2 1).2.2 32).2.2 64).2.2)
theorem stepT_of {ws : List Wr} {l l1 l2 l3 key val : Bs} {ok ok1 ok2 ok3 : Bool} {d : Nat} (h1 : nmF l ok 1 = (d, l1, ok1)) (h2 : txF l1 ok1 32 = (key, l2, ok2)) (h3 : txF l2 ok2 64 = (val, l3, ok3)) : stepT (ws, l, ok) = (ws ++ [⟨bS key, bS val, d == 1⟩], l3, ok3) := by
  unfold stepT; simp only [h1, h2, h3]
def iterT : Nat → List Wr × Bs × Bool → List Wr × Bs × Bool
  | 0, s => s
  | n + 1, s => stepT (iterT n s)
def takeB (l : Bs) : Bt × Int :=
  if (iterT (nmF (txF (nmF l true 2).2.1 (nmF l true 2).2.2 16).2.1 (txF (nmF l true 2).2.1 (nmF l true 2).2.2 16).2.2 24).1 ([], (nmF (txF (nmF l true 2).2.1 (nmF l true 2).2.2 16).2.1 (txF (nmF l true 2).2.1 (nmF l true 2).2.2 16).2.2 24).2)).2 = ([], true) ∧ (⟨((nmF l true 2).1 : Nat), bS (txF (nmF l true 2).2.1 (nmF l true 2).2.2 16).1, (iterT (nmF (txF (nmF l true 2).2.1 (nmF l true 2).2.2 16).2.1 (txF (nmF l true 2).2.1 (nmF l true 2).2.2 16).2.2 24).1 ([], (nmF (txF (nmF l true 2).2.1 (nmF l true 2).2.2 16).2.1 (txF (nmF l true 2).2.1 (nmF l true 2).2.2 16).2.2 24).2)).1⟩ : Bt).may = true
  then (⟨((nmF l true 2).1 : Nat), bS (txF (nmF l true 2).2.1 (nmF l true 2).2.2 16).1, (iterT (nmF (txF (nmF l true 2).2.1 (nmF l true 2).2.2 16).2.1 (txF (nmF l true 2).2.1 (nmF l true 2).2.2 16).2.2 24).1 ([], (nmF (txF (nmF l true 2).2.1 (nmF l true 2).2.2 16).2.1 (txF (nmF l true 2).2.1 (nmF l true 2).2.2 16).2.2 24).2)).1⟩, 0)
  else (⟨0, ⟨#[]⟩, []⟩, 3)
theorem takeB_of {l l1 l2 l3 l4 t : Bs} {ok1 ok2 ok3 ok4 : Bool} {k n : Nat} {ws : List Wr} (h1 : nmF l true 2 = (k, l1, ok1)) (h2 : txF l1 ok1 16 = (t, l2, ok2)) (h3 : nmF l2 ok2 24 = (n, l3, ok3)) (h4 : iterT n ([], l3, ok3) = (ws, l4, ok4)) :
    takeB l = if (l4, ok4) = (([] : Bs), true) ∧ (⟨(k : Nat), bS t, ws⟩ : Bt).may = true then (⟨(k : Nat), bS t, ws⟩, 0) else (⟨0, ⟨#[]⟩, []⟩, 3) := by
  unfold takeB
  simp only [h1, h2, h3, h4]
theorem nmF_le (l : Bs) (ok : Bool) (most : Nat) : (nmF l ok most).1 ≤ most := by
  unfold nmF
  simp only []
  split
  · rename_i h
    simp only [Bool.and_eq_true, decide_eq_true_eq] at h
    exact h.2
  · omega
theorem nmF_len (l : Bs) (ok : Bool) (most : Nat) : (nmF l ok most).2.1.length ≤ l.length := tnL_len l
theorem ttL_len (l : Bs) (most : Nat) : (ttL l most).2.1.length ≤ l.length ∧ (ttL l most).1.length ≤ most := by
  have h := tnL_len l
  unfold ttL
  split
  · simp
  · split
    · simp
    · split
      · simp
      · simp only [List.length_drop, List.length_take]; omega
theorem txF_len (l : Bs) (ok : Bool) (most : Nat) : (txF l ok most).2.1.length ≤ l.length := (ttL_len l most).1
theorem R_grownB {α : Type} {d : Kd α} {e base : Nat} {W W' : World} {v : Value} {xs : List α} (h : Kd.R d e W base (fun _ => True) v xs) {g : Nat} (hg : W.grownBy W' (some g)) (hb : g < base) : Kd.R d e W' base (fun _ => True) v xs :=
  Kd.R_mono (Kd.R_move (Kd.R_mono (Kd.R_bound h) (fun k hk => ⟨hk.2.1, hk.2.2.1⟩ : ∀ k, _ → base ≤ k ∧ k < W.heap.size)) (fun k hk => hg.block k hk.2 (fun e => by injection e with e; omega))) (fun _ _ => trivial)
set_option maxHeartbeats 16000000 in
set_option maxRecDepth 100000 in
theorem take31 (LL : Bs) (hl : LL.length ≤ 4611686018427387904) (w : World) :
    Calls Try.prog 31 #[.string (bS LL)] w fun e w' => ∃ A c, e = .returned (.tuple #[.agg #[.int .i64 (takeB LL).1.kind, .string (takeB LL).1.tok, .slice A (takeB LL).1.ws.length c], .int .i64 (takeB LL).2]) ∧ Kd.R kWr 127 w' w.heap.size (fun _ => True) (.slice A (takeB LL).1.ws.length c) (takeB LL).1.ws ∧ Below w.heap.size w w' := by
  obtain ⟨k, l1, ok1, h1⟩ : ∃ k l1 ok1, nmF LL true 2 = (k, l1, ok1) := ⟨_, _, _, rfl⟩
  obtain ⟨t, l2, ok2, h2⟩ : ∃ t l2 ok2, txF l1 ok1 16 = (t, l2, ok2) := ⟨_, _, _, rfl⟩
  obtain ⟨n, l3, ok3, h3⟩ : ∃ n l3 ok3, nmF l2 ok2 24 = (n, l3, ok3) := ⟨_, _, _, rfl⟩
  have hk2 : k ≤ 2 := by have := nmF_le LL true 2; rw [h1] at this; exact this
  have hn24 : n ≤ 24 := by have := nmF_le l2 ok2 24; rw [h3] at this; exact this
  have g1 : l1.length ≤ LL.length := by have := nmF_len LL true 2; rw [h1] at this; exact this
  have g2 : l2.length ≤ l1.length := by have := txF_len l1 ok1 16; rw [h2] at this; exact this
  have g3 : l3.length ≤ l2.length := by have := nmF_len l2 ok2 24; rw [h3] at this; exact this
  have HT := Lib.hid (fun l4 ok4 ws h4 => takeB_of (l4 := l4) (ok4 := ok4) (ws := ws) h1 h2 h3 h4)
  have hwk : IntKind.i64.wrap (k : Int) = (k : Int) := IntWalk.i64_in _ (And.intro (by omega) (by omega))
  have c1 := fun g w hk => num96 g LL true 2 hl w hk
  have c2 := fun g w hk => text97 g l1 ok1 16 (by omega) (by omega) w hk
  have c3 := fun g w hk => num96 g l2 ok2 24 (by omega) w hk
  rw [h1] at c1
  rw [h2] at c2
  rw [h3] at c3
  have C1 := Lib.hid c1
  have C2 := Lib.hid c2
  have C3 := Lib.hid c3
  have HL3 := Lib.hid (show l3.length ≤ 4611686018427387904 by omega)
  have HN24 := Lib.hid hn24
  clear c1 c2 c3 h1 h2 h3 g1 g2 g3 hl
  obtain ⟨W, hW, K0, KR, HW, hs⟩ := boxes2 w #[.int .i64 0, .string ⟨#[]⟩, .slice none 0 0] 50 #[.string (bS LL), .bool true, .func (.func 96) #[] #[], .func (.func 97) #[] #[]] 152
  have r1 := blk_cells KR
  have HK0 := Lib.hid K0
  have HKR := Lib.hid KR
  have HB0 := Lib.hid HW
  have HS := Lib.hid hs
  have HWW := Lib.hid hW
  have B0 := bl_refl W
  clear hW K0 KR HW hs
  go_enter Try.func31, Try.ntmps31
  go_wp2_with fail
  rw [HWW.out]
  refine (C1.out (w.heap.size + 1) W HKR.out).mono ?_
  rintro e w1 ⟨rfl, hkr, hg⟩
  have hs := HS.out
  have HK01 := Lib.hid (blk_grown HK0.out hg (by intro e; injection e with e; omega))
  have HKR1 := Lib.hid (blk_alloc hkr (.cells #[.int .i64 (k : Int), .string ⟨#[]⟩, .slice none 0 0] 50))
  have HB1 := Lib.hid (bl_grown HB0.out hg (by omega) HB0.out.size)
  have HS1 := Lib.hid (show w.heap.size + 2 ≤ w1.heap.size by have := hg.size; omega)
  have KB := blk_new w1 (.cells #[.int .i64 (k : Int), .string ⟨#[]⟩, .slice none 0 0] 50)
  obtain ⟨V, hV⟩ : ∃ V, w1.alloc (.cells #[.int .i64 (k : Int), .string ⟨#[]⟩, .slice none 0 0] 50) = V := ⟨_, rfl⟩
  have hVs : V.heap.size = w1.heap.size + 1 := by rw [← hV]; simp
  have HK0V := Lib.hid (show V.heap[w.heap.size]? = _ from hV ▸ blk_alloc HK01.out (.cells #[.int .i64 (k : Int), .string ⟨#[]⟩, .slice none 0 0] 50))
  have HBV := Lib.hid (show Below w.heap.size w V from hV ▸ bl_alloc _ HB1.out)
  rw [hV] at KB HKR1
  have HVV := Lib.hid hV
  obtain ⟨b, hbs⟩ : ∃ b, w1.heap.size = b := ⟨_, rfl⟩
  rw [hbs] at KB hVs HS1
  have HBS := Lib.hid hbs
  have HKB := Lib.hid KB
  have HVS := Lib.hid hVs
  have rR := blk_cells hkr
  have BV := bl_refl w1
  simp only [rdC] at rR
  clear hkr hg hs KB hV hVs hbs r1 B0 HK0 HKR HK01 HB0 HB1
  go_wp2_with fail
  rw [HVV.out, HBS.out]
  refine (C2.out (w.heap.size + 1) V HKR1.out).mono ?_
  rintro e w2 ⟨rfl, hkr, hg⟩
  have hs1 := HS1.out
  have hvs := HVS.out
  have kb2 := blk_grown HKB.out hg (by intro e; injection e with e; omega)
  have HK02 := Lib.hid (blk_far (p := ⟨b, 1, none⟩) (blk_grown HK0V.out hg (by intro e; injection e with e; omega)) (by show w.heap.size ≠ b; omega) (.string (bS t)))
  have HKR2 := Lib.hid (blk_far (p := ⟨b, 1, none⟩) hkr (by show w.heap.size + 1 ≠ b; omega) (.string (bS t)))
  have HKB2 := Lib.hid (blk_put kb2 1 (.string (bS t)) rfl)
  have HB2 := Lib.hid (bl_set (g := b) (j := 1) (u := .string (bS t)) (bl_grown HBV.out hg (by omega) HBV.out.size) (by omega))
  have HS2 := Lib.hid (show V.heap.size ≤ (w2.setCell ⟨b, 1, none⟩ (.string (bS t))).heap.size by have := hg.size; simpa using this)
  have rB := blk_cells kb2
  have zB := blk_frz kb2
  have Bw2 := bl_refl w2
  obtain ⟨V2, hV⟩ : ∃ V2, w2.setCell ⟨b, 1, none⟩ (.string (bS t)) = V2 := ⟨_, rfl⟩
  rw [hV] at HK02 HKR2 HKB2 HB2 HS2
  have HVV2 := Lib.hid hV
  have rRb := blk_cells hkr
  simp only [rdC] at rRb
  have hne1 : w.heap.size + 1 ≠ b := by omega
  have hne2 : b ≠ w.heap.size + 1 := by omega
  clear rR hkr hg hs1 hvs kb2 hV HKR1 HKB HK0V HBV BV
  go_wp2_with fail
  rw [HVV2.out]
  refine (C3.out (w.heap.size + 1) V2 HKR2.out).mono ?_
  rintro e w3 ⟨rfl, hkr, hg⟩
  have hs1 := HS1.out
  have hvs := HVS.out
  have HK03 := Lib.hid (blk_grown HK02.out hg (by intro e; injection e with e; omega))
  have HKR3 := Lib.hid hkr
  have HKB3 := Lib.hid (blk_grown HKB2.out hg (by intro e; injection e with e; omega))
  have HB3 := Lib.hid (bl_grown HB2.out hg (by omega) HB2.out.size)
  have HS3 := Lib.hid (show V.heap.size ≤ w3.heap.size from Nat.le_trans HS2.out hg.size)
  clear hkr hg hs1 hvs rRb rB zB Bw2 HKR2 HKB2 HK02 HB2 HS2 HVV2
  go_wp2
  go_loopg [31] n (fun gg s31 wr => ∃ (i : Nat) (ws : List Wr) (l : Bs) (ok : Bool) (A : Option Addr) (c : Nat), i ≤ n ∧ n - i ≤ gg ∧ s31 = .int .u64 i ∧ Hid (wr.heap[w.heap.size]? = some (.cells #[.int .i64 0, .string ⟨#[]⟩, .slice none 0 0] 50 (0, 0))) ∧ Hid (wr.heap[w.heap.size + 1]? = some (.cells (rdC l ok) 152 (0, 0))) ∧ Hid (wr.heap[b]? = some (.cells #[.int .i64 (k : Int), .string (bS t), .slice A ws.length c] 50 (0, 0))) ∧ Hid (Kd.R kWr 127 wr V.heap.size (fun _ => True) (.slice A ws.length c) ws) ∧ Hid (iterT i ([], l3, ok3) = (ws, l, ok)) ∧ Hid (l.length ≤ 4611686018427387904 ∧ ws.length = i) ∧ Hid (Below w.heap.size w wr) ∧ Hid (V.heap.size ≤ wr.heap.size))
  case atStart => exact ⟨0, [], l3, ok3, none, 0, Nat.zero_le _, by omega, rfl, HK03.out, HKR3.out, HKB3.out, Kd.R_nil .., rfl, ⟨HL3.out, rfl⟩, HB3.out, HS3.out⟩
  case round =>
    obtain ⟨i, ws, l, ok, A, c, hi, hgg, rfl, HK0, HKR, HKB, HR, HIT, HLN, HB, HSZ⟩ := hrel
    clear HK03 HKR3 HKB3 HB3 HS3
    have rR := blk_cells HKR.out
    simp only [rdC] at rR
    have rB := blk_cells HKB.out
    have Br := bl_refl wr
    by_cases hlt : i < n
    · have hltz : (i : Int) < (n : Int) := by omega
      have hi0 : (0 : Int) ≤ (i : Int) := by omega
      have hwi : IntKind.u64.wrap ((i : Int) + 1) = (i : Int) + 1 := IntWalk.u64_in _ (And.intro (by omega) (by omega))
      obtain ⟨d, l4, ok4, h4⟩ : ∃ d l4 ok4, nmF l ok 1 = (d, l4, ok4) := ⟨_, _, _, rfl⟩
      obtain ⟨key, l5, ok5, h5⟩ : ∃ key l5 ok5, txF l4 ok4 32 = (key, l5, ok5) := ⟨_, _, _, rfl⟩
      obtain ⟨val, l6, ok6, h6⟩ : ∃ val l6 ok6, txF l5 ok5 64 = (val, l6, ok6) := ⟨_, _, _, rfl⟩
      have g4 : l4.length ≤ l.length := by have := nmF_len l ok 1; rw [h4] at this; exact this
      have g5 : l5.length ≤ l4.length := by have := txF_len l4 ok4 32; rw [h5] at this; exact this
      have g6 : l6.length ≤ l5.length := by have := txF_len l5 ok5 64; rw [h6] at this; exact this
      have hl := HLN.out.1
      have c4 := fun g w hk => num96 g l ok 1 hl w hk
      have c5 := fun g w hk => text97 g l4 ok4 32 (by omega) (by omega) w hk
      have c6 := fun g w hk => text97 g l5 ok5 64 (by omega) (by omega) w hk
      rw [h4] at c4
      rw [h5] at c5
      rw [h6] at c6
      have C4 := Lib.hid c4
      have C5 := Lib.hid c5
      have C6 := Lib.hid c6
      have HST := Lib.hid (show iterT (i + 1) ([], l3, ok3) = (ws ++ [⟨bS key, bS val, d == 1⟩], l6, ok6) by
        show stepT (iterT i ([], l3, ok3)) = _
        rw [HIT.out]
        exact stepT_of h4 h5 h6)
      have HL6 := Lib.hid (show l6.length ≤ 4611686018427387904 by omega)
      have HLT := Lib.hid hlt
      obtain ⟨dl, hdl⟩ : ∃ dl : Bool, (d == 1) = dl := ⟨_, rfl⟩
      have hdz : ((d : Int) == 1) = dl := by rw [← hdl, Bool.eq_iff_iff, beq_iff_eq, beq_iff_eq]; omega
      rw [hdl] at HST
      clear c4 c5 c6 h4 h5 h6 g4 g5 g6 hl hlt hdl
      go_wp2_with fail
      refine (C4.out (w.heap.size + 1) wr HKR.out).mono ?_
      rintro e w4 ⟨rfl, hkr, hg⟩
      have hs1 := HS1.out
      have hvs := HVS.out
      have hsz := HSZ.out
      have HK04 := Lib.hid (blk_alloc (blk_grown HK0.out hg (by intro e; injection e with e; omega)) (.cells #[.string ⟨#[]⟩, .string ⟨#[]⟩, .bool dl] 127))
      have HKR4 := Lib.hid (blk_alloc hkr (.cells #[.string ⟨#[]⟩, .string ⟨#[]⟩, .bool dl] 127))
      have HKB4 := Lib.hid (blk_alloc (blk_grown HKB.out hg (by intro e; injection e with e; omega)) (.cells #[.string ⟨#[]⟩, .string ⟨#[]⟩, .bool dl] 127))
      have hb4 : ∀ j, V.heap.size ≤ j → j < wr.heap.size → w4.heap[j]? = wr.heap[j]? := fun j h1 h2 => hg.block j h2 (by intro e; injection e with e; omega)
      have HE4 := Lib.hid (show ∀ j, V.heap.size ≤ j → j < wr.heap.size → (w4.alloc (.cells #[.string ⟨#[]⟩, .string ⟨#[]⟩, .bool dl] 127)).heap[j]? = wr.heap[j]? from fun j h1 h2 => (Below.heap_alloc w4 _ j (Nat.lt_of_lt_of_le h2 hg.size)).trans (hb4 j h1 h2))
      have HRB := Lib.hid (Kd.R_mono (Kd.R_bound HR.out) (fun j hj => ⟨hj.2.1, hj.2.2.1⟩ : ∀ j, _ → V.heap.size ≤ j ∧ j < wr.heap.size))
      have HWX := Lib.hid hg.size
      have HB4 := Lib.hid (bl_alloc (.cells #[.string ⟨#[]⟩, .string ⟨#[]⟩, .bool dl] 127) (bl_grown HB.out hg (by omega) HB.out.size))
      have KX := blk_new w4 (.cells #[.string ⟨#[]⟩, .string ⟨#[]⟩, .bool dl] 127)
      obtain ⟨V4, hV4⟩ : ∃ V4, w4.alloc (.cells #[.string ⟨#[]⟩, .string ⟨#[]⟩, .bool dl] 127) = V4 := ⟨_, rfl⟩
      have hV4s : V4.heap.size = w4.heap.size + 1 := by rw [← hV4]; simp
      rw [hV4] at HK04 HKR4 HKB4 HE4 HB4 KX
      obtain ⟨x, hx⟩ : ∃ x, w4.heap.size = x := ⟨_, rfl⟩
      have hxV : V.heap.size ≤ x := by rw [← hx]; exact Nat.le_trans hsz hg.size
      rw [hx] at KX hV4s HWX
      have HX := Lib.hid hx
      have HVV4 := Lib.hid hV4
      have HKX := Lib.hid KX
      have HXV := Lib.hid hxV
      have HV4S := Lib.hid hV4s
      have rR4 := blk_cells hkr
      simp only [rdC] at rR4
      have BV4 := bl_refl w4
      clear rR rB Br hkr hg hb4 hs1 hvs hsz hV4 hV4s hx hxV KX HK0 HKR HKB HR HB HSZ
      go_wp2_with fail
      rw [HVV4.out, HX.out]
      refine (C5.out (w.heap.size + 1) V4 HKR4.out).mono ?_
      rintro e w5 ⟨rfl, hkr, hg⟩
      have hs1 := HS1.out
      have hvs := HVS.out
      have hxV := HXV.out
      have hv4 := HV4S.out
      have kx5 := blk_grown HKX.out hg (by intro e; injection e with e; omega)
      have HK05 := Lib.hid (blk_far (p := ⟨x, 0, none⟩) (blk_grown HK04.out hg (by intro e; injection e with e; omega)) (by show w.heap.size ≠ x; omega) (.string (bS key)))
      have HKR5 := Lib.hid (blk_far (p := ⟨x, 0, none⟩) hkr (by show w.heap.size + 1 ≠ x; omega) (.string (bS key)))
      have HKB5 := Lib.hid (blk_far (p := ⟨x, 0, none⟩) (blk_grown HKB4.out hg (by intro e; injection e with e; omega)) (by show b ≠ x; omega) (.string (bS key)))
      have HKX5 := Lib.hid (blk_put kx5 0 (.string (bS key)) rfl)
      have HB5 := Lib.hid (bl_set (g := x) (j := 0) (u := .string (bS key)) (bl_grown HB4.out hg (by omega) HB4.out.size) (by omega))
      have hwx := HWX.out
      have HE5 := Lib.hid (show ∀ j, V.heap.size ≤ j → j < wr.heap.size → (w5.setCell ⟨x, 0, none⟩ (.string (bS key))).heap[j]? = wr.heap[j]? from fun j h1 h2 => (Below.heap_setCell w5 ⟨x, 0, none⟩ _ j (by show j ≠ x; omega)).trans ((hg.block j (by omega) (by intro e; injection e with e; omega)).trans (HE4.out j h1 h2)))
      have HS5 := Lib.hid (show x < w5.heap.size by have := hg.size; omega)
      have rX := blk_cells kx5
      have zX := blk_frz kx5
      have rRb := blk_cells hkr
      simp only [rdC] at rRb
      have Bw5 := bl_refl w5
      have hnx1 : w.heap.size + 1 ≠ x := by omega
      have hnx2 : x ≠ w.heap.size + 1 := by omega
      obtain ⟨V5, hV5⟩ : ∃ V5, w5.setCell ⟨x, 0, none⟩ (.string (bS key)) = V5 := ⟨_, rfl⟩
      rw [hV5] at HK05 HKR5 HKB5 HKX5 HB5 HE5
      have HVV5 := Lib.hid hV5
      clear rR4 BV4 hkr hg hs1 hvs hxV hv4 kx5 hV5 hwx HK04 HKR4 HKB4 HKX HB4 HE4
      go_wp2_with fail
      rw [HVV5.out]
      refine (C6.out (w.heap.size + 1) V5 HKR5.out).mono ?_
      rintro e w6 ⟨rfl, hkr, hg⟩
      have hs1 := HS1.out
      have hvs := HVS.out
      have hxV := HXV.out
      have hwx := HWX.out
      have hs5 : x < V5.heap.size := by have := HS5.out; rw [← HVV5.out]; simpa using this
      have kx6 := blk_grown HKX5.out hg (by intro e; injection e with e; omega)
      have kb6 := blk_grown HKB5.out hg (by intro e; injection e with e; omega)
      have hx6 : x < w6.heap.size := Nat.lt_of_lt_of_le hs5 hg.size
      have HK06 := Lib.hid (blk_alloc (blk_far (p := ⟨x, 1, none⟩) (blk_grown HK05.out hg (by intro e; injection e with e; omega)) (by show w.heap.size ≠ x; omega) (.string (bS val))) (.cells #[.string (bS key), .string (bS val), .bool dl] 127))
      have HKR6 := Lib.hid (blk_alloc (blk_far (p := ⟨x, 1, none⟩) hkr (by show w.heap.size + 1 ≠ x; omega) (.string (bS val))) (.cells #[.string (bS key), .string (bS val), .bool dl] 127))
      have HKB6 := Lib.hid (blk_alloc (blk_far (p := ⟨x, 1, none⟩) kb6 (by show b ≠ x; omega) (.string (bS val))) (.cells #[.string (bS key), .string (bS val), .bool dl] 127))
      have HB6 := Lib.hid (bl_alloc (.cells #[.string (bS key), .string (bS val), .bool dl] 127) (bl_set (g := x) (j := 1) (u := .string (bS val)) (bl_grown HB5.out hg (by omega) HB5.out.size) (by omega)))
      have HR6 := Lib.hid (Kd.R_alloc (Kd.R_mono (Kd.R_move HRB.out (fun j hj => show (w6.setCell ⟨x, 1, none⟩ (.string (bS val))).heap[j]? = wr.heap[j]? from (Below.heap_setCell w6 ⟨x, 1, none⟩ _ j (by show j ≠ x; have := hj.2; omega)).trans ((hg.block j (by have := hj.2; omega) (by intro e; injection e with e; have := hj.1; omega)).trans (HE5.out j hj.1 hj.2)))) (fun _ _ => trivial : ∀ j, _ → True)) (.cells #[.string (bS key), .string (bS val), .bool dl] 127))
      have hK := blk_new (w6.setCell ⟨x, 1, none⟩ (.string (bS val))) (.cells #[.string (bS key), .string (bS val), .bool dl] 127)
      rw [show (w6.setCell ⟨x, 1, none⟩ (.string (bS val))).heap.size = w6.heap.size from by simp] at hK
      have HKN := Lib.hid hK
      have HVX := Lib.hid (show V.heap.size ≤ ((w6.setCell ⟨x, 1, none⟩ (.string (bS val))).alloc (.cells #[.string (bS key), .string (bS val), .bool dl] 127)).heap.size by simp; omega)
      have rX := blk_cells kx6
      have zX := blk_frz kx6
      have rB := blk_cells kb6
      have zB := blk_frz kb6
      have Bw6 := bl_refl w6
      have hbx : b ≠ x := by omega
      have hbx2 : x ≠ b := by omega
      clear rRb hne1 hne2 hnx1 hnx2 hkr hg hs1 hvs hxV hwx hs5 kx6 kb6 hx6 hK HK05 HKR5 HKB5 HKX5 HB5 HE5 HRB Bw5
      go_wp2_with ((with_reducible refine gate_dst (N := 59) rfl ?_); refine Stop.go ?_)
      refine ⟨flat_app (f := Wr.cells) (w0 := (w6.setCell ⟨x, 1, none⟩ (.string (bS val))).alloc (.cells #[.string (bS key), .string (bS val), .bool dl] 127)) V.heap.size rfl (.tmp 56) (.tmp 58) 48 127 _ 40 rfl Try.underlying48 info127 rfl (by decide) (by omega) _ ws [⟨bS key, bS val, dl⟩] (some ⟨_, 0, none⟩) 1 1 rfl rfl (by omega) HR6.out (C_one (f := Wr.cells) (t := 127) ⟨bS key, bS val, dl⟩ HKN.out) (Below.refl _ _) HVX.out (by have := HLN.out.2; have := HN24.out; omega) ?_⟩
      intro g7 cap7 w7 hR7 hb7 hge7_ hat7_ hg7_ hlt7_
      have hs1 := HS1.out
      have hvs := HVS.out
      have hK07 := (hb7.block w.heap.size (by omega)).trans HK06.out
      have hKR7 := (hb7.block (w.heap.size + 1) (by omega)).trans HKR6.out
      have hKB7 := (hb7.block b (by omega)).trans HKB6.out
      have HK08 := Lib.hid (blk_far (p := ⟨b, 2, none⟩) hK07 (by show w.heap.size ≠ b; omega) (.slice (some ⟨g7, 0, none⟩) (ws.length + 1) cap7))
      have HKR8 := Lib.hid (blk_far (p := ⟨b, 2, none⟩) hKR7 (by show w.heap.size + 1 ≠ b; omega) (.slice (some ⟨g7, 0, none⟩) (ws.length + 1) cap7))
      have HKB8 := Lib.hid (blk_put hKB7 2 (.slice (some ⟨g7, 0, none⟩) (ws.length + 1) cap7) rfl)
      have HR8 := Lib.hid (R_farB hR7 (show b < V.heap.size by omega) 2 (.slice (some ⟨g7, 0, none⟩) (ws.length + 1) cap7))
      have HB8 := Lib.hid (bl_set (g := b) (j := 2) (u := .slice (some ⟨g7, 0, none⟩) (ws.length + 1) cap7) (bl_low HB6.out hb7 (by omega)) (by omega))
      have HS8 := Lib.hid (show V.heap.size ≤ (w7.setCell ⟨b, 2, none⟩ (.slice (some ⟨g7, 0, none⟩) (ws.length + 1) cap7)).heap.size by have := hb7.size; have := HVX.out; simp at *; omega)
      have rB7 := blk_cells hKB7
      have zB7 := blk_frz hKB7
      have Bw7 := bl_refl w7
      clear hR7 hb7 hge7_ hat7_ hg7_ hlt7_ hs1 hvs hK07 hKR7 hKB7 rX zX rB zB Bw6 HK06 HKR6 HKB6 HB6 HR6 HKN HVX
      go_wp2
      go_roundg (n - (i + 1))
      case measure => have := HLT.out; omega
      case rel =>
        refine ⟨i + 1, ws ++ [(⟨bS key, bS val, dl⟩ : Wr)], l6, ok6, some ⟨g7, 0, none⟩, cap7, by have := HLT.out; omega, Nat.le_refl _, by first | go_num | simp, HK08.out, HKR8.out, ?_, ?_, HST.out, ⟨HL6.out, by rw [List.length_append, HLN.out.2]; rfl⟩, HB8.out, HS8.out⟩
        · rw [List.length_append]; exact HKB8.out
        · show Kd.R kWr 127 _ V.heap.size (fun _ => True) (.slice (some ⟨g7, 0, none⟩) (ws ++ [(⟨bS key, bS val, dl⟩ : Wr)]).length cap7) (ws ++ [(⟨bS key, bS val, dl⟩ : Wr)])
          rw [List.length_append]; exact HR8.out
    · have hltz : ¬ (i : Int) < (n : Int) := by omega
      obtain rfl : i = n := by omega
      have HTT := Lib.hid (HT.out l ok ws HIT.out)
      have r0 := blk_cells HK0.out
      have z0 := blk_frz HK0.out
      have hs1 := HS1.out
      have hn0 : w.heap.size ≠ b := by omega
      have hn1 : b ≠ w.heap.size := by omega
      have hvw : w.heap.size ≤ V.heap.size := by have := HVS.out; omega
      have HVW := Lib.hid hvw
      clear hs1 hvw hgg
      cases ok with
      | false =>
        have HR0 := Lib.hid (show takeB LL = (⟨0, ⟨#[]⟩, []⟩, 3) by rw [HTT.out, if_neg (by simp)])
        go_wp2
        rw [HR0.out]
        refine bodyPost_ret (v := .tuple #[.agg #[.int .i64 0, .string ⟨#[]⟩, .slice none 0 0], .int .i64 3]) (by simp [results, Try.results31, go_sem, r0, z0, Br]) rfl ⟨none, 0, rfl, Kd.R_nil .., ?_⟩
        iterate 3 refine bl_set ?_ (Nat.le_refl _)
        exact HB.out
      | true =>
        cases hle : (bS l).toList.isEmpty with
        | false =>
          have HR0 := Lib.hid (show takeB LL = (⟨0, ⟨#[]⟩, []⟩, 3) by
            rw [HTT.out, if_neg]
            rintro ⟨h, _⟩
            rw [Lib.toList_data, bS_toList, show l = [] from by simpa using h] at hle
            cases hle)
          go_wp2
          rw [HR0.out]
          refine bodyPost_ret (v := .tuple #[.agg #[.int .i64 0, .string ⟨#[]⟩, .slice none 0 0], .int .i64 3]) (by simp [results, Try.results31, go_sem, r0, z0, Br]) rfl ⟨none, 0, rfl, Kd.R_nil .., ?_⟩
          iterate 3 refine bl_set ?_ (Nat.le_refl _)
          exact HB.out
        | true =>
          have hl0 : l = [] := by
            have : (bS l).data.toList = [] := by rw [← Lib.toList_data]; exact List.isEmpty_iff.1 hle
            rwa [bS_toList] at this
          have HL0 := Lib.hid hl0
          have HMY := Lib.hid (fun W' h => may34 A c ⟨(k : Int), bS t, ws⟩ W' h)
          have HCW := Lib.hid (Kd.R_reads' HR.out).2.2
          clear hl0
          cases hm : (⟨(k : Int), bS t, ws⟩ : Bt).may with
          | false =>
            rw [hm] at HMY
            have HR0 := Lib.hid (show takeB LL = (⟨0, ⟨#[]⟩, []⟩, 3) by rw [HTT.out, if_neg (by rw [hm]; simp)])
            clear hm
            go_wp2_with fail
            refine (HMY.out wr HCW.out).mono ?_
            rintro e w2 ⟨rfl, hb⟩
            have HB2 := Lib.hid (bl_trans HB.out hb)
            have B2 : Below wr.heap.size wr w2 := hb
            clear hb
            go_wp2
            rw [HR0.out]
            refine bodyPost_ret (v := .tuple #[.agg #[.int .i64 0, .string ⟨#[]⟩, .slice none 0 0], .int .i64 3]) (by simp [results, Try.results31, go_sem, r0, z0, B2]) rfl ⟨none, 0, rfl, Kd.R_nil .., ?_⟩
            iterate 3 refine bl_set ?_ (Nat.le_refl _)
            exact HB2.out
          | true =>
            rw [hm] at HMY
            have HR0 := Lib.hid (show takeB LL = (⟨(k : Int), bS t, ws⟩, 0) by rw [HTT.out, if_pos ⟨by rw [HL0.out], hm⟩])
            clear hm
            go_wp2_with fail
            refine (HMY.out wr HCW.out).mono ?_
            rintro e w2 ⟨rfl, hb⟩
            have HB2 := Lib.hid (bl_trans HB.out hb)
            have HR2 := Lib.hid (Kd.R_below HR.out hb)
            have B2 : Below wr.heap.size wr w2 := hb
            clear hb
            go_wp2
            rw [HR0.out]
            have hvs := HVS.out
            have hs1 := HS1.out
            refine bodyPost_ret (v := .tuple #[.agg #[.int .i64 (k : Int), .string (bS t), .slice A ws.length c], .int .i64 0]) (by simp [results, Try.results31, go_sem, r0, z0, rB, B2, World.cell?_setCell_far, hn0, hn1]) rfl ⟨A, c, rfl, ?_, ?_⟩
            · refine Kd.R_lower (show Kd.R kWr 127 _ V.heap.size (fun _ => True) _ _ from ?_) HVW.out
              iterate 3 refine R_farB ?_ (by omega) _ _
              exact HR2.out
            · iterate 3 refine bl_set ?_ (Nat.le_refl _)
              exact HB2.out
end Go.Proofs.Ytkcebmamohimoaa
