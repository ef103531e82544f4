/- The batch of bytes, the reference's. -/
import Derived.Test.YtkcebmamohimoaaB9
namespace Go.Proofs.Ytkcebmamohimoaa
open Go.RowKit Go.Proofs.YtkcebmamohimoaaW.PrintWords
set_option linter.unusedVariables false
set_option linter.unusedSimpArgs false
attribute [local go_sem] bl_refl bl_alloc bl_drew bl_drewN bS_size
theorem nmF_good {l r : Bs} {v most : Nat} {e : Int} (h : tnL l = (v, r, e)) (he : e = 0) (hv : v ≤ most) : nmF l true most = (v, r, true) := by
  unfold nmF; rw [h, he]; simp [hv]
theorem nmF_bad {l r : Bs} {v most : Nat} {e : Int} {ok : Bool} (h : tnL l = (v, r, e)) (hb : e ≠ 0 ∨ most < v) : (nmF l ok most).2.2 = false := by
  unfold nmF; rw [h]
  simp only []
  rcases hb with hb | hb
  · rw [beq_eq_false_iff_ne.2 hb]; simp
  · rw [decide_eq_false (show ¬ v ≤ most by omega)]; simp
theorem txF_good {l t r : Bs} {most : Nat} {e : Int} (h : ttL l most = (t, r, e)) (he : e = 0) : txF l true most = (t, r, true) := by
  unfold txF; rw [h, he]; rfl
theorem txF_bad {l t r : Bs} {most : Nat} {e : Int} {ok : Bool} (h : ttL l most = (t, r, e)) (hb : e ≠ 0) : (txF l ok most).2.2 = false := by
  unfold txF; rw [h]; simp only []; rw [beq_eq_false_iff_ne.2 hb]; simp
theorem nmF_dead (l : Bs) (most : Nat) : (nmF l false most).2.2 = false := rfl
theorem txF_dead (l : Bs) (most : Nat) : (txF l false most).2.2 = false := rfl
theorem stepT_dead (s : List Wr × Bs × Bool) (h : s.2.2 = false) : (stepT s).2.2 = false := by
  unfold stepT; rw [h]; rfl
theorem iterT_dead (s : List Wr × Bs × Bool) (i j : Nat) (h : (iterT i s).2.2 = false) : (iterT (i + j) s).2.2 = false := by
  induction j with
  | zero => exact h
  | succ j ih => exact stepT_dead _ ih
def zeroT : Bt × Int := (⟨0, ⟨#[]⟩, []⟩, 3)
theorem takeB_dead {l : Bs} (h : (parseB l).2.2 = false) : takeB l = zeroT := by
  rw [takeB_parse, if_neg]; rfl
  rintro ⟨e, _⟩
  rw [e] at h; cases h
theorem iterT_dead0 (s : List Wr × Bs × Bool) (n : Nat) (h : s.2.2 = false) : (iterT n s).2.2 = false := by
  have := iterT_dead s 0 n h
  rwa [Nat.zero_add] at this
theorem bad1 {l : Bs} (h : (nmF l true 2).2.2 = false) : takeB l = zeroT := by
  refine takeB_dead ?_
  unfold parseB
  simp only []
  rw [h, txF_dead]
  exact iterT_dead0 _ _ (nmF_dead _ _)
theorem bad2 {l l1 : Bs} {k : Nat} (h1 : nmF l true 2 = (k, l1, true)) (h : (txF l1 true 16).2.2 = false) : takeB l = zeroT := by
  refine takeB_dead ?_
  unfold parseB
  simp only [h1]
  rw [h]
  exact iterT_dead0 _ _ (nmF_dead _ _)
theorem bad3 {l l1 l2 t : Bs} {k : Nat} (h1 : nmF l true 2 = (k, l1, true)) (h2 : txF l1 true 16 = (t, l2, true)) (h : (nmF l2 true 24).2.2 = false) : takeB l = zeroT := by
  refine takeB_dead ?_
  unfold parseB
  simp only [h1, h2]
  exact iterT_dead0 _ _ h
theorem bad4 {l l1 l2 l3 t : Bs} {k n : Nat} (h1 : nmF l true 2 = (k, l1, true)) (h2 : txF l1 true 16 = (t, l2, true)) (h3 : nmF l2 true 24 = (n, l3, true)) (i : Nat) (hi : i < n) (h : (iterT (i + 1) ([], l3, true)).2.2 = false) : takeB l = zeroT := by
  refine takeB_dead ?_
  have h4 : (iterT n ([], l3, true)).2.2 = false := by
    have := iterT_dead ([], l3, true) (i + 1) (n - (i + 1)) h
    rwa [show i + 1 + (n - (i + 1)) = n by omega] at this
  unfold parseB
  simp only [h1, h2, h3]
  exact h4
theorem step_bad1 {ws : List Wr} {l : Bs} (h : (nmF l true 1).2.2 = false) : (stepT (ws, l, true)).2.2 = false := by unfold stepT; simp only []; rw [h]; rfl
theorem step_bad2 {ws : List Wr} {l l4 : Bs} {d : Nat} (h4 : nmF l true 1 = (d, l4, true)) (h : (txF l4 true 32).2.2 = false) : (stepT (ws, l, true)).2.2 = false := by unfold stepT; simp only [h4]; rw [h]; rfl
theorem step_bad3 {ws : List Wr} {l l4 l5 key : Bs} {d : Nat} (h4 : nmF l true 1 = (d, l4, true)) (h5 : txF l4 true 32 = (key, l5, true)) (h : (txF l5 true 64).2.2 = false) : (stepT (ws, l, true)).2.2 = false := by unfold stepT; simp only [h4, h5]; exact h
set_option maxHeartbeats 16000000 in
set_option maxRecDepth 100000 in
theorem take32 (LL : Bs) (hl : LL.length ≤ 4611686018427387904) (w : World) :
    Calls Try.prog 32 #[.string (bS LL)] w fun e w' => ∃ A c, e = .returned (.tuple #[.agg #[.int .i64 (takeB LL).1.kind, .string (takeB LL).1.tok, .slice A (takeB LL).1.ws.length c], .int .i64 (takeB LL).2]) ∧ Kd.R kWr 127 w' w.heap.size (fun _ => True) (.slice A (takeB LL).1.ws.length c) (takeB LL).1.ws ∧ Below w.heap.size w w' := by
  have hsz := fun l : Bs => bS_size l
  have ct := fun (l : Bs) (h : l.length ≤ 4611686018427387904) w => tn98 (bS l) (by rw [bS_size]; exact h) w
  have cx := fun (l : Bs) (h : l.length ≤ 4611686018427387904) (m : Nat) (hm : m ≤ 4611686018427387904) w => tt99 (bS l) (by rw [bS_size]; exact h) m hm w
  have CT := Lib.hid ct
  have CX := Lib.hid cx
  clear ct cx hsz
  obtain ⟨W, hW, K0, HW, hs⟩ := boxes1 w #[.int .i64 0, .string ⟨#[]⟩, .slice none 0 0] 50
  have r0 := blk_cells K0
  have z0 := blk_frz K0
  have HK0 := Lib.hid K0
  have HB0 := Lib.hid HW
  have HS := Lib.hid hs
  have HWW := Lib.hid hW
  have B0 := bl_refl W
  obtain ⟨k, l1, e1, t1⟩ : ∃ k l1 e1, tnL LL = (k, l1, e1) := ⟨_, _, _, rfl⟩
  have hc := CT.out LL hl W
  rw [bS_toList, tnV_of t1] at hc
  have C1 := Lib.hid hc
  have T1 := Lib.hid t1
  have g1 : l1.length ≤ LL.length := by have := tnL_len LL; rw [t1] at this; exact this
  clear hW K0 HW hs hc t1
  go_enter Try.func32, Try.ntmps32
  go_wp2_with fail
  rw [HWW.out]
  refine C1.out.mono ?_
  rintro e w1 ⟨rfl, hb⟩
  have BB : Below W.heap.size W w1 := hb
  have HB1 := Lib.hid (bl_trans HB0.out hb)
  clear hb B0
  by_cases he1 : e1 = 0
  rotate_left
  · have x1 : (e1 != 0) = true := by rw [bne_iff_ne]; exact he1
    have x2 : (e1 == 0) = false := by rw [beq_eq_false_iff_ne]; exact he1
    have HE := Lib.hid he1
    clear he1
    have HR0 := Lib.hid (show takeB LL = zeroT from bad1 (nmF_bad T1.out (.inl HE.out)))
    go_wp2
    rw [HR0.out]
    refine bodyPost_ret (v := .tuple #[.agg #[.int .i64 0, .string ⟨#[]⟩, .slice none 0 0], .int .i64 3]) (by simp [results, Try.results32, go_sem, r0, z0, BB]) rfl ⟨none, 0, rfl, Kd.R_nil .., ?_⟩
    iterate 3 refine bl_set ?_ (Nat.le_refl _)
    exact HB1.out
  subst he1
  by_cases hvk : 2 < k
  · have x1 : (2 : Int) < (k : Int) := by omega
    have HV := Lib.hid hvk
    clear hvk
    have HR0 := Lib.hid (show takeB LL = zeroT from bad1 (nmF_bad T1.out (.inr HV.out)))
    go_wp2
    rw [HR0.out]
    refine bodyPost_ret (v := .tuple #[.agg #[.int .i64 0, .string ⟨#[]⟩, .slice none 0 0], .int .i64 3]) (by simp [results, Try.results32, go_sem, r0, z0, BB]) rfl ⟨none, 0, rfl, Kd.R_nil .., ?_⟩
    iterate 3 refine bl_set ?_ (Nat.le_refl _)
    exact HB1.out
  have yk : ¬ (2 : Int) < (k : Int) := by omega
  have Nk := Lib.hid (nmF_good (most := 2) T1.out rfl (by omega))
  obtain ⟨t, l2, e2, t2⟩ : ∃ t l2 e2, ttL l1 16 = (t, l2, e2) := ⟨_, _, _, rfl⟩
  have hc := CX.out l1 (by omega) 16 (by omega) w1
  rw [bS_toList, ttV_of t2] at hc
  have C2 := Lib.hid hc
  have T2 := Lib.hid t2
  have g2 : l2.length ≤ l1.length := by have := (ttL_len l1 16).1; rw [t2] at this; exact this
  clear hc t2
  go_wp2_with fail
  refine C2.out.mono ?_
  rintro e w2 ⟨rfl, hb⟩
  have BB2 : Below W.heap.size W w2 := bl_trans BB hb
  have HB2 := Lib.hid (bl_trans HB1.out hb)
  clear hb BB HB1
  have BB := BB2
  clear BB2
  by_cases he2 : e2 = 0
  rotate_left
  · have x1 : (e2 != 0) = true := by rw [bne_iff_ne]; exact he2
    have x2 : (e2 == 0) = false := by rw [beq_eq_false_iff_ne]; exact he2
    have HE := Lib.hid he2
    clear he2
    have HR0 := Lib.hid (show takeB LL = zeroT from bad2 Nk.out (txF_bad T2.out HE.out))
    go_wp2
    rw [HR0.out]
    refine bodyPost_ret (v := .tuple #[.agg #[.int .i64 0, .string ⟨#[]⟩, .slice none 0 0], .int .i64 3]) (by simp [results, Try.results32, go_sem, r0, z0, BB]) rfl ⟨none, 0, rfl, Kd.R_nil .., ?_⟩
    iterate 3 refine bl_set ?_ (Nat.le_refl _)
    exact HB2.out
  subst he2
  have N2 := Lib.hid (txF_good T2.out rfl)
  obtain ⟨n, l3, e3, t3⟩ : ∃ n l3 e3, tnL l2 = (n, l3, e3) := ⟨_, _, _, rfl⟩
  have hc := CT.out l2 (by omega) w2
  rw [bS_toList, tnV_of t3] at hc
  have C3 := Lib.hid hc
  have T3 := Lib.hid t3
  have g3 : l3.length ≤ l2.length := by have := tnL_len l2; rw [t3] at this; exact this
  clear hc t3
  go_wp2_with fail
  refine C3.out.mono ?_
  rintro e w3 ⟨rfl, hb⟩
  have BB2 : Below W.heap.size W w3 := bl_trans BB hb
  have HB3 := Lib.hid (bl_trans HB2.out hb)
  clear hb BB HB2
  have BB := BB2
  clear BB2
  by_cases he3 : e3 = 0
  rotate_left
  · have x1 : (e3 != 0) = true := by rw [bne_iff_ne]; exact he3
    have x2 : (e3 == 0) = false := by rw [beq_eq_false_iff_ne]; exact he3
    have HE := Lib.hid he3
    clear he3
    have HR0 := Lib.hid (show takeB LL = zeroT from bad3 Nk.out N2.out (nmF_bad T3.out (.inl HE.out)))
    go_wp2
    rw [HR0.out]
    refine bodyPost_ret (v := .tuple #[.agg #[.int .i64 0, .string ⟨#[]⟩, .slice none 0 0], .int .i64 3]) (by simp [results, Try.results32, go_sem, r0, z0, BB]) rfl ⟨none, 0, rfl, Kd.R_nil .., ?_⟩
    iterate 3 refine bl_set ?_ (Nat.le_refl _)
    exact HB3.out
  subst he3
  by_cases hvn : 24 < n
  · have x1 : (24 : Int) < (n : Int) := by omega
    have HV := Lib.hid hvn
    clear hvn
    have HR0 := Lib.hid (show takeB LL = zeroT from bad3 Nk.out N2.out (nmF_bad T3.out (.inr HV.out)))
    go_wp2
    rw [HR0.out]
    refine bodyPost_ret (v := .tuple #[.agg #[.int .i64 0, .string ⟨#[]⟩, .slice none 0 0], .int .i64 3]) (by simp [results, Try.results32, go_sem, r0, z0, BB]) rfl ⟨none, 0, rfl, Kd.R_nil .., ?_⟩
    iterate 3 refine bl_set ?_ (Nat.le_refl _)
    exact HB3.out
  have yn : ¬ (24 : Int) < (n : Int) := by omega
  have Nn := Lib.hid (nmF_good (most := 24) T3.out rfl (by omega))
  have hn24 : n ≤ 24 := by omega
  have hwk : IntKind.i64.wrap (k : Int) = (k : Int) := IntWalk.i64_in _ (And.intro (by omega) (by omega))
  have hk0 : (0 : Int) ≤ (k : Int) := by omega
  have HL3 := Lib.hid (show l3.length ≤ 4611686018427387904 by omega)
  have HN24 := Lib.hid hn24
  have HK03 := Lib.hid (blk_alloc (blk_below HK0.out BB) (.cells #[.int .i64 (k : Int), .string (bS t), .slice none 0 0] 50))
  have HKB3 := Lib.hid (blk_new w3 (.cells #[.int .i64 (k : Int), .string (bS t), .slice none 0 0] 50))
  have HB4 := Lib.hid (bl_alloc (.cells #[.int .i64 (k : Int), .string (bS t), .slice none 0 0] 50) HB3.out)
  obtain ⟨b, hbs⟩ : ∃ b, w3.heap.size = b := ⟨_, rfl⟩
  have HBS := Lib.hid hbs
  rw [hbs] at HKB3
  have hws : w.heap.size + 1 ≤ b := by rw [← hbs]; have := HS.out; have := BB.size; omega
  have HWS := Lib.hid hws
  have HSB := Lib.hid (show b + 1 ≤ (w3.alloc (.cells #[.int .i64 (k : Int), .string (bS t), .slice none 0 0] 50)).heap.size by simp; omega)
  clear g1 g2 g3 hl hvk hvn HK0 hbs hws r0 z0
  clear BB
  go_wp2
  rw [HBS.out]
  go_loopg [11, 14] n (fun gg s11 s14 wr => ∃ (i : Nat) (ws : List Wr) (l : Bs) (A : Option Addr) (c : Nat), i ≤ n ∧ n - i ≤ gg ∧ s11 = .string (bS l) ∧ s14 = .int .u64 i ∧ Hid (wr.heap[w.heap.size]? = some (.cells #[.int .i64 0, .string ⟨#[]⟩, .slice none 0 0] 50 (0, 0))) ∧ Hid (wr.heap[b]? = some (.cells #[.int .i64 (k : Int), .string (bS t), .slice A ws.length c] 50 (0, 0))) ∧ Hid (Kd.R kWr 127 wr (b + 1) (fun _ => True) (.slice A ws.length c) ws) ∧ Hid (iterT i ([], l3, true) = (ws, l, true)) ∧ Hid (l.length ≤ 4611686018427387904 ∧ ws.length = i) ∧ Hid (Below w.heap.size w wr) ∧ Hid (b + 1 ≤ wr.heap.size))
  case atStart => exact ⟨0, [], l3, none, 0, Nat.zero_le _, by omega, rfl, rfl, HK03.out, HKB3.out, Kd.R_nil .., rfl, ⟨HL3.out, rfl⟩, HB4.out, HSB.out⟩
  case round =>
    obtain ⟨i, ws, l, A, c, hi, hgg, rfl, rfl, HK0, HKB, HR, HIT, HLN, HB, HSZ⟩ := hrel
    clear HK03 HKB3 HB4 HSB
    have r0 := blk_cells HK0.out
    have z0 := blk_frz HK0.out
    have rB := blk_cells HKB.out
    have Br := bl_refl wr
    by_cases hlt : i < n
    · have hltz : (i : Int) < (n : Int) := by omega
      have hi0 : (0 : Int) ≤ (i : Int) := by omega
      have hwi : IntKind.u64.wrap ((i : Int) + 1) = (i : Int) + 1 := IntWalk.u64_in _ (And.intro (by omega) (by omega))
      have HLT := Lib.hid hlt
      have hll := HLN.out.1
      have HBAD := Lib.hid (fun h => bad4 Nk.out N2.out Nn.out i HLT.out (show (stepT (iterT i ([], l3, true))).2.2 = false by rw [HIT.out]; exact h))
      obtain ⟨d, l4, e4, t4⟩ : ∃ d l4 e4, tnL l = (d, l4, e4) := ⟨_, _, _, rfl⟩
      have hc := CT.out l hll wr
      rw [bS_toList, tnV_of t4] at hc
      have C4 := Lib.hid hc
      have T4 := Lib.hid t4
      have g4 : l4.length ≤ l.length := by have := tnL_len l; rw [t4] at this; exact this
      clear hc t4 hlt
      go_wp2_with fail
      refine C4.out.mono ?_
      rintro e w4 ⟨rfl, hb⟩
      have BB : Below wr.heap.size wr w4 := hb
      have HB4 := Lib.hid (bl_trans HB.out hb)
      clear hb
      by_cases he4 : e4 = 0
      rotate_left
      · have x1 : (e4 != 0) = true := by rw [bne_iff_ne]; exact he4
        have x2 : (e4 == 0) = false := by rw [beq_eq_false_iff_ne]; exact he4
        have HE := Lib.hid he4
        clear he4
        have HR0 := Lib.hid (show takeB LL = zeroT from HBAD.out (step_bad1 (nmF_bad T4.out (.inl HE.out))))
        go_wp2
        rw [HR0.out]
        refine bodyPost_ret (v := .tuple #[.agg #[.int .i64 0, .string ⟨#[]⟩, .slice none 0 0], .int .i64 3]) (by simp [results, Try.results32, go_sem, r0, z0, BB]) rfl ⟨none, 0, rfl, Kd.R_nil .., ?_⟩
        iterate 3 refine bl_set ?_ (Nat.le_refl _)
        exact HB4.out
      subst he4
      by_cases hvd : 1 < d
      · have x1 : (1 : Int) < (d : Int) := by omega
        have HV := Lib.hid hvd
        clear hvd
        have HR0 := Lib.hid (show takeB LL = zeroT from HBAD.out (step_bad1 (nmF_bad T4.out (.inr HV.out))))
        go_wp2
        rw [HR0.out]
        refine bodyPost_ret (v := .tuple #[.agg #[.int .i64 0, .string ⟨#[]⟩, .slice none 0 0], .int .i64 3]) (by simp [results, Try.results32, go_sem, r0, z0, BB]) rfl ⟨none, 0, rfl, Kd.R_nil .., ?_⟩
        iterate 3 refine bl_set ?_ (Nat.le_refl _)
        exact HB4.out
      have yd : ¬ (1 : Int) < (d : Int) := by omega
      have Nd := Lib.hid (nmF_good (most := 1) T4.out rfl (by omega))
      obtain ⟨key, l5, e5, t5⟩ : ∃ key l5 e5, ttL l4 32 = (key, l5, e5) := ⟨_, _, _, rfl⟩
      have hc := CX.out l4 (by omega) 32 (by omega) w4
      rw [bS_toList, ttV_of t5] at hc
      have C5 := Lib.hid hc
      have T5 := Lib.hid t5
      have g5 : l5.length ≤ l4.length := by have := (ttL_len l4 32).1; rw [t5] at this; exact this
      clear hc t5
      go_wp2_with fail
      refine C5.out.mono ?_
      rintro e w5 ⟨rfl, hb⟩
      have BB2 : Below wr.heap.size wr w5 := bl_trans BB hb
      have HB5 := Lib.hid (bl_trans HB4.out hb)
      clear hb BB HB4
      have BB := BB2
      clear BB2
      by_cases he5 : e5 = 0
      rotate_left
      · have x1 : (e5 != 0) = true := by rw [bne_iff_ne]; exact he5
        have x2 : (e5 == 0) = false := by rw [beq_eq_false_iff_ne]; exact he5
        have HE := Lib.hid he5
        clear he5
        have HR0 := Lib.hid (show takeB LL = zeroT from HBAD.out (step_bad2 Nd.out (txF_bad T5.out HE.out)))
        go_wp2
        rw [HR0.out]
        refine bodyPost_ret (v := .tuple #[.agg #[.int .i64 0, .string ⟨#[]⟩, .slice none 0 0], .int .i64 3]) (by simp [results, Try.results32, go_sem, r0, z0, BB]) rfl ⟨none, 0, rfl, Kd.R_nil .., ?_⟩
        iterate 3 refine bl_set ?_ (Nat.le_refl _)
        exact HB5.out
      subst he5
      have N5 := Lib.hid (txF_good T5.out rfl)
      obtain ⟨val, l6, e6, t6⟩ : ∃ val l6 e6, ttL l5 64 = (val, l6, e6) := ⟨_, _, _, rfl⟩
      have hc := CX.out l5 (by omega) 64 (by omega) w5
      rw [bS_toList, ttV_of t6] at hc
      have C6 := Lib.hid hc
      have T6 := Lib.hid t6
      have g6 : l6.length ≤ l5.length := by have := (ttL_len l5 64).1; rw [t6] at this; exact this
      clear hc t6
      go_wp2_with fail
      refine C6.out.mono ?_
      rintro e w6 ⟨rfl, hb⟩
      have BB2 : Below wr.heap.size wr w6 := bl_trans BB hb
      have HB6 := Lib.hid (bl_trans HB5.out hb)
      clear hb BB HB5
      have BB := BB2
      clear BB2
      by_cases he6 : e6 = 0
      rotate_left
      · have x1 : (e6 != 0) = true := by rw [bne_iff_ne]; exact he6
        have x2 : (e6 == 0) = false := by rw [beq_eq_false_iff_ne]; exact he6
        have HE := Lib.hid he6
        clear he6
        have HR0 := Lib.hid (show takeB LL = zeroT from HBAD.out (step_bad3 Nd.out N5.out (txF_bad T6.out HE.out)))
        go_wp2
        rw [HR0.out]
        refine bodyPost_ret (v := .tuple #[.agg #[.int .i64 0, .string ⟨#[]⟩, .slice none 0 0], .int .i64 3]) (by simp [results, Try.results32, go_sem, r0, z0, BB]) rfl ⟨none, 0, rfl, Kd.R_nil .., ?_⟩
        iterate 3 refine bl_set ?_ (Nat.le_refl _)
        exact HB6.out
      subst he6
      obtain ⟨dl, hdl⟩ : ∃ dl : Bool, (d == 1) = dl := ⟨_, rfl⟩
      have hdz : ((d : Int) == 1) = dl := by rw [← hdl, Bool.eq_iff_iff, beq_iff_eq, beq_iff_eq]; omega
      have HST := Lib.hid (show iterT (i + 1) ([], l3, true) = (ws ++ [(⟨bS key, bS val, dl⟩ : Wr)], l6, true) by
        show stepT (iterT i ([], l3, true)) = _
        rw [HIT.out, ← hdl]
        exact stepT_of Nd.out N5.out (txF_good T6.out rfl))
      have HL6 := Lib.hid (show l6.length ≤ 4611686018427387904 by omega)
      have hK := blk_new w6 (.cells #[.string (bS key), .string (bS val), .bool dl] 127)
      have HKN := Lib.hid hK
      have hws := HWS.out
      have hsz := HSZ.out
      have HBX := Lib.hid (show b + 1 ≤ (w6.alloc (.cells #[.string (bS key), .string (bS val), .bool dl] 127)).heap.size by have := BB.size; simp; omega)
      have HR6 := Lib.hid (Kd.R_alloc (Kd.R_below HR.out BB) (.cells #[.string (bS key), .string (bS val), .bool dl] 127))
      clear hdl hK hws hsz g4 g5 g6 hll hvd
      go_wp2_with ((with_reducible refine gate_dst (N := 108) rfl ?_); refine Stop.go ?_)
      refine ⟨flat_app (f := Wr.cells) (w0 := w6.alloc (.cells #[.string (bS key), .string (bS val), .bool dl] 127)) (b + 1) rfl (.tmp 101) (.tmp 107) 48 127 _ 40 rfl Try.underlying48 info127 rfl (by decide) (by omega) _ ws [⟨bS key, bS val, dl⟩] (some ⟨_, 0, none⟩) 1 1 rfl rfl (by omega) HR6.out (C_one (f := Wr.cells) (t := 127) ⟨bS key, bS val, dl⟩ HKN.out) (Below.refl _ _) HBX.out (by have := HLN.out.2; have := HN24.out; omega) ?_⟩
      intro g7 cap7 w7 hR7 hb7 hge7_ hat7_ hg7_ hlt7_
      have hws := HWS.out
      have hsz := HSZ.out
      have hK07 := (hb7.block w.heap.size (by omega)).trans (blk_alloc (blk_below HK0.out BB) (.cells #[.string (bS key), .string (bS val), .bool dl] 127))
      have hKB7 := (hb7.block b (by omega)).trans (blk_alloc (blk_below HKB.out BB) (.cells #[.string (bS key), .string (bS val), .bool dl] 127))
      have HK08 := Lib.hid (blk_far (p := ⟨b, 2, none⟩) hK07 (by show w.heap.size ≠ b; omega) (.slice (some ⟨g7, 0, none⟩) (ws.length + 1) cap7))
      have HKB8 := Lib.hid (blk_put hKB7 2 (.slice (some ⟨g7, 0, none⟩) (ws.length + 1) cap7) rfl)
      have HR8 := Lib.hid (R_farB hR7 (show b < b + 1 by omega) 2 (.slice (some ⟨g7, 0, none⟩) (ws.length + 1) cap7))
      have HB8 := Lib.hid (bl_set (g := b) (j := 2) (u := .slice (some ⟨g7, 0, none⟩) (ws.length + 1) cap7) (bl_low (bl_alloc (.cells #[.string (bS key), .string (bS val), .bool dl] 127) HB6.out) hb7 (by omega)) (by omega))
      have HS8 := Lib.hid (show b + 1 ≤ (w7.setCell ⟨b, 2, none⟩ (.slice (some ⟨g7, 0, none⟩) (ws.length + 1) cap7)).heap.size by have := hb7.size; have := HBX.out; simp at *; omega)
      have rB7 := blk_cells hKB7
      have zB7 := blk_frz hKB7
      have Bw7 := bl_refl w7
      clear hR7 hb7 hge7_ hat7_ hg7_ hlt7_ hws hsz hK07 hKB7 r0 z0 rB BB HB6 HR6 HKN HBX
      go_wp2
      go_roundg (n - (i + 1))
      case measure => have := HLT.out; omega
      case rel =>
        refine ⟨i + 1, ws ++ [(⟨bS key, bS val, dl⟩ : Wr)], l6, some ⟨g7, 0, none⟩, cap7, by have := HLT.out; omega, Nat.le_refl _, rfl, by first | go_num | simp, HK08.out, ?_, ?_, HST.out, ⟨HL6.out, by rw [List.length_append, HLN.out.2]; rfl⟩, HB8.out, HS8.out⟩
        · rw [List.length_append]; exact HKB8.out
        · show Kd.R kWr 127 _ (b + 1) (fun _ => True) (.slice (some ⟨g7, 0, none⟩) (ws ++ [(⟨bS key, bS val, dl⟩ : Wr)]).length cap7) (ws ++ [(⟨bS key, bS val, dl⟩ : Wr)])
          rw [List.length_append]; exact HR8.out
    · have hltz : ¬ (i : Int) < (n : Int) := by omega
      obtain rfl : i = n := by omega
      have HTT := Lib.hid (takeB_of Nk.out N2.out Nn.out HIT.out)
      have hws := HWS.out
      have hn0 : w.heap.size ≠ b := by omega
      have hn1 : b ≠ w.heap.size := by omega
      have HMY := Lib.hid (may35 A c ⟨(k : Int), bS t, ws⟩ wr (Kd.R_reads' HR.out).2.2)
      clear hws hgg
      cases hm : (⟨(k : Int), bS t, ws⟩ : Bt).may with
      | false =>
        rw [hm] at HMY
        have HZ := Lib.hid (show takeB LL = zeroT by rw [HTT.out, if_neg (by rw [hm]; simp)]; rfl)
        clear hm
        go_wp2_with fail
        refine HMY.out.mono ?_
        rintro e w2 ⟨rfl, hb⟩
        have HB2 := Lib.hid (bl_trans HB.out hb)
        have BB : Below wr.heap.size wr w2 := hb
        clear hb
        by_cases h0 : 0 < l.length
        · have h0z : (0 : Int) < (l.length : Int) := by omega
          have h0n : ¬ l = [] := fun e => by rw [e] at h0; exact absurd h0 (by simp)
          clear h0
          have HR0 := Lib.hid (show takeB LL = zeroT from HZ.out)
          go_wp2
          rw [HR0.out]
          refine bodyPost_ret (v := .tuple #[.agg #[.int .i64 0, .string ⟨#[]⟩, .slice none 0 0], .int .i64 3]) (by simp [results, Try.results32, go_sem, r0, z0, BB]) rfl ⟨none, 0, rfl, Kd.R_nil .., ?_⟩
          iterate 3 refine bl_set ?_ (Nat.le_refl _)
          exact HB2.out
        · obtain rfl : l = [] := List.length_eq_zero_iff.1 (by omega)
          clear h0
          have HR0 := Lib.hid (show takeB LL = zeroT from HZ.out)
          go_wp2
          rw [HR0.out]
          refine bodyPost_ret (v := .tuple #[.agg #[.int .i64 0, .string ⟨#[]⟩, .slice none 0 0], .int .i64 3]) (by simp [results, Try.results32, go_sem, r0, z0, BB]) rfl ⟨none, 0, rfl, Kd.R_nil .., ?_⟩
          iterate 3 refine bl_set ?_ (Nat.le_refl _)
          exact HB2.out
      | true =>
        rw [hm] at HMY
        have HM := Lib.hid hm
        clear hm
        go_wp2_with fail
        refine HMY.out.mono ?_
        rintro e w2 ⟨rfl, hb⟩
        have HB2 := Lib.hid (bl_trans HB.out hb)
        have HR2 := Lib.hid (Kd.R_below HR.out hb)
        have BB : Below wr.heap.size wr w2 := hb
        clear hb
        by_cases h0 : 0 < l.length
        · have h0z : (0 : Int) < (l.length : Int) := by omega
          have h0n : ¬ l = [] := fun e => by rw [e] at h0; exact absurd h0 (by simp)
          have HZ := Lib.hid (show takeB LL = zeroT by rw [HTT.out, if_neg (by rintro ⟨e, _⟩; rw [show l = [] from by simpa using e] at h0; exact absurd h0 (by simp))]; rfl)
          clear h0
          have HR0 := Lib.hid (show takeB LL = zeroT from HZ.out)
          go_wp2
          rw [HR0.out]
          refine bodyPost_ret (v := .tuple #[.agg #[.int .i64 0, .string ⟨#[]⟩, .slice none 0 0], .int .i64 3]) (by simp [results, Try.results32, go_sem, r0, z0, BB]) rfl ⟨none, 0, rfl, Kd.R_nil .., ?_⟩
          iterate 3 refine bl_set ?_ (Nat.le_refl _)
          exact HB2.out
        · obtain rfl : l = [] := List.length_eq_zero_iff.1 (by omega)
          have HR0 := Lib.hid (show takeB LL = (⟨(k : Int), bS t, ws⟩, 0) by rw [HTT.out, if_pos ⟨rfl, HM.out⟩])
          clear h0
          go_wp2
          rw [HR0.out]
          have hws := HWS.out
          refine bodyPost_ret (v := .tuple #[.agg #[.int .i64 (k : Int), .string (bS t), .slice A ws.length c], .int .i64 0]) (by simp [results, Try.results32, go_sem, r0, z0, rB, BB, World.cell?_setCell_far, hn0, hn1]) rfl ⟨A, c, rfl, ?_, ?_⟩
          · refine Kd.R_lower (show Kd.R kWr 127 _ (b + 1) (fun _ => True) _ _ from ?_) (by omega)
            iterate 3 refine R_farB ?_ (by omega) _ _
            exact HR2.out
          · iterate 3 refine bl_set ?_ (Nat.le_refl _)
            exact HB2.out
end Go.Proofs.Ytkcebmamohimoaa
