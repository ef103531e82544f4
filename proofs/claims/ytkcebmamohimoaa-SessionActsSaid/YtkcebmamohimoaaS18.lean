/- Sessions: time goes on, the program's and the reference's. -/
import Derived.Test.YtkcebmamohimoaaS17
import Derived.Test.YtkcebmamohimoaaS15
import Derived.Test.YtkcebmamohimoaaA8
import Derived.Test.YtkcebmamohimoaaWLast
namespace Go.Proofs.Ytkcebmamohimoaa
open Go.RowKit Go.Proofs.YtkcebmamohimoaaW.PrintWords Go.Proofs.YtkcebmamohimoaaW.PrintLast
set_option linter.unusedVariables false
set_option linter.unusedSimpArgs false
attribute [local go_sem] bl_refl bl_alloc bl_drew bl_drewN
/-- A session that was due is gone, and told. -/
def SS.tk (p : SS × List Ses) (id : Int) : SS × List Ses := if sIdx p.1 id < 0 then p else (p.1.but id, p.2 ++ [p.1.L[(sIdx p.1 id).toNat]!])
def SS.at' (s : SS) (now : Int) : SS := { s with now := if s.now < now then now else s.now }
def SS.tick0 (s : SS) : SS := { s with H := (aDue s.H.length s.H s.now).1 }
def SS.ids (s : SS) : List Int := (aDue s.H.length s.H s.now).2
def SS.tickF (s : SS) (now : Int) : SS × List Ses := (s.at' now).ids.foldl SS.tk ((s.at' now).tick0, [])
theorem aDue_ids (n : Nat) (h : List Alm) (now : Int) : (aDue n h now).2.length ≤ n := by
  induction n generalizing h with
  | zero => simp [aDue]
  | succ n ih =>
    unfold aDue
    split
    · have := ih (aRest h); simp; omega
    · simp
theorem foldl_take {α β : Type} [Inhabited β] (f : α → β → α) (a : α) (l : List β) (k : Nat) (hk : k < l.length) : (l.take (k + 1)).foldl f a = f ((l.take k).foldl f a) l[k]! := by
  rw [List.take_succ_eq_append_getElem hk, List.foldl_append, getElem!_pos l k hk]; rfl
theorem I_at {w : World} {A : Option Addr} {m : Nat} {xs : List Int} (h : Kd.C kI w A m xs) (k : Nat) (hk : k < m) : ∃ ad, A = some ad ∧ w.cell? (ad.add k) = some (.int .i64 xs[k]!) := by
  obtain ⟨ad, e, hc⟩ := flat_get h k hk
  exact ⟨ad, e, by have := hc 0 _ rfl; rwa [Nat.mul_one, Nat.add_zero] at this⟩
theorem IsSS.parts {ok : Nat → Prop} {w : World} {s : SS} {a b c : Value} {A1 A2 : Option Addr} {n1 n2 c1 c2 : Nat} (h : IsSS ok w (.agg #[a, .slice A1 n1 c1, .slice A2 n2 c2, b, c]) s) : Ft ok w (fun W => Kd.C kSes W A1 s.L.length s.L) ∧ s.L.length ≤ c1 ∧ Ft ok w (fun W => Kd.C kAlm W A2 s.H.length s.H) ∧ s.H.length ≤ c2 := by
  obtain ⟨A1', c1', A2', c2', e, h1, l1, h2, l2⟩ := h
  simp only [Value.agg.injEq, Array.mk.injEq, List.cons.injEq, Value.slice.injEq, and_true] at e
  obtain ⟨_, ⟨rfl, _, rfl⟩, ⟨rfl, _, rfl⟩, _, _⟩ := e
  exact ⟨h1, l1, h2, l2⟩
theorem IsSS.step {ok : Nat → Prop} {w w1 : World} {v : Value} {s : SS} (h : IsSS ok w v s) (hm : ∀ k, ok k → k < w.heap.size → w1.heap[k]? = w.heap[k]?) : IsSS ok w1 v s := by
  obtain ⟨A1, c1, A2, c2, e, h1, l1, h2, l2⟩ := h
  exact ⟨A1, c1, A2, c2, e, h1.step hm, l1, h2.step hm, l2⟩
theorem IsSS.cut {ok : Nat → Prop} {w : World} {v : Value} {s : SS} (h : IsSS ok w v s) : IsSS (fun k => ok k ∧ k < w.heap.size) w v s := h.mono (fun k hk hl => ⟨hk, hl⟩)
theorem far26 {W : World} {g b : Nat} {t : TypeId} {cs : Array Value} (h : W.heap[g]? = some (.cells cs t (0, 0))) (hne : g ≠ b) (u0 u1 u2 u3 u4 : Value) :
    (((((W.setCell ⟨b, 0, none⟩ u0).setCell ⟨b, 1, none⟩ u1).setCell ⟨b, 2, none⟩ u2).setCell ⟨b, 3, none⟩ u3).setCell ⟨b, 4, none⟩ u4).heap[g]? = some (.cells cs t (0, 0)) :=
  blk_far (p := ⟨b, 4, none⟩) (blk_far (p := ⟨b, 3, none⟩) (blk_far (p := ⟨b, 2, none⟩) (blk_far (p := ⟨b, 1, none⟩) (blk_far (p := ⟨b, 0, none⟩) h hne u0) hne u1) hne u2) hne u3) hne u4
theorem SS.but_len (s : SS) (id : Int) : (s.but id).L.length ≤ s.L.length := List.length_filter_le _ _
set_option maxHeartbeats 16000000 in
set_option maxRecDepth 100000 in
theorem tick46 (ok : Nat → Prop) (v : Value) (s : SS) (now : Int) (w : World) (h : IsSS ok w v s) (hsm : s.L.length ≤ 1000) (hsm2 : s.H.length ≤ 1000) :
    Calls Try.prog 46 #[v, .int .u64 now] w fun e w' => ∃ v' B d, e = .returned (.tuple #[v', .slice B (s.tickF now).2.length d]) ∧ IsSS (fun k => (ok k ∧ k < w.heap.size) ∨ w.heap.size ≤ k) w' v' (s.tickF now).1 ∧ Kd.R kSes 78 w' w.heap.size (fun _ => True) (.slice B (s.tickF now).2.length d) (s.tickF now).2 ∧ Below w.heap.size w w' := by
  obtain ⟨A1, c1, A2, c2, rfl, h1, l1, h2, l2⟩ := h
  by_cases hlt : s.now < now
  · obtain ⟨W, hW, K1, K2, HW, hs⟩ := boxes2 w #[.int .i64 s.epoch, .slice A1 s.L.length c1, .slice A2 s.H.length c2, .int .i64 s.next, .int .u64 now] 26 #[.int .i64 0, .slice none 0 0, .slice none 0 0, .int .i64 0, .int .u64 0] 26
    obtain ⟨RES, IDS, hD⟩ : ∃ RES IDS, aDue s.H.length s.H now = (RES, IDS) := ⟨_, _, rfl⟩
    have HT := Lib.hid (show s.tickF now = IDS.foldl SS.tk (⟨s.epoch, s.L, RES, s.next, now⟩, []) by
      unfold SS.tickF SS.ids SS.tick0 SS.at'
      simp only [if_pos hlt, hD])
    have HIL := Lib.hid (show IDS.length ≤ 1000 by have := aDue_ids s.H.length s.H now; rw [hD] at this; simp only [] at this; omega)
    have HDU := Lib.hid (due115 (fun k => ok k ∧ k < w.heap.size) A2 c2 s.H now W ((h2.cut).below HW) l2 hsm2)
    rw [hD] at HDU
    have HF1 := Lib.hid ((h1.cut).below HW)
    have HL1 := Lib.hid l1
    have r1 := blk_cells K1
    have z1 := blk_frz K1
    have HK1 := Lib.hid K1
    have HK2 := Lib.hid K2
    have HWW := Lib.hid hW
    have HWB := Lib.hid HW
    have HS := Lib.hid hs
    have HSM := Lib.hid hsm
    have n12 : w.heap.size ≠ w.heap.size + 1 := by omega
    have n21 : w.heap.size + 1 ≠ w.heap.size := by omega
    have B0 : Below W.heap.size W W := bl_refl W
    clear h1 h2 l1 l2 hW HW K1 K2 hs hsm hsm2 hD
    go_enter Try.func46, Try.ntmps46
    go_wp2_with fail
    rw [HWW.out]
    refine HDU.out.mono ?_
    rintro e w1 ⟨A3, c3, Bi, di, rfl, hF, hc3, _, hRI, hb⟩
    have hs' := HS.out
    have HKV1 := Lib.hid (blk_put (blk_below HK1.out hb) 2 (.slice A3 RES.length c3) rfl)
    have HKV2 := Lib.hid (blk_far (p := ⟨w.heap.size, 2, none⟩) (blk_below HK2.out hb) (by show w.heap.size + 1 ≠ w.heap.size; omega) (.slice A3 RES.length c3))
    have HSV := Lib.hid (IsSS.set (g := w.heap.size) (j := 2) (u := .slice A3 RES.length c3) (⟨A1, c1, A3, c3, rfl, (HF1.out.below hb).mono (fun k hk _ => .inl hk), HL1.out, hF.mono (fun k hk _ => hk.imp_left (fun h => h.1)), hc3⟩ : IsSS (fun k => (ok k ∧ k < w.heap.size) ∨ W.heap.size ≤ k) w1 (.agg #[.int .i64 s.epoch, .slice A1 s.L.length c1, .slice A3 RES.length c3, .int .i64 s.next, .int .u64 now]) ⟨s.epoch, s.L, RES, s.next, now⟩) (fun h => by rcases h with h | h <;> omega))
    have HIV := Lib.hid (Ft.set (g := w.heap.size) (j := 2) (u := .slice A3 RES.length c3) (R_ft hRI) (by omega))
    have HBV := Lib.hid (bl_set (g := w.heap.size) (j := 2) (u := .slice A3 RES.length c3) (bl_trans HWB.out hb) (Nat.le_refl _))
    have B1 : Below W.heap.size W w1 := hb
    clear hF hc3 hRI hb HDU HF1 HL1 HK1 HK2 hs'
    go_wp2
    go_loopg [8, 30] IDS.length (fun gg s8 s30 wr => ∃ (kk : Nat) (s' : SS) (O : List Ses) (A5 : Option Addr) (c5 : Nat) (A6 : Option Addr) (c6 : Nat) (B : Option Addr) (d : Nat), kk ≤ IDS.length ∧ IDS.length - kk ≤ gg ∧ s8 = .slice B O.length d ∧ s30 = .int .i64 kk ∧ Hid (wr.heap[w.heap.size]? = some (.cells #[.int .i64 s'.epoch, .slice A5 s'.L.length c5, .slice A6 s'.H.length c6, .int .i64 s'.next, .int .u64 s'.now] 26 (0, 0))) ∧ Hid (wr.heap[w.heap.size + 1]? = some (.cells #[.int .i64 0, .slice none 0 0, .slice none 0 0, .int .i64 0, .int .u64 0] 26 (0, 0))) ∧ Hid (IsSS (fun k => ((ok k ∧ k < w.heap.size) ∨ W.heap.size ≤ k) ∧ (Value.slice B O.length d).ownBlock ≠ some k) wr (.agg #[.int .i64 s'.epoch, .slice A5 s'.L.length c5, .slice A6 s'.H.length c6, .int .i64 s'.next, .int .u64 s'.now]) s') ∧ Hid (Ft (fun k => W.heap.size ≤ k ∧ (Value.slice B O.length d).ownBlock ≠ some k) wr (fun W => Kd.C kI W Bi IDS.length IDS)) ∧ Hid (Kd.R kSes 78 wr W.heap.size (fun _ => True) (.slice B O.length d) O) ∧ Hid ((IDS.take kk).foldl SS.tk (⟨s.epoch, s.L, RES, s.next, now⟩, []) = (s', O)) ∧ Hid (O.length ≤ kk ∧ s'.L.length ≤ 1000) ∧ Hid (Below w.heap.size w wr))
    case atStart => exact ⟨0, ⟨s.epoch, s.L, RES, s.next, now⟩, [], A1, c1, A3, c3, none, 0, Nat.zero_le _, by omega, rfl, rfl, HKV1.out, HKV2.out, HSV.out.mono (fun k hk _ => ⟨hk, fun e => by cases e⟩), HIV.out.mono (fun k hk _ => ⟨hk, fun e => by cases e⟩), Kd.R_nil .., rfl, ⟨Nat.zero_le _, HSM.out⟩, HBV.out⟩
    case round =>
      obtain ⟨kk, s', O, A5, c5, A6, c6, B, d, hkk, hgg, rfl, rfl, HK, HKZ, HSS, HI, HO, HFO, HLE, HB⟩ := hrel
      clear HKV1 HKV2 HSV HIV HBV r1 z1 B0 B1
      have hlm : IDS.length ≤ 1000 := HIL.out
      have r1 := blk_cells HK.out
      have z1 := blk_frz HK.out
      have Br := bl_refl wr
      by_cases hlt : kk < IDS.length
      · have hltz : (kk : Int) < (IDS.length : Int) := by omega
        have hk0 : (0 : Int) ≤ (kk : Int) := by omega
        obtain ⟨id, hid⟩ : ∃ id, IDS[kk]! = id := ⟨_, rfl⟩
        obtain ⟨adi, rfl, i0⟩ := I_at HI.out.self kk hlt
        rw [hid] at i0
        have y0 := cell_rule i0
        have HFK := Lib.hid (foldl_take SS.tk (⟨s.epoch, s.L, RES, s.next, now⟩, []) IDS kk hlt)
        have HID := Lib.hid hid
        have HLT := Lib.hid hlt
        clear i0 hid
        by_cases hi : sIdx s' id < 0
        · have HTK := Lib.hid (show SS.tk (s', O) id = (s', O) by unfold SS.tk; rw [if_pos hi])
          have HFI := Lib.hid (fun W h => (show Calls Try.prog 48 #[.agg #[.int .i64 s'.epoch, .slice A5 s'.L.length c5, .slice A6 s'.H.length c6, .int .i64 s'.next, .int .u64 s'.now], .int .i64 id] W fun e w' => e = .returned (.tuple #[.agg #[.int .i64 0, .int .i64 0, .bool false, .string ⟨#[]⟩, .int .i64 0, .int .i64 0], .bool false]) ∧ Below W.heap.size W w' from find48 s'.epoch A5 c5 s'.L (.slice A6 s'.H.length c6) rfl s'.next s'.now id W h default false (.inl ⟨hi, rfl, rfl⟩)))
          have HCL := Lib.hid HSS.out.parts.1.self
          clear hi hlt
          go_wp2_with fail
          refine (HFI.out wr HCL.out).mono ?_
          rintro e w4 ⟨rfl, hb⟩
          have HB4 := Lib.hid (bl_alloc (.cells #[.int .i64 0, .int .i64 0, .bool false, .string ⟨#[]⟩, .int .i64 0, .int .i64 0] 78) hb)
          clear hb
          go_wp2
          go_roundg (IDS.length - (kk + 1))
          case measure => have := HLT.out; omega
          case rel =>
            refine ⟨kk + 1, s', O, A5, c5, A6, c6, B, d, by have := HLT.out; omega, by have := HLT.out; omega, rfl, by go_num, blk_below HK.out HB4.out, blk_below HKZ.out HB4.out, HSS.out.below HB4.out, HI.out.below HB4.out, Kd.R_below HO.out HB4.out, ?_, ⟨by have := HLE.out; omega, HLE.out.2⟩, bl_trans HB.out HB4.out⟩
            show (IDS.take (kk + 1)).foldl SS.tk _ = _
            rw [HFK.out, HID.out, HFO.out, HTK.out]
        · obtain ⟨x, hx⟩ : ∃ x, s'.L[(sIdx s' id).toNat]! = x := ⟨_, rfl⟩
          have HTK := Lib.hid (show SS.tk (s', O) id = (s'.but id, O ++ [x]) by unfold SS.tk; rw [if_neg hi]; simp only [hx])
          have HFI := Lib.hid (fun W h => (show Calls Try.prog 48 #[.agg #[.int .i64 s'.epoch, .slice A5 s'.L.length c5, .slice A6 s'.H.length c6, .int .i64 s'.next, .int .u64 s'.now], .int .i64 id] W fun e w' => e = .returned (.tuple #[.agg #[.int .i64 x.id, .int .i64 x.seq, .bool x.busy, .string x.last, .int .i64 x.txn, .int .i64 x.conn], .bool true]) ∧ Below W.heap.size W w' from find48 s'.epoch A5 c5 s'.L (.slice A6 s'.H.length c6) rfl s'.next s'.now id W h x true (.inr ⟨by unfold sIdx at hi; omega, rfl, hx.symm⟩)))
          have HCL := Lib.hid HSS.out.parts.1.self
          clear hi hlt hx
          go_wp2_with fail
          refine (HFI.out wr HCL.out).mono ?_
          rintro e w4 ⟨rfl, hb⟩
          have HB4 := Lib.hid (bl_alloc (.cells #[.int .i64 x.id, .int .i64 x.seq, .bool x.busy, .string x.last, .int .i64 x.txn, .int .i64 x.conn] 78) (bl_alloc (.cells #[.int .i64 x.id, .int .i64 x.seq, .bool x.busy, .string x.last, .int .i64 x.txn, .int .i64 x.conn] 78) hb))
          have hK := blk_new (w4.alloc (.cells #[.int .i64 x.id, .int .i64 x.seq, .bool x.busy, .string x.last, .int .i64 x.txn, .int .i64 x.conn] 78)) (.cells #[.int .i64 x.id, .int .i64 x.seq, .bool x.busy, .string x.last, .int .i64 x.txn, .int .i64 x.conn] 78)
          rw [show (w4.alloc (.cells #[.int .i64 x.id, .int .i64 x.seq, .bool x.busy, .string x.last, .int .i64 x.txn, .int .i64 x.conn] 78)).heap.size = w4.heap.size + 1 from by simp] at hK
          have HK4 := Lib.hid hK
          have B4 := bl_refl w4
          have hsz := hb.size
          clear hb hK
          go_wp2_with ((with_reducible refine gate_dst (N := 44) rfl ?_); refine Stop.go ?_)
          have hBA := bl_trans HB.out HB4.out
          have hwW : W.heap.size ≤ wr.heap.size := by have h1 := blk_lt HKZ.out; have := HS.out; omega
          refine ⟨flat_app (f := Ses.cells) (w0 := wr) W.heap.size rfl (.tmp 41) (.tmp 43) 22 78 _ 56 rfl Try.underlying22 info78 rfl (by decide) (by omega) _ O [x] (some ⟨_, 0, none⟩) 1 1 rfl rfl (by omega) (Kd.R_below HO.out HB4.out) (C_one (f := Ses.cells) (t := 78) x HK4.out) (HB4.out.mono hwW) (Nat.le_trans hwW HB4.out.size) (by have := HLE.out; omega) ?_⟩
          intro g2 cap2 w5 hR5 hb5 hge5 hat5 hg5 hlt5
          have hown : ∀ b, (Value.slice B O.length d).ownBlock = some b → b < wr.heap.size := fun b hb => by
            obtain ⟨cg, hcg⟩ := Kd.R_typed HO.out b hb
            exact (Array.getElem?_eq_some_iff.1 hcg).1
          have hown2 : ∀ b, (Value.slice B O.length d).ownBlock = some b → W.heap.size ≤ b := fun b hb => Kd.R_base HO.out b hb
          have hstep : ∀ k, (Value.slice B O.length d).ownBlock ≠ some k → k < ((w4.alloc (.cells #[.int .i64 x.id, .int .i64 x.seq, .bool x.busy, .string x.last, .int .i64 x.txn, .int .i64 x.conn] 78)).alloc (.cells #[.int .i64 x.id, .int .i64 x.seq, .bool x.busy, .string x.last, .int .i64 x.txn, .int .i64 x.conn] 78)).heap.size → w5.heap[k]? = ((w4.alloc (.cells #[.int .i64 x.id, .int .i64 x.seq, .bool x.busy, .string x.last, .int .i64 x.txn, .int .i64 x.conn] 78)).alloc (.cells #[.int .i64 x.id, .int .i64 x.seq, .bool x.busy, .string x.last, .int .i64 x.txn, .int .i64 x.conn] 78)).heap[k]? := fun k hk hl => hg5.block k hl (fun e => hk e.symm)
          have hk5 : ∀ k, (Value.slice B O.length d).ownBlock ≠ some k → k < wr.heap.size → w5.heap[k]? = wr.heap[k]? := fun k hk hl => (hstep k hk (Nat.lt_of_lt_of_le hl HB4.out.size)).trans (HB4.out.block k hl)
          have hne5 : ∀ k, (Value.slice B O.length d).ownBlock ≠ some k → k < wr.heap.size → (Value.slice (some ⟨g2, 0, none⟩) (O ++ [x]).length cap2).ownBlock ≠ some k := fun k hk hl e => by
            have e' : g2 = k := by injection e
            rcases hat5 with h | h
            · exact hk (Eq.trans h (congrArg some e'))
            · have := HB4.out.size; omega
          have hs1 := HS.out
          have hwr := HB.out.size
          have HK5 := Lib.hid ((hk5 _ (fun e => by have := hown2 _ e; omega) (blk_lt HK.out)).trans HK.out)
          have HKZ5 := Lib.hid ((hk5 _ (fun e => by have := hown2 _ e; omega) (blk_lt HKZ.out)).trans HKZ.out)
          have HSS5 := Lib.hid ((HSS.out.cut.step (fun k hk _ => hk5 k hk.1.2 hk.2)).mono (fun k hk _ => ⟨hk.1.1, hne5 k hk.1.2 hk.2⟩) : IsSS (fun k => ((ok k ∧ k < w.heap.size) ∨ W.heap.size ≤ k) ∧ (Value.slice (some ⟨g2, 0, none⟩) (O ++ [x]).length cap2).ownBlock ≠ some k) w5 (.agg #[.int .i64 s'.epoch, .slice A5 s'.L.length c5, .slice A6 s'.H.length c6, .int .i64 s'.next, .int .u64 s'.now]) s')
          have HI5 := Lib.hid ((HI.out.cut.step (fun k hk _ => hk5 k hk.1.2 hk.2)).mono (fun k hk _ => ⟨hk.1.1, hne5 k hk.1.2 hk.2⟩) : Ft (fun k => W.heap.size ≤ k ∧ (Value.slice (some ⟨g2, 0, none⟩) (O ++ [x]).length cap2).ownBlock ≠ some k) w5 (fun W => Kd.C kI W (some adi) IDS.length IDS))
          have HR5 := Lib.hid hR5
          have HB5 := Lib.hid (HB.out.trans (hb5.mono (show w.heap.size ≤ W.heap.size by omega)))
          have HG5 := Lib.hid (show W.heap.size ≤ g2 ∧ g2 < w5.heap.size from ⟨hge5, hlt5⟩)
          have HWO := Lib.hid (without111 _ _ s' id w5 HSS5.out (by have := HLE.out.2; omega))
          have r5 := blk_cells HK5.out
          have z5 := blk_frz HK5.out
          have B5 := bl_refl w5
          obtain ⟨adj, hadj, j0⟩ := I_at HI5.out.self kk HLT.out
          injection hadj with hadj
          subst hadj
          rw [HID.out] at j0
          have y5 := cell_rule j0
          have HSW := Lib.hid (show W.heap.size ≤ w5.heap.size by have := hb5.size; have := hwW; omega)
          clear hR5 hb5 hge5 hat5 hg5 hlt5 hown hown2 hstep hk5 hne5 hs1 hwr hBA hwW r1 z1 y0 Br B4 HK4 hsz j0
          go_wp2_with fail
          refine HWO.out.mono ?_
          rintro e w6 ⟨v6, rfl, hS6, hb6⟩
          have HS6 := Lib.hid hS6
          have HB6 := Lib.hid hb6
          obtain ⟨A7, c7, A8, c8, rfl, _, _, _, _⟩ := hS6
          have B6 : Below w5.heap.size w5 w6 := hb6
          clear hb6 HWO
          have hs1 := HS.out
          have hsw := HSW.out
          have HK6 := Lib.hid (store26 (blk_below HK5.out B6) (.int .i64 (s'.but id).epoch) (.slice A7 (s'.but id).L.length c7) (.slice A8 (s'.but id).H.length c8) (.int .i64 (s'.but id).next) (.int .u64 (s'.but id).now))
          clear hs1 hsw
          go_wp2
          go_roundg (IDS.length - (kk + 1))
          case measure => have := HLT.out; omega
          case rel =>
            have hs1 := HS.out
            have hsw := HSW.out
            refine ⟨kk + 1, s'.but id, O ++ [x], A7, c7, A8, c8, some ⟨g2, 0, none⟩, cap2, by have := HLT.out; omega, by have := HLT.out; omega, by simp, by go_num, HK6.out, far26 (blk_below HKZ5.out HB6.out) (by omega) _ _ _ _ _, ?_, ?_, ?_, ?_, ⟨by have := HLE.out.1; simp; omega, Nat.le_trans (SS.but_len s' id) HLE.out.2⟩, ?_⟩
            · refine IsSS.mono (ok := fun k => ((((ok k ∧ k < w.heap.size) ∨ W.heap.size ≤ k) ∧ (Value.slice (some ⟨g2, 0, none⟩) (O ++ [x]).length cap2).ownBlock ≠ some k) ∧ k < w5.heap.size) ∨ w5.heap.size ≤ k) ?_ (fun k hk _ => ?_)
              · iterate 5 refine IsSS.set ?_ (fun h => by rcases h with ⟨⟨h | h, _⟩, _⟩ | h <;> omega)
                exact HS6.out
              · rcases hk with hk | hk
                · exact hk.1
                · exact ⟨.inr (by omega), fun e => by have e' : g2 = k := (by injection e); have := HG5.out.2; omega⟩
            · show Ft _ _ _
              iterate 5 refine Ft.set ?_ (fun h => by have := h.1; omega)
              exact HI5.out.below HB6.out
            · show Kd.R kSes 78 _ W.heap.size (fun _ => True) (.slice (some ⟨g2, 0, none⟩) (O ++ [x]).length cap2) (O ++ [x])
              iterate 5 refine R_farB ?_ (by omega) _ _
              rw [List.length_append]
              exact Kd.R_below HR5.out HB6.out
            · show (IDS.take (kk + 1)).foldl SS.tk _ = _
              rw [HFK.out, HID.out, HFO.out, HTK.out]
            · show Below w.heap.size w _
              iterate 5 refine bl_set ?_ (Nat.le_refl _)
              exact bl_trans HB5.out HB6.out
      · have hltz : ¬ (kk : Int) < (IDS.length : Int) := by omega
        have hs1 := HS.out
        have he : kk = IDS.length := by omega
        have hfo := HFO.out
        rw [he, List.take_length] at hfo
        have HTT := Lib.hid (HT.out.trans hfo)
        have r2 := blk_cells HKZ.out
        have z2 := blk_frz HKZ.out
        clear hs1 he hfo
        go_wp2
        have hs1 := HS.out
        rw [HTT.out]
        refine bodyPost_ret (v := .tuple #[.agg #[.int .i64 s'.epoch, .slice A5 s'.L.length c5, .slice A6 s'.H.length c6, .int .i64 s'.next, .int .u64 s'.now], .slice B O.length d]) (by simp [results, Try.results46, go_sem, r2, z2, Br]) rfl ⟨_, _, _, rfl, ?_, ?_, ?_⟩
        · refine IsSS.mono (ok := fun k => ((ok k ∧ k < w.heap.size) ∨ W.heap.size ≤ k) ∧ k ≠ w.heap.size + 1) ?_ (fun k hk _ => hk.1.imp_right (fun h => by omega))
          iterate 5 refine IsSS.set ?_ (fun h => h.2 rfl)
          exact HSS.out.mono (fun k hk _ => ⟨hk.1, fun e => by rcases hk.1 with h | h <;> omega⟩)
        · refine Kd.R_lower (show Kd.R kSes 78 _ W.heap.size (fun _ => True) _ _ from ?_) (by omega)
          iterate 5 refine R_farB ?_ (by omega) _ _
          exact HO.out
        · iterate 5 refine bl_set ?_ (by omega)
          exact HB.out
  · obtain ⟨W, hW, K1, K2, HW, hs⟩ := boxes2 w #[.int .i64 s.epoch, .slice A1 s.L.length c1, .slice A2 s.H.length c2, .int .i64 s.next, .int .u64 s.now] 26 #[.int .i64 0, .slice none 0 0, .slice none 0 0, .int .i64 0, .int .u64 0] 26
    obtain ⟨RES, IDS, hD⟩ : ∃ RES IDS, aDue s.H.length s.H s.now = (RES, IDS) := ⟨_, _, rfl⟩
    have HT := Lib.hid (show s.tickF now = IDS.foldl SS.tk (⟨s.epoch, s.L, RES, s.next, s.now⟩, []) by
      unfold SS.tickF SS.ids SS.tick0 SS.at'
      simp only [if_neg hlt, hD])
    have HIL := Lib.hid (show IDS.length ≤ 1000 by have := aDue_ids s.H.length s.H s.now; rw [hD] at this; simp only [] at this; omega)
    have HDU := Lib.hid (due115 (fun k => ok k ∧ k < w.heap.size) A2 c2 s.H s.now W ((h2.cut).below HW) l2 hsm2)
    rw [hD] at HDU
    have HF1 := Lib.hid ((h1.cut).below HW)
    have HL1 := Lib.hid l1
    have r1 := blk_cells K1
    have z1 := blk_frz K1
    have HK1 := Lib.hid K1
    have HK2 := Lib.hid K2
    have HWW := Lib.hid hW
    have HWB := Lib.hid HW
    have HS := Lib.hid hs
    have HSM := Lib.hid hsm
    have n12 : w.heap.size ≠ w.heap.size + 1 := by omega
    have n21 : w.heap.size + 1 ≠ w.heap.size := by omega
    have B0 : Below W.heap.size W W := bl_refl W
    clear h1 h2 l1 l2 hW HW K1 K2 hs hsm hsm2 hD
    go_enter Try.func46, Try.ntmps46
    go_wp2_with fail
    rw [HWW.out]
    refine HDU.out.mono ?_
    rintro e w1 ⟨A3, c3, Bi, di, rfl, hF, hc3, _, hRI, hb⟩
    have hs' := HS.out
    have HKV1 := Lib.hid (blk_put (blk_below HK1.out hb) 2 (.slice A3 RES.length c3) rfl)
    have HKV2 := Lib.hid (blk_far (p := ⟨w.heap.size, 2, none⟩) (blk_below HK2.out hb) (by show w.heap.size + 1 ≠ w.heap.size; omega) (.slice A3 RES.length c3))
    have HSV := Lib.hid (IsSS.set (g := w.heap.size) (j := 2) (u := .slice A3 RES.length c3) (⟨A1, c1, A3, c3, rfl, (HF1.out.below hb).mono (fun k hk _ => .inl hk), HL1.out, hF.mono (fun k hk _ => hk.imp_left (fun h => h.1)), hc3⟩ : IsSS (fun k => (ok k ∧ k < w.heap.size) ∨ W.heap.size ≤ k) w1 (.agg #[.int .i64 s.epoch, .slice A1 s.L.length c1, .slice A3 RES.length c3, .int .i64 s.next, .int .u64 s.now]) ⟨s.epoch, s.L, RES, s.next, s.now⟩) (fun h => by rcases h with h | h <;> omega))
    have HIV := Lib.hid (Ft.set (g := w.heap.size) (j := 2) (u := .slice A3 RES.length c3) (R_ft hRI) (by omega))
    have HBV := Lib.hid (bl_set (g := w.heap.size) (j := 2) (u := .slice A3 RES.length c3) (bl_trans HWB.out hb) (Nat.le_refl _))
    have B1 : Below W.heap.size W w1 := hb
    clear hF hc3 hRI hb HDU HF1 HL1 HK1 HK2 hs'
    go_wp2
    go_loopg [8, 30] IDS.length (fun gg s8 s30 wr => ∃ (kk : Nat) (s' : SS) (O : List Ses) (A5 : Option Addr) (c5 : Nat) (A6 : Option Addr) (c6 : Nat) (B : Option Addr) (d : Nat), kk ≤ IDS.length ∧ IDS.length - kk ≤ gg ∧ s8 = .slice B O.length d ∧ s30 = .int .i64 kk ∧ Hid (wr.heap[w.heap.size]? = some (.cells #[.int .i64 s'.epoch, .slice A5 s'.L.length c5, .slice A6 s'.H.length c6, .int .i64 s'.next, .int .u64 s'.now] 26 (0, 0))) ∧ Hid (wr.heap[w.heap.size + 1]? = some (.cells #[.int .i64 0, .slice none 0 0, .slice none 0 0, .int .i64 0, .int .u64 0] 26 (0, 0))) ∧ Hid (IsSS (fun k => ((ok k ∧ k < w.heap.size) ∨ W.heap.size ≤ k) ∧ (Value.slice B O.length d).ownBlock ≠ some k) wr (.agg #[.int .i64 s'.epoch, .slice A5 s'.L.length c5, .slice A6 s'.H.length c6, .int .i64 s'.next, .int .u64 s'.now]) s') ∧ Hid (Ft (fun k => W.heap.size ≤ k ∧ (Value.slice B O.length d).ownBlock ≠ some k) wr (fun W => Kd.C kI W Bi IDS.length IDS)) ∧ Hid (Kd.R kSes 78 wr W.heap.size (fun _ => True) (.slice B O.length d) O) ∧ Hid ((IDS.take kk).foldl SS.tk (⟨s.epoch, s.L, RES, s.next, s.now⟩, []) = (s', O)) ∧ Hid (O.length ≤ kk ∧ s'.L.length ≤ 1000) ∧ Hid (Below w.heap.size w wr))
    case atStart => exact ⟨0, ⟨s.epoch, s.L, RES, s.next, s.now⟩, [], A1, c1, A3, c3, none, 0, Nat.zero_le _, by omega, rfl, rfl, HKV1.out, HKV2.out, HSV.out.mono (fun k hk _ => ⟨hk, fun e => by cases e⟩), HIV.out.mono (fun k hk _ => ⟨hk, fun e => by cases e⟩), Kd.R_nil .., rfl, ⟨Nat.zero_le _, HSM.out⟩, HBV.out⟩
    case round =>
      obtain ⟨kk, s', O, A5, c5, A6, c6, B, d, hkk, hgg, rfl, rfl, HK, HKZ, HSS, HI, HO, HFO, HLE, HB⟩ := hrel
      clear HKV1 HKV2 HSV HIV HBV r1 z1 B0 B1
      have hlm : IDS.length ≤ 1000 := HIL.out
      have r1 := blk_cells HK.out
      have z1 := blk_frz HK.out
      have Br := bl_refl wr
      by_cases hlt : kk < IDS.length
      · have hltz : (kk : Int) < (IDS.length : Int) := by omega
        have hk0 : (0 : Int) ≤ (kk : Int) := by omega
        obtain ⟨id, hid⟩ : ∃ id, IDS[kk]! = id := ⟨_, rfl⟩
        obtain ⟨adi, rfl, i0⟩ := I_at HI.out.self kk hlt
        rw [hid] at i0
        have y0 := cell_rule i0
        have HFK := Lib.hid (foldl_take SS.tk (⟨s.epoch, s.L, RES, s.next, s.now⟩, []) IDS kk hlt)
        have HID := Lib.hid hid
        have HLT := Lib.hid hlt
        clear i0 hid
        by_cases hi : sIdx s' id < 0
        · have HTK := Lib.hid (show SS.tk (s', O) id = (s', O) by unfold SS.tk; rw [if_pos hi])
          have HFI := Lib.hid (fun W h => (show Calls Try.prog 48 #[.agg #[.int .i64 s'.epoch, .slice A5 s'.L.length c5, .slice A6 s'.H.length c6, .int .i64 s'.next, .int .u64 s'.now], .int .i64 id] W fun e w' => e = .returned (.tuple #[.agg #[.int .i64 0, .int .i64 0, .bool false, .string ⟨#[]⟩, .int .i64 0, .int .i64 0], .bool false]) ∧ Below W.heap.size W w' from find48 s'.epoch A5 c5 s'.L (.slice A6 s'.H.length c6) rfl s'.next s'.now id W h default false (.inl ⟨hi, rfl, rfl⟩)))
          have HCL := Lib.hid HSS.out.parts.1.self
          clear hi hlt
          go_wp2_with fail
          refine (HFI.out wr HCL.out).mono ?_
          rintro e w4 ⟨rfl, hb⟩
          have HB4 := Lib.hid (bl_alloc (.cells #[.int .i64 0, .int .i64 0, .bool false, .string ⟨#[]⟩, .int .i64 0, .int .i64 0] 78) hb)
          clear hb
          go_wp2
          go_roundg (IDS.length - (kk + 1))
          case measure => have := HLT.out; omega
          case rel =>
            refine ⟨kk + 1, s', O, A5, c5, A6, c6, B, d, by have := HLT.out; omega, by have := HLT.out; omega, rfl, by go_num, blk_below HK.out HB4.out, blk_below HKZ.out HB4.out, HSS.out.below HB4.out, HI.out.below HB4.out, Kd.R_below HO.out HB4.out, ?_, ⟨by have := HLE.out; omega, HLE.out.2⟩, bl_trans HB.out HB4.out⟩
            show (IDS.take (kk + 1)).foldl SS.tk _ = _
            rw [HFK.out, HID.out, HFO.out, HTK.out]
        · obtain ⟨x, hx⟩ : ∃ x, s'.L[(sIdx s' id).toNat]! = x := ⟨_, rfl⟩
          have HTK := Lib.hid (show SS.tk (s', O) id = (s'.but id, O ++ [x]) by unfold SS.tk; rw [if_neg hi]; simp only [hx])
          have HFI := Lib.hid (fun W h => (show Calls Try.prog 48 #[.agg #[.int .i64 s'.epoch, .slice A5 s'.L.length c5, .slice A6 s'.H.length c6, .int .i64 s'.next, .int .u64 s'.now], .int .i64 id] W fun e w' => e = .returned (.tuple #[.agg #[.int .i64 x.id, .int .i64 x.seq, .bool x.busy, .string x.last, .int .i64 x.txn, .int .i64 x.conn], .bool true]) ∧ Below W.heap.size W w' from find48 s'.epoch A5 c5 s'.L (.slice A6 s'.H.length c6) rfl s'.next s'.now id W h x true (.inr ⟨by unfold sIdx at hi; omega, rfl, hx.symm⟩)))
          have HCL := Lib.hid HSS.out.parts.1.self
          clear hi hlt hx
          go_wp2_with fail
          refine (HFI.out wr HCL.out).mono ?_
          rintro e w4 ⟨rfl, hb⟩
          have HB4 := Lib.hid (bl_alloc (.cells #[.int .i64 x.id, .int .i64 x.seq, .bool x.busy, .string x.last, .int .i64 x.txn, .int .i64 x.conn] 78) (bl_alloc (.cells #[.int .i64 x.id, .int .i64 x.seq, .bool x.busy, .string x.last, .int .i64 x.txn, .int .i64 x.conn] 78) hb))
          have hK := blk_new (w4.alloc (.cells #[.int .i64 x.id, .int .i64 x.seq, .bool x.busy, .string x.last, .int .i64 x.txn, .int .i64 x.conn] 78)) (.cells #[.int .i64 x.id, .int .i64 x.seq, .bool x.busy, .string x.last, .int .i64 x.txn, .int .i64 x.conn] 78)
          rw [show (w4.alloc (.cells #[.int .i64 x.id, .int .i64 x.seq, .bool x.busy, .string x.last, .int .i64 x.txn, .int .i64 x.conn] 78)).heap.size = w4.heap.size + 1 from by simp] at hK
          have HK4 := Lib.hid hK
          have B4 := bl_refl w4
          have hsz := hb.size
          clear hb hK
          go_wp2_with ((with_reducible refine gate_dst (N := 44) rfl ?_); refine Stop.go ?_)
          have hBA := bl_trans HB.out HB4.out
          have hwW : W.heap.size ≤ wr.heap.size := by have h1 := blk_lt HKZ.out; have := HS.out; omega
          refine ⟨flat_app (f := Ses.cells) (w0 := wr) W.heap.size rfl (.tmp 41) (.tmp 43) 22 78 _ 56 rfl Try.underlying22 info78 rfl (by decide) (by omega) _ O [x] (some ⟨_, 0, none⟩) 1 1 rfl rfl (by omega) (Kd.R_below HO.out HB4.out) (C_one (f := Ses.cells) (t := 78) x HK4.out) (HB4.out.mono hwW) (Nat.le_trans hwW HB4.out.size) (by have := HLE.out; omega) ?_⟩
          intro g2 cap2 w5 hR5 hb5 hge5 hat5 hg5 hlt5
          have hown : ∀ b, (Value.slice B O.length d).ownBlock = some b → b < wr.heap.size := fun b hb => by
            obtain ⟨cg, hcg⟩ := Kd.R_typed HO.out b hb
            exact (Array.getElem?_eq_some_iff.1 hcg).1
          have hown2 : ∀ b, (Value.slice B O.length d).ownBlock = some b → W.heap.size ≤ b := fun b hb => Kd.R_base HO.out b hb
          have hstep : ∀ k, (Value.slice B O.length d).ownBlock ≠ some k → k < ((w4.alloc (.cells #[.int .i64 x.id, .int .i64 x.seq, .bool x.busy, .string x.last, .int .i64 x.txn, .int .i64 x.conn] 78)).alloc (.cells #[.int .i64 x.id, .int .i64 x.seq, .bool x.busy, .string x.last, .int .i64 x.txn, .int .i64 x.conn] 78)).heap.size → w5.heap[k]? = ((w4.alloc (.cells #[.int .i64 x.id, .int .i64 x.seq, .bool x.busy, .string x.last, .int .i64 x.txn, .int .i64 x.conn] 78)).alloc (.cells #[.int .i64 x.id, .int .i64 x.seq, .bool x.busy, .string x.last, .int .i64 x.txn, .int .i64 x.conn] 78)).heap[k]? := fun k hk hl => hg5.block k hl (fun e => hk e.symm)
          have hk5 : ∀ k, (Value.slice B O.length d).ownBlock ≠ some k → k < wr.heap.size → w5.heap[k]? = wr.heap[k]? := fun k hk hl => (hstep k hk (Nat.lt_of_lt_of_le hl HB4.out.size)).trans (HB4.out.block k hl)
          have hne5 : ∀ k, (Value.slice B O.length d).ownBlock ≠ some k → k < wr.heap.size → (Value.slice (some ⟨g2, 0, none⟩) (O ++ [x]).length cap2).ownBlock ≠ some k := fun k hk hl e => by
            have e' : g2 = k := by injection e
            rcases hat5 with h | h
            · exact hk (Eq.trans h (congrArg some e'))
            · have := HB4.out.size; omega
          have hs1 := HS.out
          have hwr := HB.out.size
          have HK5 := Lib.hid ((hk5 _ (fun e => by have := hown2 _ e; omega) (blk_lt HK.out)).trans HK.out)
          have HKZ5 := Lib.hid ((hk5 _ (fun e => by have := hown2 _ e; omega) (blk_lt HKZ.out)).trans HKZ.out)
          have HSS5 := Lib.hid ((HSS.out.cut.step (fun k hk _ => hk5 k hk.1.2 hk.2)).mono (fun k hk _ => ⟨hk.1.1, hne5 k hk.1.2 hk.2⟩) : IsSS (fun k => ((ok k ∧ k < w.heap.size) ∨ W.heap.size ≤ k) ∧ (Value.slice (some ⟨g2, 0, none⟩) (O ++ [x]).length cap2).ownBlock ≠ some k) w5 (.agg #[.int .i64 s'.epoch, .slice A5 s'.L.length c5, .slice A6 s'.H.length c6, .int .i64 s'.next, .int .u64 s'.now]) s')
          have HI5 := Lib.hid ((HI.out.cut.step (fun k hk _ => hk5 k hk.1.2 hk.2)).mono (fun k hk _ => ⟨hk.1.1, hne5 k hk.1.2 hk.2⟩) : Ft (fun k => W.heap.size ≤ k ∧ (Value.slice (some ⟨g2, 0, none⟩) (O ++ [x]).length cap2).ownBlock ≠ some k) w5 (fun W => Kd.C kI W (some adi) IDS.length IDS))
          have HR5 := Lib.hid hR5
          have HB5 := Lib.hid (HB.out.trans (hb5.mono (show w.heap.size ≤ W.heap.size by omega)))
          have HG5 := Lib.hid (show W.heap.size ≤ g2 ∧ g2 < w5.heap.size from ⟨hge5, hlt5⟩)
          have HWO := Lib.hid (without111 _ _ s' id w5 HSS5.out (by have := HLE.out.2; omega))
          have r5 := blk_cells HK5.out
          have z5 := blk_frz HK5.out
          have B5 := bl_refl w5
          obtain ⟨adj, hadj, j0⟩ := I_at HI5.out.self kk HLT.out
          injection hadj with hadj
          subst hadj
          rw [HID.out] at j0
          have y5 := cell_rule j0
          have HSW := Lib.hid (show W.heap.size ≤ w5.heap.size by have := hb5.size; have := hwW; omega)
          clear hR5 hb5 hge5 hat5 hg5 hlt5 hown hown2 hstep hk5 hne5 hs1 hwr hBA hwW r1 z1 y0 Br B4 HK4 hsz j0
          go_wp2_with fail
          refine HWO.out.mono ?_
          rintro e w6 ⟨v6, rfl, hS6, hb6⟩
          have HS6 := Lib.hid hS6
          have HB6 := Lib.hid hb6
          obtain ⟨A7, c7, A8, c8, rfl, _, _, _, _⟩ := hS6
          have B6 : Below w5.heap.size w5 w6 := hb6
          clear hb6 HWO
          have hs1 := HS.out
          have hsw := HSW.out
          have HK6 := Lib.hid (store26 (blk_below HK5.out B6) (.int .i64 (s'.but id).epoch) (.slice A7 (s'.but id).L.length c7) (.slice A8 (s'.but id).H.length c8) (.int .i64 (s'.but id).next) (.int .u64 (s'.but id).now))
          clear hs1 hsw
          go_wp2
          go_roundg (IDS.length - (kk + 1))
          case measure => have := HLT.out; omega
          case rel =>
            have hs1 := HS.out
            have hsw := HSW.out
            refine ⟨kk + 1, s'.but id, O ++ [x], A7, c7, A8, c8, some ⟨g2, 0, none⟩, cap2, by have := HLT.out; omega, by have := HLT.out; omega, by simp, by go_num, HK6.out, far26 (blk_below HKZ5.out HB6.out) (by omega) _ _ _ _ _, ?_, ?_, ?_, ?_, ⟨by have := HLE.out.1; simp; omega, Nat.le_trans (SS.but_len s' id) HLE.out.2⟩, ?_⟩
            · refine IsSS.mono (ok := fun k => ((((ok k ∧ k < w.heap.size) ∨ W.heap.size ≤ k) ∧ (Value.slice (some ⟨g2, 0, none⟩) (O ++ [x]).length cap2).ownBlock ≠ some k) ∧ k < w5.heap.size) ∨ w5.heap.size ≤ k) ?_ (fun k hk _ => ?_)
              · iterate 5 refine IsSS.set ?_ (fun h => by rcases h with ⟨⟨h | h, _⟩, _⟩ | h <;> omega)
                exact HS6.out
              · rcases hk with hk | hk
                · exact hk.1
                · exact ⟨.inr (by omega), fun e => by have e' : g2 = k := (by injection e); have := HG5.out.2; omega⟩
            · show Ft _ _ _
              iterate 5 refine Ft.set ?_ (fun h => by have := h.1; omega)
              exact HI5.out.below HB6.out
            · show Kd.R kSes 78 _ W.heap.size (fun _ => True) (.slice (some ⟨g2, 0, none⟩) (O ++ [x]).length cap2) (O ++ [x])
              iterate 5 refine R_farB ?_ (by omega) _ _
              rw [List.length_append]
              exact Kd.R_below HR5.out HB6.out
            · show (IDS.take (kk + 1)).foldl SS.tk _ = _
              rw [HFK.out, HID.out, HFO.out, HTK.out]
            · show Below w.heap.size w _
              iterate 5 refine bl_set ?_ (Nat.le_refl _)
              exact bl_trans HB5.out HB6.out
      · have hltz : ¬ (kk : Int) < (IDS.length : Int) := by omega
        have hs1 := HS.out
        have he : kk = IDS.length := by omega
        have hfo := HFO.out
        rw [he, List.take_length] at hfo
        have HTT := Lib.hid (HT.out.trans hfo)
        have r2 := blk_cells HKZ.out
        have z2 := blk_frz HKZ.out
        clear hs1 he hfo
        go_wp2
        have hs1 := HS.out
        rw [HTT.out]
        refine bodyPost_ret (v := .tuple #[.agg #[.int .i64 s'.epoch, .slice A5 s'.L.length c5, .slice A6 s'.H.length c6, .int .i64 s'.next, .int .u64 s'.now], .slice B O.length d]) (by simp [results, Try.results46, go_sem, r2, z2, Br]) rfl ⟨_, _, _, rfl, ?_, ?_, ?_⟩
        · refine IsSS.mono (ok := fun k => ((ok k ∧ k < w.heap.size) ∨ W.heap.size ≤ k) ∧ k ≠ w.heap.size + 1) ?_ (fun k hk _ => hk.1.imp_right (fun h => by omega))
          iterate 5 refine IsSS.set ?_ (fun h => h.2 rfl)
          exact HSS.out.mono (fun k hk _ => ⟨hk.1, fun e => by rcases hk.1 with h | h <;> omega⟩)
        · refine Kd.R_lower (show Kd.R kSes 78 _ W.heap.size (fun _ => True) _ _ from ?_) (by omega)
          iterate 5 refine R_farB ?_ (by omega) _ _
          exact HO.out
        · iterate 5 refine bl_set ?_ (by omega)
          exact HB.out
set_option maxHeartbeats 16000000 in
set_option maxRecDepth 100000 in
theorem tick47 (ok : Nat → Prop) (v : Value) (s : SS) (now : Int) (w : World) (h : IsSS ok w v s) (hsm : s.L.length ≤ 1000) (hsm2 : s.H.length ≤ 1000) :
    Calls Try.prog 47 #[v, .int .u64 now] w fun e w' => ∃ v' B d, e = .returned (.tuple #[v', .slice B (s.tickF now).2.length d]) ∧ IsSS (fun k => (ok k ∧ k < w.heap.size) ∨ w.heap.size ≤ k) w' v' (s.tickF now).1 ∧ Kd.R kSes 78 w' w.heap.size (fun _ => True) (.slice B (s.tickF now).2.length d) (s.tickF now).2 ∧ Below w.heap.size w w' := by
  obtain ⟨A1, c1, A2, c2, rfl, h1, l1, h2, l2⟩ := h
  by_cases hlt : s.now < now
  · obtain ⟨W, hW, K1, K2, HW, hs⟩ := boxes2 w #[.int .i64 s.epoch, .slice A1 s.L.length c1, .slice A2 s.H.length c2, .int .i64 s.next, .int .u64 now] 26 #[.int .i64 0, .slice none 0 0, .slice none 0 0, .int .i64 0, .int .u64 0] 26
    obtain ⟨RES, IDS, hD⟩ : ∃ RES IDS, aDue s.H.length s.H now = (RES, IDS) := ⟨_, _, rfl⟩
    have HT := Lib.hid (show s.tickF now = IDS.foldl SS.tk (⟨s.epoch, s.L, RES, s.next, now⟩, []) by
      unfold SS.tickF SS.ids SS.tick0 SS.at'
      simp only [if_pos hlt, hD])
    have HIL := Lib.hid (show IDS.length ≤ 1000 by have := aDue_ids s.H.length s.H now; rw [hD] at this; simp only [] at this; omega)
    have HDU := Lib.hid (due116 (fun k => ok k ∧ k < w.heap.size) A2 c2 s.H now W ((h2.cut).below HW) l2 hsm2)
    rw [hD] at HDU
    have HF1 := Lib.hid ((h1.cut).below HW)
    have HL1 := Lib.hid l1
    have r1 := blk_cells K1
    have z1 := blk_frz K1
    have HK1 := Lib.hid K1
    have HK2 := Lib.hid K2
    have HWW := Lib.hid hW
    have HWB := Lib.hid HW
    have HS := Lib.hid hs
    have HSM := Lib.hid hsm
    have n12 : w.heap.size ≠ w.heap.size + 1 := by omega
    have n21 : w.heap.size + 1 ≠ w.heap.size := by omega
    have B0 : Below W.heap.size W W := bl_refl W
    clear h1 h2 l1 l2 hW HW K1 K2 hs hsm hsm2 hD
    go_enter Try.func47, Try.ntmps47
    go_wp2_with fail
    rw [HWW.out]
    refine HDU.out.mono ?_
    rintro e w1 ⟨A3, c3, Bi, di, rfl, hF, hc3, _, hRI, hb⟩
    have hs' := HS.out
    have HKV1 := Lib.hid (blk_put (blk_below HK1.out hb) 2 (.slice A3 RES.length c3) rfl)
    have HKV2 := Lib.hid (blk_far (p := ⟨w.heap.size, 2, none⟩) (blk_below HK2.out hb) (by show w.heap.size + 1 ≠ w.heap.size; omega) (.slice A3 RES.length c3))
    have HSV := Lib.hid (IsSS.set (g := w.heap.size) (j := 2) (u := .slice A3 RES.length c3) (⟨A1, c1, A3, c3, rfl, (HF1.out.below hb).mono (fun k hk _ => .inl hk), HL1.out, hF.mono (fun k hk _ => hk.imp_left (fun h => h.1)), hc3⟩ : IsSS (fun k => (ok k ∧ k < w.heap.size) ∨ W.heap.size ≤ k) w1 (.agg #[.int .i64 s.epoch, .slice A1 s.L.length c1, .slice A3 RES.length c3, .int .i64 s.next, .int .u64 now]) ⟨s.epoch, s.L, RES, s.next, now⟩) (fun h => by rcases h with h | h <;> omega))
    have HIV := Lib.hid (Ft.set (g := w.heap.size) (j := 2) (u := .slice A3 RES.length c3) (R_ft hRI) (by omega))
    have HBV := Lib.hid (bl_set (g := w.heap.size) (j := 2) (u := .slice A3 RES.length c3) (bl_trans HWB.out hb) (Nat.le_refl _))
    have B1 : Below W.heap.size W w1 := hb
    clear hF hc3 hRI hb HDU HF1 HL1 HK1 HK2 hs'
    go_wp2
    go_loopg [8, 9] IDS.length (fun gg s8 s30 wr => ∃ (kk : Nat) (s' : SS) (O : List Ses) (A5 : Option Addr) (c5 : Nat) (A6 : Option Addr) (c6 : Nat) (B : Option Addr) (d : Nat), kk ≤ IDS.length ∧ IDS.length - kk ≤ gg ∧ s8 = .slice B O.length d ∧ s30 = .int .i64 kk ∧ Hid (wr.heap[w.heap.size]? = some (.cells #[.int .i64 s'.epoch, .slice A5 s'.L.length c5, .slice A6 s'.H.length c6, .int .i64 s'.next, .int .u64 s'.now] 26 (0, 0))) ∧ Hid (wr.heap[w.heap.size + 1]? = some (.cells #[.int .i64 0, .slice none 0 0, .slice none 0 0, .int .i64 0, .int .u64 0] 26 (0, 0))) ∧ Hid (IsSS (fun k => ((ok k ∧ k < w.heap.size) ∨ W.heap.size ≤ k) ∧ (Value.slice B O.length d).ownBlock ≠ some k) wr (.agg #[.int .i64 s'.epoch, .slice A5 s'.L.length c5, .slice A6 s'.H.length c6, .int .i64 s'.next, .int .u64 s'.now]) s') ∧ Hid (Ft (fun k => W.heap.size ≤ k ∧ (Value.slice B O.length d).ownBlock ≠ some k) wr (fun W => Kd.C kI W Bi IDS.length IDS)) ∧ Hid (Kd.R kSes 78 wr W.heap.size (fun _ => True) (.slice B O.length d) O) ∧ Hid ((IDS.take kk).foldl SS.tk (⟨s.epoch, s.L, RES, s.next, now⟩, []) = (s', O)) ∧ Hid (O.length ≤ kk ∧ s'.L.length ≤ 1000) ∧ Hid (Below w.heap.size w wr))
    case atStart => exact ⟨0, ⟨s.epoch, s.L, RES, s.next, now⟩, [], A1, c1, A3, c3, none, 0, Nat.zero_le _, by omega, rfl, rfl, HKV1.out, HKV2.out, HSV.out.mono (fun k hk _ => ⟨hk, fun e => by cases e⟩), HIV.out.mono (fun k hk _ => ⟨hk, fun e => by cases e⟩), Kd.R_nil .., rfl, ⟨Nat.zero_le _, HSM.out⟩, HBV.out⟩
    case round =>
      obtain ⟨kk, s', O, A5, c5, A6, c6, B, d, hkk, hgg, rfl, rfl, HK, HKZ, HSS, HI, HO, HFO, HLE, HB⟩ := hrel
      clear HKV1 HKV2 HSV HIV HBV r1 z1 B0 B1
      have hlm : IDS.length ≤ 1000 := HIL.out
      have r1 := blk_cells HK.out
      have z1 := blk_frz HK.out
      have Br := bl_refl wr
      by_cases hlt : kk < IDS.length
      · have hltz : (kk : Int) < (IDS.length : Int) := by omega
        have hk0 : (0 : Int) ≤ (kk : Int) := by omega
        obtain ⟨id, hid⟩ : ∃ id, IDS[kk]! = id := ⟨_, rfl⟩
        obtain ⟨adi, rfl, i0⟩ := I_at HI.out.self kk hlt
        rw [hid] at i0
        have y0 := cell_rule i0
        have HFK := Lib.hid (foldl_take SS.tk (⟨s.epoch, s.L, RES, s.next, now⟩, []) IDS kk hlt)
        have HID := Lib.hid hid
        have HLT := Lib.hid hlt
        clear i0 hid
        by_cases hi : sIdx s' id < 0
        · have HTK := Lib.hid (show SS.tk (s', O) id = (s', O) by unfold SS.tk; rw [if_pos hi])
          have HFI := Lib.hid (fun W h => (show Calls Try.prog 49 #[.agg #[.int .i64 s'.epoch, .slice A5 s'.L.length c5, .slice A6 s'.H.length c6, .int .i64 s'.next, .int .u64 s'.now], .int .i64 id] W fun e w' => e = .returned (.tuple #[.agg #[.int .i64 0, .int .i64 0, .bool false, .string ⟨#[]⟩, .int .i64 0, .int .i64 0], .bool false]) ∧ Below W.heap.size W w' from find49 s'.epoch A5 c5 s'.L (.slice A6 s'.H.length c6) rfl s'.next s'.now id W h default false (.inl ⟨hi, rfl, rfl⟩)))
          have HCL := Lib.hid HSS.out.parts.1.self
          clear hi hlt
          go_wp2
          refine start_ (n := 12) (S := fun w' => w'.cell? ⟨w.heap.size, 0, none⟩ = some (.int .i64 s'.epoch) ∧ w'.cell? ⟨w.heap.size, 1, none⟩ = some (.slice A5 s'.L.length c5) ∧ w'.cell? ⟨w.heap.size, 2, none⟩ = some (.slice A6 s'.H.length c6) ∧ w'.cell? ⟨w.heap.size, 3, none⟩ = some (.int .i64 s'.next) ∧ w'.cell? ⟨w.heap.size, 4, none⟩ = some (.int .u64 s'.now) ∧ w'.cell? (adi.add kk) = some (.int .i64 id)) (ds := [10]) #[false, false, false, false, false, false, false, false, false, false, false, false] (by kernel_rfl) rfl rfl ⟨(r1 _ 0 (bl_drew (bl_refl wr))), (r1 _ 1 (bl_drew (bl_refl wr))), (r1 _ 2 (bl_drew (bl_refl wr))), (r1 _ 3 (bl_drew (bl_refl wr))), (r1 _ 4 (bl_drew (bl_refl wr))), (y0 _ (bl_drew (bl_refl wr)))⟩ (fun hHeld => ?_)
          refine pure_ (i := 1) (N := some 36) (v := ?_) (a' := ?_) #[false, true, false, false, false, false, false, false, false, false, false, false] rfl rfl (by kernel_rfl) (fun _ _ _ h => h) (Or.inl ⟨by rfl, ?_⟩) ?_ ?_
          rotate_left
          · intro w'
            go_simp
            with_reducible rfl
          rotate_left
          · simp only [Act.put, List.setIfInBounds_toArray, List.set_cons_zero, List.set_cons_succ, i64_w, i32_w]
            rfl
          refine pure_ (i := 2) (N := some 37) (v := ?_) (a' := ?_) #[false, true, true, false, false, false, false, false, false, false, false, false] rfl rfl (by kernel_rfl) (fun _ _ _ h => h) (Or.inl ⟨by rfl, ?_⟩) ?_ ?_
          rotate_left
          · intro w'
            go_simp
            with_reducible rfl
          rotate_left
          · simp only [Act.put, List.setIfInBounds_toArray, List.set_cons_zero, List.set_cons_succ, i64_w, i32_w]
            rfl
          refine pure_ (i := 3) (N := some 38) (v := ?_) (a' := ?_) #[false, true, true, true, false, false, false, false, false, false, false, false] rfl rfl (by kernel_rfl) (fun _ _ _ h => h) (Or.inl ⟨by rfl, ?_⟩) ?_ ?_
          rotate_left
          · intro w'
            go_simp
            with_reducible rfl
          rotate_left
          · simp only [Act.put, List.setIfInBounds_toArray, List.set_cons_zero, List.set_cons_succ, i64_w, i32_w]
            rfl
          refine take_ (i := 0) (N := some 35) (v := ?_) (a' := ?_) #[true, true, true, true, false, false, false, false, false, false, false, false] rfl rfl (by kernel_rfl) (fun _ _ _ h => h) (Or.inl ⟨by rfl, ?_⟩) hHeld ?_ ?_
          rotate_left
          · rintro w' ⟨s0, s1, s2, s3, s4, s5⟩
            go_simp
            with_reducible rfl
          rotate_left
          · simp only [Act.put, List.setIfInBounds_toArray, List.set_cons_zero, List.set_cons_succ, i64_w, i32_w]
            rfl
          refine take_ (i := 4) (N := some 39) (v := ?_) (a' := ?_) #[true, true, true, true, true, false, false, false, false, false, false, false] rfl rfl (by kernel_rfl) (fun _ _ _ h => h) (Or.inl ⟨by rfl, ?_⟩) hHeld ?_ ?_
          rotate_left
          · rintro w' ⟨s0, s1, s2, s3, s4, s5⟩
            go_simp
            with_reducible rfl
          rotate_left
          · simp only [Act.put, List.setIfInBounds_toArray, List.set_cons_zero, List.set_cons_succ, i64_w, i32_w]
            rfl
          refine join_ (σ := Nat) 2 #[true, true, true, true, true, true, true, true, true, true, false, false] (fun b_ => [(40, .tuple #[.agg #[.int .i64 0, .int .i64 0, .bool false, .string ⟨#[]⟩, .int .i64 0, .int .i64 0], .bool false]), (10, .pointer (some ⟨b_, 0, none⟩)), (34, .tuple #[.agg #[.int .i64 0, .int .i64 0, .bool false, .string ⟨#[]⟩, .int .i64 0, .int .i64 0], .bool false]), (41, .agg #[.int .i64 0, .int .i64 0, .bool false, .string ⟨#[]⟩, .int .i64 0, .int .i64 0]), (42, .bool false)]) (fun b_ w' => (w'.cell? ⟨w.heap.size, 0, none⟩ = some (.int .i64 s'.epoch) ∧ w'.cell? ⟨w.heap.size, 1, none⟩ = some (.slice A5 s'.L.length c5) ∧ w'.cell? ⟨w.heap.size, 2, none⟩ = some (.slice A6 s'.H.length c6) ∧ w'.cell? ⟨w.heap.size, 3, none⟩ = some (.int .i64 s'.next) ∧ w'.cell? ⟨w.heap.size, 4, none⟩ = some (.int .u64 s'.now) ∧ w'.cell? (adi.add kk) = some (.int .i64 id)) ∧ Below wr.heap.size wr w' ∧ w'.heap[b_]? = some (.cells #[.int .i64 0, .int .i64 0, .bool false, .string ⟨#[]⟩, .int .i64 0, .int .i64 0] 78 (0, 0)) ∧ wr.heap.size ≤ b_) ?_ ?_
          rotate_left
          · intro hCont
            refine two_ (i := 5) (j := 9) (Ni := some 40) (Nj := some 10) #[true, true, true, true, true, true, false, false, false, false, false, false] #[true, true, true, true, true, false, false, false, false, true, false, false] rfl rfl rfl rfl (by kernel_rfl) (by decide) (by decide) (fun K hK => ?_) (fun K hK => ?_)
            · skip
              refine goes_ Try.func49 (by kernel_rfl) rfl #[.agg #[.int .i64 s'.epoch, .slice A5 s'.L.length c5, .slice A6 s'.H.length c6, .int .i64 s'.next, .int .u64 s'.now], .int .i64 id] (by rfl) rfl rfl (by simp only [List.map_toArray, List.map_cons, List.map_nil]; rfl) ?_
              with_reducible refine (HFI.out _ (Kd.C_below HCL.out (bl_drew (bl_refl wr)))).mono ?_
              rintro e w4 ⟨rfl, hb0⟩
              refine ⟨_, rfl, ?_⟩
              have hb : Below wr.heap.size wr w4 := bl_trans (bl_drew (bl_refl wr)) hb0
              refine hK.out _ _ ⟨(r1 _ 0 hb), (r1 _ 1 hb), (r1 _ 2 hb), (r1 _ 3 hb), (r1 _ 4 hb), (y0 _ hb)⟩ (fun hHeld => ?_)
              clear hK K
              refine norm_ (a' := ?_) ?_ ?_
              rotate_left
              · show Act.put _ (some 40) _ = _
                simp only [Act.put, List.setIfInBounds_toArray, List.set_cons_zero, List.set_cons_succ, i64_w, i32_w]
                rfl
              refine pure_ (i := 6) (N := some 34) (v := ?_) (a' := ?_) #[true, true, true, true, true, true, true, false, false, false, false, false] rfl rfl (by kernel_rfl) (fun _ _ _ h => h) (Or.inl ⟨by rfl, ?_⟩) ?_ ?_
              rotate_left
              · intro w'
                go_simp
                with_reducible rfl
              rotate_left
              · simp only [Act.put, List.setIfInBounds_toArray, List.set_cons_zero, List.set_cons_succ, i64_w, i32_w]
                rfl
              refine pure_ (i := 7) (N := some 41) (v := ?_) (a' := ?_) #[true, true, true, true, true, true, true, true, false, false, false, false] rfl rfl (by kernel_rfl) (fun _ _ _ h => h) (Or.inl ⟨by rfl, ?_⟩) ?_ ?_
              rotate_left
              · intro w'
                go_simp
                with_reducible rfl
              rotate_left
              · simp only [Act.put, List.setIfInBounds_toArray, List.set_cons_zero, List.set_cons_succ, i64_w, i32_w]
                rfl
              refine pure_ (i := 8) (N := some 42) (v := ?_) (a' := ?_) #[true, true, true, true, true, true, true, true, true, false, false, false] rfl rfl (by kernel_rfl) (fun _ _ _ h => h) (Or.inl ⟨by rfl, ?_⟩) ?_ ?_
              rotate_left
              · intro w'
                go_simp
                with_reducible rfl
              rotate_left
              · simp only [Act.put, List.setIfInBounds_toArray, List.set_cons_zero, List.set_cons_succ, i64_w, i32_w]
                rfl
              refine one_ (i := 9) (N := some 10) #[true, true, true, true, true, true, true, true, true, true, false, false] rfl rfl (by kernel_rfl) (by decide) (fun K hK => ?_)
              refine value_ (w1 := ?_) (v := ?_) (by rfl) rfl ?_ ?_
              rotate_left 2
              · go_simp
                constructor
                · rfl
                · rfl
              refine hK.out _ _ ⟨(r1 _ 0 (bl_alloc _ hb)), (r1 _ 1 (bl_alloc _ hb)), (r1 _ 2 (bl_alloc _ hb)), (r1 _ 3 (bl_alloc _ hb)), (r1 _ 4 (bl_alloc _ hb)), (y0 _ (bl_alloc _ hb))⟩ (fun hHeld => ?_)
              clear hK K
              refine norm_ (a' := ?_) ?_ ?_
              rotate_left
              · show Act.put _ (some 10) _ = _
                simp only [Act.put, List.setIfInBounds_toArray, List.set_cons_zero, List.set_cons_succ, i64_w, i32_w]
                rfl
              exact norm_ (by simp only [putAll, Act.put, List.setIfInBounds_toArray, List.set_cons_zero, List.set_cons_succ]) (hCont w4.heap.size _ ⟨⟨(r1 _ 0 (bl_alloc _ hb)), (r1 _ 1 (bl_alloc _ hb)), (r1 _ 2 (bl_alloc _ hb)), (r1 _ 3 (bl_alloc _ hb)), (r1 _ 4 (bl_alloc _ hb)), (y0 _ (bl_alloc _ hb))⟩, bl_alloc (.cells #[.int .i64 0, .int .i64 0, .bool false, .string ⟨#[]⟩, .int .i64 0, .int .i64 0] 78) hb, blk_new w4 (.cells #[.int .i64 0, .int .i64 0, .bool false, .string ⟨#[]⟩, .int .i64 0, .int .i64 0] 78), hb.size⟩)
            · skip
              refine value_ (w1 := ?_) (v := ?_) (by rfl) rfl ?_ ?_
              rotate_left 2
              · go_simp
                constructor
                · rfl
                · rfl
              refine hK.out _ _ ⟨(r1 _ 0 (bl_drew (bl_alloc _ (bl_refl wr)))), (r1 _ 1 (bl_drew (bl_alloc _ (bl_refl wr)))), (r1 _ 2 (bl_drew (bl_alloc _ (bl_refl wr)))), (r1 _ 3 (bl_drew (bl_alloc _ (bl_refl wr)))), (r1 _ 4 (bl_drew (bl_alloc _ (bl_refl wr)))), (y0 _ (bl_drew (bl_alloc _ (bl_refl wr))))⟩ (fun hHeld => ?_)
              clear hK K
              refine norm_ (a' := ?_) ?_ ?_
              rotate_left
              · show Act.put _ (some 10) _ = _
                simp only [Act.put, List.setIfInBounds_toArray, List.set_cons_zero, List.set_cons_succ, i64_w, i32_w]
                rfl
              refine one_ (i := 5) (N := some 40) #[true, true, true, true, true, true, false, false, false, true, false, false] rfl rfl (by kernel_rfl) (by decide) (fun K hK => ?_)
              refine goes_ Try.func49 (by kernel_rfl) rfl #[.agg #[.int .i64 s'.epoch, .slice A5 s'.L.length c5, .slice A6 s'.H.length c6, .int .i64 s'.next, .int .u64 s'.now], .int .i64 id] (by rfl) rfl rfl (by simp only [List.map_toArray, List.map_cons, List.map_nil]; rfl) ?_
              with_reducible refine (HFI.out _ (Kd.C_below HCL.out (bl_drew (bl_alloc _ (bl_refl wr))))).mono ?_
              rintro e w4 ⟨rfl, hb0⟩
              refine ⟨_, rfl, ?_⟩
              have hb : Below wr.heap.size wr w4 := bl_trans (bl_drew (bl_alloc _ (bl_refl wr))) hb0
              refine hK.out _ _ ⟨(r1 _ 0 hb), (r1 _ 1 hb), (r1 _ 2 hb), (r1 _ 3 hb), (r1 _ 4 hb), (y0 _ hb)⟩ (fun hHeld => ?_)
              clear hK K
              refine norm_ (a' := ?_) ?_ ?_
              rotate_left
              · show Act.put _ (some 40) _ = _
                simp only [Act.put, List.setIfInBounds_toArray, List.set_cons_zero, List.set_cons_succ, i64_w, i32_w]
                rfl
              refine pure_ (i := 6) (N := some 34) (v := ?_) (a' := ?_) #[true, true, true, true, true, true, true, false, false, true, false, false] rfl rfl (by kernel_rfl) (fun _ _ _ h => h) (Or.inl ⟨by rfl, ?_⟩) ?_ ?_
              rotate_left
              · intro w'
                go_simp
                with_reducible rfl
              rotate_left
              · simp only [Act.put, List.setIfInBounds_toArray, List.set_cons_zero, List.set_cons_succ, i64_w, i32_w]
                rfl
              refine pure_ (i := 7) (N := some 41) (v := ?_) (a' := ?_) #[true, true, true, true, true, true, true, true, false, true, false, false] rfl rfl (by kernel_rfl) (fun _ _ _ h => h) (Or.inl ⟨by rfl, ?_⟩) ?_ ?_
              rotate_left
              · intro w'
                go_simp
                with_reducible rfl
              rotate_left
              · simp only [Act.put, List.setIfInBounds_toArray, List.set_cons_zero, List.set_cons_succ, i64_w, i32_w]
                rfl
              refine pure_ (i := 8) (N := some 42) (v := ?_) (a' := ?_) #[true, true, true, true, true, true, true, true, true, true, false, false] rfl rfl (by kernel_rfl) (fun _ _ _ h => h) (Or.inl ⟨by rfl, ?_⟩) ?_ ?_
              rotate_left
              · intro w'
                go_simp
                with_reducible rfl
              rotate_left
              · simp only [Act.put, List.setIfInBounds_toArray, List.set_cons_zero, List.set_cons_succ, i64_w, i32_w]
                rfl
              exact norm_ (by simp only [putAll, Act.put, List.setIfInBounds_toArray, List.set_cons_zero, List.set_cons_succ]) (hCont wr.heap.size _ ⟨⟨(r1 _ 0 hb), (r1 _ 1 hb), (r1 _ 2 hb), (r1 _ 3 hb), (r1 _ 4 hb), (y0 _ hb)⟩, hb, blk_below (w := (wr.alloc (.cells #[.int .i64 0, .int .i64 0, .bool false, .string ⟨#[]⟩, .int .i64 0, .int .i64 0] 78)).drew) (blk_new wr (.cells #[.int .i64 0, .int .i64 0, .bool false, .string ⟨#[]⟩, .int .i64 0, .int .i64 0] 78)) hb0, Nat.le_refl _⟩)
          rintro b9 w5 ⟨hHeld, hb5, hK9, hb9⟩
          have r9 := blk_cells hK9
          have z9 := blk_frz hK9
          have B9 := bl_refl w5
          refine norm_ (a' := ?_) ?_ ?_
          rotate_left
          · simp only [putAll, Act.put, List.setIfInBounds_toArray, List.set_cons_zero, List.set_cons_succ]
            rfl
          refine last_ (i := 10) (N := none) #[true, true, true, true, true, true, true, true, true, true, true, false] rfl rfl (by kernel_rfl) (by decide) (fun K hK => ?_)
          refine skip_ (w1 := ?_) (by rfl) rfl ?_ ?_
          rotate_left
          · go_simp
            rfl
          refine hK.out _ _ ?_
          clear hK K
          refine pure_ (i := 11) (N := some 11) (v := ?_) (a' := ?_) #[true, true, true, true, true, true, true, true, true, true, true, true] rfl rfl (by kernel_rfl) (fun _ _ _ h => h) (Or.inl ⟨by rfl, ?_⟩) ?_ ?_
          rotate_left
          · intro w'
            go_simp
            with_reducible rfl
          rotate_left
          · simp only [Act.put, List.setIfInBounds_toArray, List.set_cons_zero, List.set_cons_succ, i64_w, i32_w]
            rfl
          refine done_ (by kernel_rfl) ?_
          have hKV := (blk_put (blk_put (blk_put (blk_put (blk_put (blk_put hK9 0 (.int .i64 0) rfl) 1 (.int .i64 0) rfl) 2 (.bool false) rfl) 3 (.string ⟨#[]⟩) rfl) 4 (.int .i64 0) rfl) 5 (.int .i64 0) rfl)
          have hb := (bl_set (g := b9) (j := 5) (u := .int .i64 0) (bl_set (g := b9) (j := 4) (u := .int .i64 0) (bl_set (g := b9) (j := 3) (u := .string ⟨#[]⟩) (bl_set (g := b9) (j := 2) (u := .bool false) (bl_set (g := b9) (j := 1) (u := .int .i64 0) (bl_set (g := b9) (j := 0) (u := .int .i64 0) hb5 hb9) hb9) hb9) hb9) hb9) hb9)
          generalize (World.setCell (World.setCell (World.setCell (World.setCell (World.setCell (World.setCell w5 ⟨b9, 0, none⟩ (.int .i64 0)) ⟨b9, 1, none⟩ (.int .i64 0)) ⟨b9, 2, none⟩ (.bool false)) ⟨b9, 3, none⟩ (.string ⟨#[]⟩)) ⟨b9, 4, none⟩ (.int .i64 0)) ⟨b9, 5, none⟩ (.int .i64 0)) = V at hKV hb ⊢
          have rV := blk_cells hKV
          have BV := bl_refl V
          clear hKV hK9 r9 z9 B9 hb5
          have HB4 := Lib.hid hb
          clear hb
          go_wp2
          go_roundg (IDS.length - (kk + 1))
          case measure => have := HLT.out; omega
          case rel =>
            refine ⟨kk + 1, s', O, A5, c5, A6, c6, B, d, by have := HLT.out; omega, by have := HLT.out; omega, rfl, by go_num, blk_below HK.out HB4.out, blk_below HKZ.out HB4.out, HSS.out.below HB4.out, HI.out.below HB4.out, Kd.R_below HO.out HB4.out, ?_, ⟨by have := HLE.out; omega, HLE.out.2⟩, bl_trans HB.out HB4.out⟩
            show (IDS.take (kk + 1)).foldl SS.tk _ = _
            rw [HFK.out, HID.out, HFO.out, HTK.out]
        · obtain ⟨x, hx⟩ : ∃ x, s'.L[(sIdx s' id).toNat]! = x := ⟨_, rfl⟩
          have HTK := Lib.hid (show SS.tk (s', O) id = (s'.but id, O ++ [x]) by unfold SS.tk; rw [if_neg hi]; simp only [hx])
          have HFI := Lib.hid (fun W h => (show Calls Try.prog 49 #[.agg #[.int .i64 s'.epoch, .slice A5 s'.L.length c5, .slice A6 s'.H.length c6, .int .i64 s'.next, .int .u64 s'.now], .int .i64 id] W fun e w' => e = .returned (.tuple #[.agg #[.int .i64 x.id, .int .i64 x.seq, .bool x.busy, .string x.last, .int .i64 x.txn, .int .i64 x.conn], .bool true]) ∧ Below W.heap.size W w' from find49 s'.epoch A5 c5 s'.L (.slice A6 s'.H.length c6) rfl s'.next s'.now id W h x true (.inr ⟨by unfold sIdx at hi; omega, rfl, hx.symm⟩)))
          have HCL := Lib.hid HSS.out.parts.1.self
          clear hi hlt hx
          go_wp2
          refine start_ (n := 12) (S := fun w' => w'.cell? ⟨w.heap.size, 0, none⟩ = some (.int .i64 s'.epoch) ∧ w'.cell? ⟨w.heap.size, 1, none⟩ = some (.slice A5 s'.L.length c5) ∧ w'.cell? ⟨w.heap.size, 2, none⟩ = some (.slice A6 s'.H.length c6) ∧ w'.cell? ⟨w.heap.size, 3, none⟩ = some (.int .i64 s'.next) ∧ w'.cell? ⟨w.heap.size, 4, none⟩ = some (.int .u64 s'.now) ∧ w'.cell? (adi.add kk) = some (.int .i64 id)) (ds := [10]) #[false, false, false, false, false, false, false, false, false, false, false, false] (by kernel_rfl) rfl rfl ⟨(r1 _ 0 (bl_drew (bl_refl wr))), (r1 _ 1 (bl_drew (bl_refl wr))), (r1 _ 2 (bl_drew (bl_refl wr))), (r1 _ 3 (bl_drew (bl_refl wr))), (r1 _ 4 (bl_drew (bl_refl wr))), (y0 _ (bl_drew (bl_refl wr)))⟩ (fun hHeld => ?_)
          refine pure_ (i := 1) (N := some 36) (v := ?_) (a' := ?_) #[false, true, false, false, false, false, false, false, false, false, false, false] rfl rfl (by kernel_rfl) (fun _ _ _ h => h) (Or.inl ⟨by rfl, ?_⟩) ?_ ?_
          rotate_left
          · intro w'
            go_simp
            with_reducible rfl
          rotate_left
          · simp only [Act.put, List.setIfInBounds_toArray, List.set_cons_zero, List.set_cons_succ, i64_w, i32_w]
            rfl
          refine pure_ (i := 2) (N := some 37) (v := ?_) (a' := ?_) #[false, true, true, false, false, false, false, false, false, false, false, false] rfl rfl (by kernel_rfl) (fun _ _ _ h => h) (Or.inl ⟨by rfl, ?_⟩) ?_ ?_
          rotate_left
          · intro w'
            go_simp
            with_reducible rfl
          rotate_left
          · simp only [Act.put, List.setIfInBounds_toArray, List.set_cons_zero, List.set_cons_succ, i64_w, i32_w]
            rfl
          refine pure_ (i := 3) (N := some 38) (v := ?_) (a' := ?_) #[false, true, true, true, false, false, false, false, false, false, false, false] rfl rfl (by kernel_rfl) (fun _ _ _ h => h) (Or.inl ⟨by rfl, ?_⟩) ?_ ?_
          rotate_left
          · intro w'
            go_simp
            with_reducible rfl
          rotate_left
          · simp only [Act.put, List.setIfInBounds_toArray, List.set_cons_zero, List.set_cons_succ, i64_w, i32_w]
            rfl
          refine take_ (i := 0) (N := some 35) (v := ?_) (a' := ?_) #[true, true, true, true, false, false, false, false, false, false, false, false] rfl rfl (by kernel_rfl) (fun _ _ _ h => h) (Or.inl ⟨by rfl, ?_⟩) hHeld ?_ ?_
          rotate_left
          · rintro w' ⟨s0, s1, s2, s3, s4, s5⟩
            go_simp
            with_reducible rfl
          rotate_left
          · simp only [Act.put, List.setIfInBounds_toArray, List.set_cons_zero, List.set_cons_succ, i64_w, i32_w]
            rfl
          refine take_ (i := 4) (N := some 39) (v := ?_) (a' := ?_) #[true, true, true, true, true, false, false, false, false, false, false, false] rfl rfl (by kernel_rfl) (fun _ _ _ h => h) (Or.inl ⟨by rfl, ?_⟩) hHeld ?_ ?_
          rotate_left
          · rintro w' ⟨s0, s1, s2, s3, s4, s5⟩
            go_simp
            with_reducible rfl
          rotate_left
          · simp only [Act.put, List.setIfInBounds_toArray, List.set_cons_zero, List.set_cons_succ, i64_w, i32_w]
            rfl
          refine join_ (σ := Nat) 2 #[true, true, true, true, true, true, true, true, true, true, false, false] (fun b_ => [(40, .tuple #[.agg #[.int .i64 x.id, .int .i64 x.seq, .bool x.busy, .string x.last, .int .i64 x.txn, .int .i64 x.conn], .bool true]), (10, .pointer (some ⟨b_, 0, none⟩)), (34, .tuple #[.agg #[.int .i64 x.id, .int .i64 x.seq, .bool x.busy, .string x.last, .int .i64 x.txn, .int .i64 x.conn], .bool true]), (41, .agg #[.int .i64 x.id, .int .i64 x.seq, .bool x.busy, .string x.last, .int .i64 x.txn, .int .i64 x.conn]), (42, .bool true)]) (fun b_ w' => (w'.cell? ⟨w.heap.size, 0, none⟩ = some (.int .i64 s'.epoch) ∧ w'.cell? ⟨w.heap.size, 1, none⟩ = some (.slice A5 s'.L.length c5) ∧ w'.cell? ⟨w.heap.size, 2, none⟩ = some (.slice A6 s'.H.length c6) ∧ w'.cell? ⟨w.heap.size, 3, none⟩ = some (.int .i64 s'.next) ∧ w'.cell? ⟨w.heap.size, 4, none⟩ = some (.int .u64 s'.now) ∧ w'.cell? (adi.add kk) = some (.int .i64 id)) ∧ Below wr.heap.size wr w' ∧ w'.heap[b_]? = some (.cells #[.int .i64 0, .int .i64 0, .bool false, .string ⟨#[]⟩, .int .i64 0, .int .i64 0] 78 (0, 0)) ∧ wr.heap.size ≤ b_) ?_ ?_
          rotate_left
          · intro hCont
            refine two_ (i := 5) (j := 9) (Ni := some 40) (Nj := some 10) #[true, true, true, true, true, true, false, false, false, false, false, false] #[true, true, true, true, true, false, false, false, false, true, false, false] rfl rfl rfl rfl (by kernel_rfl) (by decide) (by decide) (fun K hK => ?_) (fun K hK => ?_)
            · skip
              refine goes_ Try.func49 (by kernel_rfl) rfl #[.agg #[.int .i64 s'.epoch, .slice A5 s'.L.length c5, .slice A6 s'.H.length c6, .int .i64 s'.next, .int .u64 s'.now], .int .i64 id] (by rfl) rfl rfl (by simp only [List.map_toArray, List.map_cons, List.map_nil]; rfl) ?_
              with_reducible refine (HFI.out _ (Kd.C_below HCL.out (bl_drew (bl_refl wr)))).mono ?_
              rintro e w4 ⟨rfl, hb0⟩
              refine ⟨_, rfl, ?_⟩
              have hb : Below wr.heap.size wr w4 := bl_trans (bl_drew (bl_refl wr)) hb0
              refine hK.out _ _ ⟨(r1 _ 0 hb), (r1 _ 1 hb), (r1 _ 2 hb), (r1 _ 3 hb), (r1 _ 4 hb), (y0 _ hb)⟩ (fun hHeld => ?_)
              clear hK K
              refine norm_ (a' := ?_) ?_ ?_
              rotate_left
              · show Act.put _ (some 40) _ = _
                simp only [Act.put, List.setIfInBounds_toArray, List.set_cons_zero, List.set_cons_succ, i64_w, i32_w]
                rfl
              refine pure_ (i := 6) (N := some 34) (v := ?_) (a' := ?_) #[true, true, true, true, true, true, true, false, false, false, false, false] rfl rfl (by kernel_rfl) (fun _ _ _ h => h) (Or.inl ⟨by rfl, ?_⟩) ?_ ?_
              rotate_left
              · intro w'
                go_simp
                with_reducible rfl
              rotate_left
              · simp only [Act.put, List.setIfInBounds_toArray, List.set_cons_zero, List.set_cons_succ, i64_w, i32_w]
                rfl
              refine pure_ (i := 7) (N := some 41) (v := ?_) (a' := ?_) #[true, true, true, true, true, true, true, true, false, false, false, false] rfl rfl (by kernel_rfl) (fun _ _ _ h => h) (Or.inl ⟨by rfl, ?_⟩) ?_ ?_
              rotate_left
              · intro w'
                go_simp
                with_reducible rfl
              rotate_left
              · simp only [Act.put, List.setIfInBounds_toArray, List.set_cons_zero, List.set_cons_succ, i64_w, i32_w]
                rfl
              refine pure_ (i := 8) (N := some 42) (v := ?_) (a' := ?_) #[true, true, true, true, true, true, true, true, true, false, false, false] rfl rfl (by kernel_rfl) (fun _ _ _ h => h) (Or.inl ⟨by rfl, ?_⟩) ?_ ?_
              rotate_left
              · intro w'
                go_simp
                with_reducible rfl
              rotate_left
              · simp only [Act.put, List.setIfInBounds_toArray, List.set_cons_zero, List.set_cons_succ, i64_w, i32_w]
                rfl
              refine one_ (i := 9) (N := some 10) #[true, true, true, true, true, true, true, true, true, true, false, false] rfl rfl (by kernel_rfl) (by decide) (fun K hK => ?_)
              refine value_ (w1 := ?_) (v := ?_) (by rfl) rfl ?_ ?_
              rotate_left 2
              · go_simp
                constructor
                · rfl
                · rfl
              refine hK.out _ _ ⟨(r1 _ 0 (bl_alloc _ hb)), (r1 _ 1 (bl_alloc _ hb)), (r1 _ 2 (bl_alloc _ hb)), (r1 _ 3 (bl_alloc _ hb)), (r1 _ 4 (bl_alloc _ hb)), (y0 _ (bl_alloc _ hb))⟩ (fun hHeld => ?_)
              clear hK K
              refine norm_ (a' := ?_) ?_ ?_
              rotate_left
              · show Act.put _ (some 10) _ = _
                simp only [Act.put, List.setIfInBounds_toArray, List.set_cons_zero, List.set_cons_succ, i64_w, i32_w]
                rfl
              exact norm_ (by simp only [putAll, Act.put, List.setIfInBounds_toArray, List.set_cons_zero, List.set_cons_succ]) (hCont w4.heap.size _ ⟨⟨(r1 _ 0 (bl_alloc _ hb)), (r1 _ 1 (bl_alloc _ hb)), (r1 _ 2 (bl_alloc _ hb)), (r1 _ 3 (bl_alloc _ hb)), (r1 _ 4 (bl_alloc _ hb)), (y0 _ (bl_alloc _ hb))⟩, bl_alloc (.cells #[.int .i64 0, .int .i64 0, .bool false, .string ⟨#[]⟩, .int .i64 0, .int .i64 0] 78) hb, blk_new w4 (.cells #[.int .i64 0, .int .i64 0, .bool false, .string ⟨#[]⟩, .int .i64 0, .int .i64 0] 78), hb.size⟩)
            · skip
              refine value_ (w1 := ?_) (v := ?_) (by rfl) rfl ?_ ?_
              rotate_left 2
              · go_simp
                constructor
                · rfl
                · rfl
              refine hK.out _ _ ⟨(r1 _ 0 (bl_drew (bl_alloc _ (bl_refl wr)))), (r1 _ 1 (bl_drew (bl_alloc _ (bl_refl wr)))), (r1 _ 2 (bl_drew (bl_alloc _ (bl_refl wr)))), (r1 _ 3 (bl_drew (bl_alloc _ (bl_refl wr)))), (r1 _ 4 (bl_drew (bl_alloc _ (bl_refl wr)))), (y0 _ (bl_drew (bl_alloc _ (bl_refl wr))))⟩ (fun hHeld => ?_)
              clear hK K
              refine norm_ (a' := ?_) ?_ ?_
              rotate_left
              · show Act.put _ (some 10) _ = _
                simp only [Act.put, List.setIfInBounds_toArray, List.set_cons_zero, List.set_cons_succ, i64_w, i32_w]
                rfl
              refine one_ (i := 5) (N := some 40) #[true, true, true, true, true, true, false, false, false, true, false, false] rfl rfl (by kernel_rfl) (by decide) (fun K hK => ?_)
              refine goes_ Try.func49 (by kernel_rfl) rfl #[.agg #[.int .i64 s'.epoch, .slice A5 s'.L.length c5, .slice A6 s'.H.length c6, .int .i64 s'.next, .int .u64 s'.now], .int .i64 id] (by rfl) rfl rfl (by simp only [List.map_toArray, List.map_cons, List.map_nil]; rfl) ?_
              with_reducible refine (HFI.out _ (Kd.C_below HCL.out (bl_drew (bl_alloc _ (bl_refl wr))))).mono ?_
              rintro e w4 ⟨rfl, hb0⟩
              refine ⟨_, rfl, ?_⟩
              have hb : Below wr.heap.size wr w4 := bl_trans (bl_drew (bl_alloc _ (bl_refl wr))) hb0
              refine hK.out _ _ ⟨(r1 _ 0 hb), (r1 _ 1 hb), (r1 _ 2 hb), (r1 _ 3 hb), (r1 _ 4 hb), (y0 _ hb)⟩ (fun hHeld => ?_)
              clear hK K
              refine norm_ (a' := ?_) ?_ ?_
              rotate_left
              · show Act.put _ (some 40) _ = _
                simp only [Act.put, List.setIfInBounds_toArray, List.set_cons_zero, List.set_cons_succ, i64_w, i32_w]
                rfl
              refine pure_ (i := 6) (N := some 34) (v := ?_) (a' := ?_) #[true, true, true, true, true, true, true, false, false, true, false, false] rfl rfl (by kernel_rfl) (fun _ _ _ h => h) (Or.inl ⟨by rfl, ?_⟩) ?_ ?_
              rotate_left
              · intro w'
                go_simp
                with_reducible rfl
              rotate_left
              · simp only [Act.put, List.setIfInBounds_toArray, List.set_cons_zero, List.set_cons_succ, i64_w, i32_w]
                rfl
              refine pure_ (i := 7) (N := some 41) (v := ?_) (a' := ?_) #[true, true, true, true, true, true, true, true, false, true, false, false] rfl rfl (by kernel_rfl) (fun _ _ _ h => h) (Or.inl ⟨by rfl, ?_⟩) ?_ ?_
              rotate_left
              · intro w'
                go_simp
                with_reducible rfl
              rotate_left
              · simp only [Act.put, List.setIfInBounds_toArray, List.set_cons_zero, List.set_cons_succ, i64_w, i32_w]
                rfl
              refine pure_ (i := 8) (N := some 42) (v := ?_) (a' := ?_) #[true, true, true, true, true, true, true, true, true, true, false, false] rfl rfl (by kernel_rfl) (fun _ _ _ h => h) (Or.inl ⟨by rfl, ?_⟩) ?_ ?_
              rotate_left
              · intro w'
                go_simp
                with_reducible rfl
              rotate_left
              · simp only [Act.put, List.setIfInBounds_toArray, List.set_cons_zero, List.set_cons_succ, i64_w, i32_w]
                rfl
              exact norm_ (by simp only [putAll, Act.put, List.setIfInBounds_toArray, List.set_cons_zero, List.set_cons_succ]) (hCont wr.heap.size _ ⟨⟨(r1 _ 0 hb), (r1 _ 1 hb), (r1 _ 2 hb), (r1 _ 3 hb), (r1 _ 4 hb), (y0 _ hb)⟩, hb, blk_below (w := (wr.alloc (.cells #[.int .i64 0, .int .i64 0, .bool false, .string ⟨#[]⟩, .int .i64 0, .int .i64 0] 78)).drew) (blk_new wr (.cells #[.int .i64 0, .int .i64 0, .bool false, .string ⟨#[]⟩, .int .i64 0, .int .i64 0] 78)) hb0, Nat.le_refl _⟩)
          rintro b9 w5 ⟨hHeld, hb5, hK9, hb9⟩
          have r9 := blk_cells hK9
          have z9 := blk_frz hK9
          have B9 := bl_refl w5
          refine norm_ (a' := ?_) ?_ ?_
          rotate_left
          · simp only [putAll, Act.put, List.setIfInBounds_toArray, List.set_cons_zero, List.set_cons_succ]
            rfl
          refine last_ (i := 10) (N := none) #[true, true, true, true, true, true, true, true, true, true, true, false] rfl rfl (by kernel_rfl) (by decide) (fun K hK => ?_)
          refine skip_ (w1 := ?_) (by rfl) rfl ?_ ?_
          rotate_left
          · go_simp
            rfl
          refine hK.out _ _ ?_
          clear hK K
          refine pure_ (i := 11) (N := some 11) (v := ?_) (a' := ?_) #[true, true, true, true, true, true, true, true, true, true, true, true] rfl rfl (by kernel_rfl) (fun _ _ _ h => h) (Or.inl ⟨by rfl, ?_⟩) ?_ ?_
          rotate_left
          · intro w'
            go_simp
            with_reducible rfl
          rotate_left
          · simp only [Act.put, List.setIfInBounds_toArray, List.set_cons_zero, List.set_cons_succ, i64_w, i32_w]
            rfl
          refine done_ (by kernel_rfl) ?_
          have hKV := (blk_put (blk_put (blk_put (blk_put (blk_put (blk_put hK9 0 (.int .i64 x.id) rfl) 1 (.int .i64 x.seq) rfl) 2 (.bool x.busy) rfl) 3 (.string x.last) rfl) 4 (.int .i64 x.txn) rfl) 5 (.int .i64 x.conn) rfl)
          have hb := (bl_set (g := b9) (j := 5) (u := .int .i64 x.conn) (bl_set (g := b9) (j := 4) (u := .int .i64 x.txn) (bl_set (g := b9) (j := 3) (u := .string x.last) (bl_set (g := b9) (j := 2) (u := .bool x.busy) (bl_set (g := b9) (j := 1) (u := .int .i64 x.seq) (bl_set (g := b9) (j := 0) (u := .int .i64 x.id) hb5 hb9) hb9) hb9) hb9) hb9) hb9)
          generalize (World.setCell (World.setCell (World.setCell (World.setCell (World.setCell (World.setCell w5 ⟨b9, 0, none⟩ (.int .i64 x.id)) ⟨b9, 1, none⟩ (.int .i64 x.seq)) ⟨b9, 2, none⟩ (.bool x.busy)) ⟨b9, 3, none⟩ (.string x.last)) ⟨b9, 4, none⟩ (.int .i64 x.txn)) ⟨b9, 5, none⟩ (.int .i64 x.conn)) = V at hKV hb ⊢
          have rV := blk_cells hKV
          have BV := bl_refl V
          clear hKV hK9 r9 z9 B9 hb5
          have HB4 := Lib.hid (bl_alloc (.cells #[.int .i64 x.id, .int .i64 x.seq, .bool x.busy, .string x.last, .int .i64 x.txn, .int .i64 x.conn] 78) hb)
          have hK := blk_new V (.cells #[.int .i64 x.id, .int .i64 x.seq, .bool x.busy, .string x.last, .int .i64 x.txn, .int .i64 x.conn] 78)

          have HK4 := Lib.hid hK
          have B4 := bl_refl V
          have hsz := hb.size
          clear hb hK
          go_wp2_with ((with_reducible refine gate_dst (N := 47) rfl ?_); refine Stop.go ?_)
          have hBA := bl_trans HB.out HB4.out
          have hwW : W.heap.size ≤ wr.heap.size := by have h1 := blk_lt HKZ.out; have := HS.out; omega
          refine ⟨flat_app (f := Ses.cells) (w0 := wr) W.heap.size rfl (.tmp 44) (.tmp 46) 22 78 _ 56 rfl Try.underlying22 info78 rfl (by decide) (by omega) _ O [x] (some ⟨_, 0, none⟩) 1 1 rfl rfl (by omega) (Kd.R_below HO.out HB4.out) (C_one (f := Ses.cells) (t := 78) x HK4.out) (HB4.out.mono hwW) (Nat.le_trans hwW HB4.out.size) (by have := HLE.out; omega) ?_⟩
          intro g2 cap2 w5 hR5 hb5 hge5 hat5 hg5 hlt5
          have hown : ∀ b, (Value.slice B O.length d).ownBlock = some b → b < wr.heap.size := fun b hb => by
            obtain ⟨cg, hcg⟩ := Kd.R_typed HO.out b hb
            exact (Array.getElem?_eq_some_iff.1 hcg).1
          have hown2 : ∀ b, (Value.slice B O.length d).ownBlock = some b → W.heap.size ≤ b := fun b hb => Kd.R_base HO.out b hb
          have hstep : ∀ k, (Value.slice B O.length d).ownBlock ≠ some k → k < (V.alloc (.cells #[.int .i64 x.id, .int .i64 x.seq, .bool x.busy, .string x.last, .int .i64 x.txn, .int .i64 x.conn] 78)).heap.size → w5.heap[k]? = (V.alloc (.cells #[.int .i64 x.id, .int .i64 x.seq, .bool x.busy, .string x.last, .int .i64 x.txn, .int .i64 x.conn] 78)).heap[k]? := fun k hk hl => hg5.block k hl (fun e => hk e.symm)
          have hk5 : ∀ k, (Value.slice B O.length d).ownBlock ≠ some k → k < wr.heap.size → w5.heap[k]? = wr.heap[k]? := fun k hk hl => (hstep k hk (Nat.lt_of_lt_of_le hl HB4.out.size)).trans (HB4.out.block k hl)
          have hne5 : ∀ k, (Value.slice B O.length d).ownBlock ≠ some k → k < wr.heap.size → (Value.slice (some ⟨g2, 0, none⟩) (O ++ [x]).length cap2).ownBlock ≠ some k := fun k hk hl e => by
            have e' : g2 = k := by injection e
            rcases hat5 with h | h
            · exact hk (Eq.trans h (congrArg some e'))
            · have := HB4.out.size; omega
          have hs1 := HS.out
          have hwr := HB.out.size
          have HK5 := Lib.hid ((hk5 _ (fun e => by have := hown2 _ e; omega) (blk_lt HK.out)).trans HK.out)
          have HKZ5 := Lib.hid ((hk5 _ (fun e => by have := hown2 _ e; omega) (blk_lt HKZ.out)).trans HKZ.out)
          have HSS5 := Lib.hid ((HSS.out.cut.step (fun k hk _ => hk5 k hk.1.2 hk.2)).mono (fun k hk _ => ⟨hk.1.1, hne5 k hk.1.2 hk.2⟩) : IsSS (fun k => ((ok k ∧ k < w.heap.size) ∨ W.heap.size ≤ k) ∧ (Value.slice (some ⟨g2, 0, none⟩) (O ++ [x]).length cap2).ownBlock ≠ some k) w5 (.agg #[.int .i64 s'.epoch, .slice A5 s'.L.length c5, .slice A6 s'.H.length c6, .int .i64 s'.next, .int .u64 s'.now]) s')
          have HI5 := Lib.hid ((HI.out.cut.step (fun k hk _ => hk5 k hk.1.2 hk.2)).mono (fun k hk _ => ⟨hk.1.1, hne5 k hk.1.2 hk.2⟩) : Ft (fun k => W.heap.size ≤ k ∧ (Value.slice (some ⟨g2, 0, none⟩) (O ++ [x]).length cap2).ownBlock ≠ some k) w5 (fun W => Kd.C kI W (some adi) IDS.length IDS))
          have HR5 := Lib.hid hR5
          have HB5 := Lib.hid (HB.out.trans (hb5.mono (show w.heap.size ≤ W.heap.size by omega)))
          have HG5 := Lib.hid (show W.heap.size ≤ g2 ∧ g2 < w5.heap.size from ⟨hge5, hlt5⟩)
          have HWO := Lib.hid (less113 _ _ s' id w5 HSS5.out (by have := HLE.out.2; omega))
          have r5 := blk_cells HK5.out
          have z5 := blk_frz HK5.out
          have B5 := bl_refl w5
          obtain ⟨adj, hadj, j0⟩ := I_at HI5.out.self kk HLT.out
          injection hadj with hadj
          subst hadj
          rw [HID.out] at j0
          have y5 := cell_rule j0
          have HSW := Lib.hid (show W.heap.size ≤ w5.heap.size by have := hb5.size; have := hwW; omega)
          clear hR5 hb5 hge5 hat5 hg5 hlt5 hown hown2 hstep hk5 hne5 hs1 hwr hBA hwW r1 z1 y0 Br B4 HK4 hsz j0
          go_wp2
          refine start_ (n := 7) (S := fun w' => w'.cell? ⟨w.heap.size, 0, none⟩ = some (.int .i64 s'.epoch) ∧ w'.cell? ⟨w.heap.size, 1, none⟩ = some (.slice A5 s'.L.length c5) ∧ w'.cell? ⟨w.heap.size, 2, none⟩ = some (.slice A6 s'.H.length c6) ∧ w'.cell? ⟨w.heap.size, 3, none⟩ = some (.int .i64 s'.next) ∧ w'.cell? ⟨w.heap.size, 4, none⟩ = some (.int .u64 s'.now) ∧ w'.cell? (adi.add kk) = some (.int .i64 id)) (ds := [6]) #[false, false, false, false, false, false, false] (by kernel_rfl) rfl rfl ⟨(r5 _ 0 (bl_drew (bl_refl w5))), (r5 _ 1 (bl_drew (bl_refl w5))), (r5 _ 2 (bl_drew (bl_refl w5))), (r5 _ 3 (bl_drew (bl_refl w5))), (r5 _ 4 (bl_drew (bl_refl w5))), (y5 _ (bl_drew (bl_refl w5)))⟩ (fun hHeld => ?_)
          refine pure_ (i := 1) (N := some 49) (v := ?_) (a' := ?_) #[false, true, false, false, false, false, false] rfl rfl (by kernel_rfl) (fun _ _ _ h => h) (Or.inl ⟨by rfl, ?_⟩) ?_ ?_
          rotate_left
          · intro w'
            go_simp
            with_reducible rfl
          rotate_left
          · simp only [Act.put, List.setIfInBounds_toArray, List.set_cons_zero, List.set_cons_succ, i64_w, i32_w]
            rfl
          refine pure_ (i := 2) (N := some 50) (v := ?_) (a' := ?_) #[false, true, true, false, false, false, false] rfl rfl (by kernel_rfl) (fun _ _ _ h => h) (Or.inl ⟨by rfl, ?_⟩) ?_ ?_
          rotate_left
          · intro w'
            go_simp
            with_reducible rfl
          rotate_left
          · simp only [Act.put, List.setIfInBounds_toArray, List.set_cons_zero, List.set_cons_succ, i64_w, i32_w]
            rfl
          refine pure_ (i := 3) (N := some 51) (v := ?_) (a' := ?_) #[false, true, true, true, false, false, false] rfl rfl (by kernel_rfl) (fun _ _ _ h => h) (Or.inl ⟨by rfl, ?_⟩) ?_ ?_
          rotate_left
          · intro w'
            go_simp
            with_reducible rfl
          rotate_left
          · simp only [Act.put, List.setIfInBounds_toArray, List.set_cons_zero, List.set_cons_succ, i64_w, i32_w]
            rfl
          refine take_ (i := 0) (N := some 48) (v := ?_) (a' := ?_) #[true, true, true, true, false, false, false] rfl rfl (by kernel_rfl) (fun _ _ _ h => h) (Or.inl ⟨by rfl, ?_⟩) hHeld ?_ ?_
          rotate_left
          · rintro w' ⟨s0, s1, s2, s3, s4, s5⟩
            go_simp
            with_reducible rfl
          rotate_left
          · simp only [Act.put, List.setIfInBounds_toArray, List.set_cons_zero, List.set_cons_succ, i64_w, i32_w]
            rfl
          refine take_ (i := 4) (N := some 52) (v := ?_) (a' := ?_) #[true, true, true, true, true, false, false] rfl rfl (by kernel_rfl) (fun _ _ _ h => h) (Or.inl ⟨by rfl, ?_⟩) hHeld ?_ ?_
          rotate_left
          · rintro w' ⟨s0, s1, s2, s3, s4, s5⟩
            go_simp
            with_reducible rfl
          rotate_left
          · simp only [Act.put, List.setIfInBounds_toArray, List.set_cons_zero, List.set_cons_succ, i64_w, i32_w]
            rfl
          refine one_ (i := 5) (N := some 53) #[true, true, true, true, true, true, false] rfl rfl (by kernel_rfl) (by decide) (fun K hK => ?_)
          refine goes_ Try.func113 (by kernel_rfl) rfl #[.agg #[.int .i64 s'.epoch, .slice A5 s'.L.length c5, .slice A6 s'.H.length c6, .int .i64 s'.next, .int .u64 s'.now], .int .i64 id] (by rfl) rfl rfl (by simp only [List.map_toArray, List.map_cons, List.map_nil]; rfl) ?_
          with_reducible refine (less113 _ _ s' id _ (HSS5.out.below (bl_drew (bl_refl w5))) (by have := HLE.out.2; omega)).mono ?_
          rintro e w6 ⟨v6, rfl, hS6, hb6⟩
          refine ⟨_, rfl, ?_⟩
          have HS6 := Lib.hid hS6
          have HB6 : Hid (Below w5.heap.size w5 w6) := Lib.hid (bl_trans (bl_drew (bl_refl w5)) hb6)
          obtain ⟨A7, c7, A8, c8, rfl, _, _, _, _⟩ := hS6
          have B6 : Below w5.heap.size w5 w6 := HB6.out
          clear hb6 HWO
          refine hK.out _ _ ⟨(r5 _ 0 B6), (r5 _ 1 B6), (r5 _ 2 B6), (r5 _ 3 B6), (r5 _ 4 B6), (y5 _ B6)⟩ (fun hHeld => ?_)
          clear hK K
          refine norm_ (a' := ?_) ?_ ?_
          rotate_left
          · show Act.put _ (some 53) _ = _
            simp only [Act.put, List.setIfInBounds_toArray, List.set_cons_zero, List.set_cons_succ, i64_w, i32_w]
            rfl
          refine last_ (i := 6) (N := none) #[true, true, true, true, true, true, true] rfl rfl (by kernel_rfl) (by decide) (fun K hK => ?_)
          refine skip_ (w1 := ?_) (by rfl) rfl ?_ ?_
          rotate_left
          · go_simp
            rfl
          refine hK.out _ _ ?_
          clear hK K
          refine done_ (by kernel_rfl) ?_
          have hs1 := HS.out
          have hsw := HSW.out
          have HK6 := Lib.hid (store26 (blk_below HK5.out B6) (.int .i64 (s'.but id).epoch) (.slice A7 (s'.but id).L.length c7) (.slice A8 (s'.but id).H.length c8) (.int .i64 (s'.but id).next) (.int .u64 (s'.but id).now))
          clear hs1 hsw
          go_wp2
          go_roundg (IDS.length - (kk + 1))
          case measure => have := HLT.out; omega
          case rel =>
            have hs1 := HS.out
            have hsw := HSW.out
            refine ⟨kk + 1, s'.but id, O ++ [x], A7, c7, A8, c8, some ⟨g2, 0, none⟩, cap2, by have := HLT.out; omega, by have := HLT.out; omega, by simp, by go_num, HK6.out, far26 (blk_below HKZ5.out HB6.out) (by omega) _ _ _ _ _, ?_, ?_, ?_, ?_, ⟨by have := HLE.out.1; simp; omega, Nat.le_trans (SS.but_len s' id) HLE.out.2⟩, ?_⟩
            · refine IsSS.mono (ok := fun k => ((((ok k ∧ k < w.heap.size) ∨ W.heap.size ≤ k) ∧ (Value.slice (some ⟨g2, 0, none⟩) (O ++ [x]).length cap2).ownBlock ≠ some k) ∧ k < w5.heap.size) ∨ w5.heap.size ≤ k) ?_ (fun k hk _ => ?_)
              · iterate 5 refine IsSS.set ?_ (fun h => by rcases h with ⟨⟨h | h, _⟩, _⟩ | h <;> omega)
                exact HS6.out
              · rcases hk with hk | hk
                · exact hk.1
                · exact ⟨.inr (by omega), fun e => by have e' : g2 = k := (by injection e); have := HG5.out.2; omega⟩
            · show Ft _ _ _
              iterate 5 refine Ft.set ?_ (fun h => by have := h.1; omega)
              exact HI5.out.below HB6.out
            · show Kd.R kSes 78 _ W.heap.size (fun _ => True) (.slice (some ⟨g2, 0, none⟩) (O ++ [x]).length cap2) (O ++ [x])
              iterate 5 refine R_farB ?_ (by omega) _ _
              rw [List.length_append]
              exact Kd.R_below HR5.out HB6.out
            · show (IDS.take (kk + 1)).foldl SS.tk _ = _
              rw [HFK.out, HID.out, HFO.out, HTK.out]
            · show Below w.heap.size w _
              iterate 5 refine bl_set ?_ (Nat.le_refl _)
              exact bl_trans HB5.out HB6.out
      · have hltz : ¬ (kk : Int) < (IDS.length : Int) := by omega
        have hs1 := HS.out
        have he : kk = IDS.length := by omega
        have hfo := HFO.out
        rw [he, List.take_length] at hfo
        have HTT := Lib.hid (HT.out.trans hfo)
        have r2 := blk_cells HKZ.out
        have z2 := blk_frz HKZ.out
        clear hs1 he hfo
        go_wp2
        have hs1 := HS.out
        rw [HTT.out]
        refine bodyPost_ret (v := .tuple #[.agg #[.int .i64 s'.epoch, .slice A5 s'.L.length c5, .slice A6 s'.H.length c6, .int .i64 s'.next, .int .u64 s'.now], .slice B O.length d]) (by simp [results, Try.results47, go_sem, r2, z2, Br]) rfl ⟨_, _, _, rfl, ?_, ?_, ?_⟩
        · refine IsSS.mono (ok := fun k => ((ok k ∧ k < w.heap.size) ∨ W.heap.size ≤ k) ∧ k ≠ w.heap.size + 1) ?_ (fun k hk _ => hk.1.imp_right (fun h => by omega))
          iterate 5 refine IsSS.set ?_ (fun h => h.2 rfl)
          exact HSS.out.mono (fun k hk _ => ⟨hk.1, fun e => by rcases hk.1 with h | h <;> omega⟩)
        · refine Kd.R_lower (show Kd.R kSes 78 _ W.heap.size (fun _ => True) _ _ from ?_) (by omega)
          iterate 5 refine R_farB ?_ (by omega) _ _
          exact HO.out
        · iterate 5 refine bl_set ?_ (by omega)
          exact HB.out
  · obtain ⟨W, hW, K1, K2, HW, hs⟩ := boxes2 w #[.int .i64 s.epoch, .slice A1 s.L.length c1, .slice A2 s.H.length c2, .int .i64 s.next, .int .u64 s.now] 26 #[.int .i64 0, .slice none 0 0, .slice none 0 0, .int .i64 0, .int .u64 0] 26
    obtain ⟨RES, IDS, hD⟩ : ∃ RES IDS, aDue s.H.length s.H s.now = (RES, IDS) := ⟨_, _, rfl⟩
    have HT := Lib.hid (show s.tickF now = IDS.foldl SS.tk (⟨s.epoch, s.L, RES, s.next, s.now⟩, []) by
      unfold SS.tickF SS.ids SS.tick0 SS.at'
      simp only [if_neg hlt, hD])
    have HIL := Lib.hid (show IDS.length ≤ 1000 by have := aDue_ids s.H.length s.H s.now; rw [hD] at this; simp only [] at this; omega)
    have HDU := Lib.hid (due116 (fun k => ok k ∧ k < w.heap.size) A2 c2 s.H s.now W ((h2.cut).below HW) l2 hsm2)
    rw [hD] at HDU
    have HF1 := Lib.hid ((h1.cut).below HW)
    have HL1 := Lib.hid l1
    have r1 := blk_cells K1
    have z1 := blk_frz K1
    have HK1 := Lib.hid K1
    have HK2 := Lib.hid K2
    have HWW := Lib.hid hW
    have HWB := Lib.hid HW
    have HS := Lib.hid hs
    have HSM := Lib.hid hsm
    have n12 : w.heap.size ≠ w.heap.size + 1 := by omega
    have n21 : w.heap.size + 1 ≠ w.heap.size := by omega
    have B0 : Below W.heap.size W W := bl_refl W
    clear h1 h2 l1 l2 hW HW K1 K2 hs hsm hsm2 hD
    go_enter Try.func47, Try.ntmps47
    go_wp2_with fail
    rw [HWW.out]
    refine HDU.out.mono ?_
    rintro e w1 ⟨A3, c3, Bi, di, rfl, hF, hc3, _, hRI, hb⟩
    have hs' := HS.out
    have HKV1 := Lib.hid (blk_put (blk_below HK1.out hb) 2 (.slice A3 RES.length c3) rfl)
    have HKV2 := Lib.hid (blk_far (p := ⟨w.heap.size, 2, none⟩) (blk_below HK2.out hb) (by show w.heap.size + 1 ≠ w.heap.size; omega) (.slice A3 RES.length c3))
    have HSV := Lib.hid (IsSS.set (g := w.heap.size) (j := 2) (u := .slice A3 RES.length c3) (⟨A1, c1, A3, c3, rfl, (HF1.out.below hb).mono (fun k hk _ => .inl hk), HL1.out, hF.mono (fun k hk _ => hk.imp_left (fun h => h.1)), hc3⟩ : IsSS (fun k => (ok k ∧ k < w.heap.size) ∨ W.heap.size ≤ k) w1 (.agg #[.int .i64 s.epoch, .slice A1 s.L.length c1, .slice A3 RES.length c3, .int .i64 s.next, .int .u64 s.now]) ⟨s.epoch, s.L, RES, s.next, s.now⟩) (fun h => by rcases h with h | h <;> omega))
    have HIV := Lib.hid (Ft.set (g := w.heap.size) (j := 2) (u := .slice A3 RES.length c3) (R_ft hRI) (by omega))
    have HBV := Lib.hid (bl_set (g := w.heap.size) (j := 2) (u := .slice A3 RES.length c3) (bl_trans HWB.out hb) (Nat.le_refl _))
    have B1 : Below W.heap.size W w1 := hb
    clear hF hc3 hRI hb HDU HF1 HL1 HK1 HK2 hs'
    go_wp2
    go_loopg [8, 9] IDS.length (fun gg s8 s30 wr => ∃ (kk : Nat) (s' : SS) (O : List Ses) (A5 : Option Addr) (c5 : Nat) (A6 : Option Addr) (c6 : Nat) (B : Option Addr) (d : Nat), kk ≤ IDS.length ∧ IDS.length - kk ≤ gg ∧ s8 = .slice B O.length d ∧ s30 = .int .i64 kk ∧ Hid (wr.heap[w.heap.size]? = some (.cells #[.int .i64 s'.epoch, .slice A5 s'.L.length c5, .slice A6 s'.H.length c6, .int .i64 s'.next, .int .u64 s'.now] 26 (0, 0))) ∧ Hid (wr.heap[w.heap.size + 1]? = some (.cells #[.int .i64 0, .slice none 0 0, .slice none 0 0, .int .i64 0, .int .u64 0] 26 (0, 0))) ∧ Hid (IsSS (fun k => ((ok k ∧ k < w.heap.size) ∨ W.heap.size ≤ k) ∧ (Value.slice B O.length d).ownBlock ≠ some k) wr (.agg #[.int .i64 s'.epoch, .slice A5 s'.L.length c5, .slice A6 s'.H.length c6, .int .i64 s'.next, .int .u64 s'.now]) s') ∧ Hid (Ft (fun k => W.heap.size ≤ k ∧ (Value.slice B O.length d).ownBlock ≠ some k) wr (fun W => Kd.C kI W Bi IDS.length IDS)) ∧ Hid (Kd.R kSes 78 wr W.heap.size (fun _ => True) (.slice B O.length d) O) ∧ Hid ((IDS.take kk).foldl SS.tk (⟨s.epoch, s.L, RES, s.next, s.now⟩, []) = (s', O)) ∧ Hid (O.length ≤ kk ∧ s'.L.length ≤ 1000) ∧ Hid (Below w.heap.size w wr))
    case atStart => exact ⟨0, ⟨s.epoch, s.L, RES, s.next, s.now⟩, [], A1, c1, A3, c3, none, 0, Nat.zero_le _, by omega, rfl, rfl, HKV1.out, HKV2.out, HSV.out.mono (fun k hk _ => ⟨hk, fun e => by cases e⟩), HIV.out.mono (fun k hk _ => ⟨hk, fun e => by cases e⟩), Kd.R_nil .., rfl, ⟨Nat.zero_le _, HSM.out⟩, HBV.out⟩
    case round =>
      obtain ⟨kk, s', O, A5, c5, A6, c6, B, d, hkk, hgg, rfl, rfl, HK, HKZ, HSS, HI, HO, HFO, HLE, HB⟩ := hrel
      clear HKV1 HKV2 HSV HIV HBV r1 z1 B0 B1
      have hlm : IDS.length ≤ 1000 := HIL.out
      have r1 := blk_cells HK.out
      have z1 := blk_frz HK.out
      have Br := bl_refl wr
      by_cases hlt : kk < IDS.length
      · have hltz : (kk : Int) < (IDS.length : Int) := by omega
        have hk0 : (0 : Int) ≤ (kk : Int) := by omega
        obtain ⟨id, hid⟩ : ∃ id, IDS[kk]! = id := ⟨_, rfl⟩
        obtain ⟨adi, rfl, i0⟩ := I_at HI.out.self kk hlt
        rw [hid] at i0
        have y0 := cell_rule i0
        have HFK := Lib.hid (foldl_take SS.tk (⟨s.epoch, s.L, RES, s.next, s.now⟩, []) IDS kk hlt)
        have HID := Lib.hid hid
        have HLT := Lib.hid hlt
        clear i0 hid
        by_cases hi : sIdx s' id < 0
        · have HTK := Lib.hid (show SS.tk (s', O) id = (s', O) by unfold SS.tk; rw [if_pos hi])
          have HFI := Lib.hid (fun W h => (show Calls Try.prog 49 #[.agg #[.int .i64 s'.epoch, .slice A5 s'.L.length c5, .slice A6 s'.H.length c6, .int .i64 s'.next, .int .u64 s'.now], .int .i64 id] W fun e w' => e = .returned (.tuple #[.agg #[.int .i64 0, .int .i64 0, .bool false, .string ⟨#[]⟩, .int .i64 0, .int .i64 0], .bool false]) ∧ Below W.heap.size W w' from find49 s'.epoch A5 c5 s'.L (.slice A6 s'.H.length c6) rfl s'.next s'.now id W h default false (.inl ⟨hi, rfl, rfl⟩)))
          have HCL := Lib.hid HSS.out.parts.1.self
          clear hi hlt
          go_wp2
          refine start_ (n := 12) (S := fun w' => w'.cell? ⟨w.heap.size, 0, none⟩ = some (.int .i64 s'.epoch) ∧ w'.cell? ⟨w.heap.size, 1, none⟩ = some (.slice A5 s'.L.length c5) ∧ w'.cell? ⟨w.heap.size, 2, none⟩ = some (.slice A6 s'.H.length c6) ∧ w'.cell? ⟨w.heap.size, 3, none⟩ = some (.int .i64 s'.next) ∧ w'.cell? ⟨w.heap.size, 4, none⟩ = some (.int .u64 s'.now) ∧ w'.cell? (adi.add kk) = some (.int .i64 id)) (ds := [10]) #[false, false, false, false, false, false, false, false, false, false, false, false] (by kernel_rfl) rfl rfl ⟨(r1 _ 0 (bl_drew (bl_refl wr))), (r1 _ 1 (bl_drew (bl_refl wr))), (r1 _ 2 (bl_drew (bl_refl wr))), (r1 _ 3 (bl_drew (bl_refl wr))), (r1 _ 4 (bl_drew (bl_refl wr))), (y0 _ (bl_drew (bl_refl wr)))⟩ (fun hHeld => ?_)
          refine pure_ (i := 1) (N := some 36) (v := ?_) (a' := ?_) #[false, true, false, false, false, false, false, false, false, false, false, false] rfl rfl (by kernel_rfl) (fun _ _ _ h => h) (Or.inl ⟨by rfl, ?_⟩) ?_ ?_
          rotate_left
          · intro w'
            go_simp
            with_reducible rfl
          rotate_left
          · simp only [Act.put, List.setIfInBounds_toArray, List.set_cons_zero, List.set_cons_succ, i64_w, i32_w]
            rfl
          refine pure_ (i := 2) (N := some 37) (v := ?_) (a' := ?_) #[false, true, true, false, false, false, false, false, false, false, false, false] rfl rfl (by kernel_rfl) (fun _ _ _ h => h) (Or.inl ⟨by rfl, ?_⟩) ?_ ?_
          rotate_left
          · intro w'
            go_simp
            with_reducible rfl
          rotate_left
          · simp only [Act.put, List.setIfInBounds_toArray, List.set_cons_zero, List.set_cons_succ, i64_w, i32_w]
            rfl
          refine pure_ (i := 3) (N := some 38) (v := ?_) (a' := ?_) #[false, true, true, true, false, false, false, false, false, false, false, false] rfl rfl (by kernel_rfl) (fun _ _ _ h => h) (Or.inl ⟨by rfl, ?_⟩) ?_ ?_
          rotate_left
          · intro w'
            go_simp
            with_reducible rfl
          rotate_left
          · simp only [Act.put, List.setIfInBounds_toArray, List.set_cons_zero, List.set_cons_succ, i64_w, i32_w]
            rfl
          refine take_ (i := 0) (N := some 35) (v := ?_) (a' := ?_) #[true, true, true, true, false, false, false, false, false, false, false, false] rfl rfl (by kernel_rfl) (fun _ _ _ h => h) (Or.inl ⟨by rfl, ?_⟩) hHeld ?_ ?_
          rotate_left
          · rintro w' ⟨s0, s1, s2, s3, s4, s5⟩
            go_simp
            with_reducible rfl
          rotate_left
          · simp only [Act.put, List.setIfInBounds_toArray, List.set_cons_zero, List.set_cons_succ, i64_w, i32_w]
            rfl
          refine take_ (i := 4) (N := some 39) (v := ?_) (a' := ?_) #[true, true, true, true, true, false, false, false, false, false, false, false] rfl rfl (by kernel_rfl) (fun _ _ _ h => h) (Or.inl ⟨by rfl, ?_⟩) hHeld ?_ ?_
          rotate_left
          · rintro w' ⟨s0, s1, s2, s3, s4, s5⟩
            go_simp
            with_reducible rfl
          rotate_left
          · simp only [Act.put, List.setIfInBounds_toArray, List.set_cons_zero, List.set_cons_succ, i64_w, i32_w]
            rfl
          refine join_ (σ := Nat) 2 #[true, true, true, true, true, true, true, true, true, true, false, false] (fun b_ => [(40, .tuple #[.agg #[.int .i64 0, .int .i64 0, .bool false, .string ⟨#[]⟩, .int .i64 0, .int .i64 0], .bool false]), (10, .pointer (some ⟨b_, 0, none⟩)), (34, .tuple #[.agg #[.int .i64 0, .int .i64 0, .bool false, .string ⟨#[]⟩, .int .i64 0, .int .i64 0], .bool false]), (41, .agg #[.int .i64 0, .int .i64 0, .bool false, .string ⟨#[]⟩, .int .i64 0, .int .i64 0]), (42, .bool false)]) (fun b_ w' => (w'.cell? ⟨w.heap.size, 0, none⟩ = some (.int .i64 s'.epoch) ∧ w'.cell? ⟨w.heap.size, 1, none⟩ = some (.slice A5 s'.L.length c5) ∧ w'.cell? ⟨w.heap.size, 2, none⟩ = some (.slice A6 s'.H.length c6) ∧ w'.cell? ⟨w.heap.size, 3, none⟩ = some (.int .i64 s'.next) ∧ w'.cell? ⟨w.heap.size, 4, none⟩ = some (.int .u64 s'.now) ∧ w'.cell? (adi.add kk) = some (.int .i64 id)) ∧ Below wr.heap.size wr w' ∧ w'.heap[b_]? = some (.cells #[.int .i64 0, .int .i64 0, .bool false, .string ⟨#[]⟩, .int .i64 0, .int .i64 0] 78 (0, 0)) ∧ wr.heap.size ≤ b_) ?_ ?_
          rotate_left
          · intro hCont
            refine two_ (i := 5) (j := 9) (Ni := some 40) (Nj := some 10) #[true, true, true, true, true, true, false, false, false, false, false, false] #[true, true, true, true, true, false, false, false, false, true, false, false] rfl rfl rfl rfl (by kernel_rfl) (by decide) (by decide) (fun K hK => ?_) (fun K hK => ?_)
            · skip
              refine goes_ Try.func49 (by kernel_rfl) rfl #[.agg #[.int .i64 s'.epoch, .slice A5 s'.L.length c5, .slice A6 s'.H.length c6, .int .i64 s'.next, .int .u64 s'.now], .int .i64 id] (by rfl) rfl rfl (by simp only [List.map_toArray, List.map_cons, List.map_nil]; rfl) ?_
              with_reducible refine (HFI.out _ (Kd.C_below HCL.out (bl_drew (bl_refl wr)))).mono ?_
              rintro e w4 ⟨rfl, hb0⟩
              refine ⟨_, rfl, ?_⟩
              have hb : Below wr.heap.size wr w4 := bl_trans (bl_drew (bl_refl wr)) hb0
              refine hK.out _ _ ⟨(r1 _ 0 hb), (r1 _ 1 hb), (r1 _ 2 hb), (r1 _ 3 hb), (r1 _ 4 hb), (y0 _ hb)⟩ (fun hHeld => ?_)
              clear hK K
              refine norm_ (a' := ?_) ?_ ?_
              rotate_left
              · show Act.put _ (some 40) _ = _
                simp only [Act.put, List.setIfInBounds_toArray, List.set_cons_zero, List.set_cons_succ, i64_w, i32_w]
                rfl
              refine pure_ (i := 6) (N := some 34) (v := ?_) (a' := ?_) #[true, true, true, true, true, true, true, false, false, false, false, false] rfl rfl (by kernel_rfl) (fun _ _ _ h => h) (Or.inl ⟨by rfl, ?_⟩) ?_ ?_
              rotate_left
              · intro w'
                go_simp
                with_reducible rfl
              rotate_left
              · simp only [Act.put, List.setIfInBounds_toArray, List.set_cons_zero, List.set_cons_succ, i64_w, i32_w]
                rfl
              refine pure_ (i := 7) (N := some 41) (v := ?_) (a' := ?_) #[true, true, true, true, true, true, true, true, false, false, false, false] rfl rfl (by kernel_rfl) (fun _ _ _ h => h) (Or.inl ⟨by rfl, ?_⟩) ?_ ?_
              rotate_left
              · intro w'
                go_simp
                with_reducible rfl
              rotate_left
              · simp only [Act.put, List.setIfInBounds_toArray, List.set_cons_zero, List.set_cons_succ, i64_w, i32_w]
                rfl
              refine pure_ (i := 8) (N := some 42) (v := ?_) (a' := ?_) #[true, true, true, true, true, true, true, true, true, false, false, false] rfl rfl (by kernel_rfl) (fun _ _ _ h => h) (Or.inl ⟨by rfl, ?_⟩) ?_ ?_
              rotate_left
              · intro w'
                go_simp
                with_reducible rfl
              rotate_left
              · simp only [Act.put, List.setIfInBounds_toArray, List.set_cons_zero, List.set_cons_succ, i64_w, i32_w]
                rfl
              refine one_ (i := 9) (N := some 10) #[true, true, true, true, true, true, true, true, true, true, false, false] rfl rfl (by kernel_rfl) (by decide) (fun K hK => ?_)
              refine value_ (w1 := ?_) (v := ?_) (by rfl) rfl ?_ ?_
              rotate_left 2
              · go_simp
                constructor
                · rfl
                · rfl
              refine hK.out _ _ ⟨(r1 _ 0 (bl_alloc _ hb)), (r1 _ 1 (bl_alloc _ hb)), (r1 _ 2 (bl_alloc _ hb)), (r1 _ 3 (bl_alloc _ hb)), (r1 _ 4 (bl_alloc _ hb)), (y0 _ (bl_alloc _ hb))⟩ (fun hHeld => ?_)
              clear hK K
              refine norm_ (a' := ?_) ?_ ?_
              rotate_left
              · show Act.put _ (some 10) _ = _
                simp only [Act.put, List.setIfInBounds_toArray, List.set_cons_zero, List.set_cons_succ, i64_w, i32_w]
                rfl
              exact norm_ (by simp only [putAll, Act.put, List.setIfInBounds_toArray, List.set_cons_zero, List.set_cons_succ]) (hCont w4.heap.size _ ⟨⟨(r1 _ 0 (bl_alloc _ hb)), (r1 _ 1 (bl_alloc _ hb)), (r1 _ 2 (bl_alloc _ hb)), (r1 _ 3 (bl_alloc _ hb)), (r1 _ 4 (bl_alloc _ hb)), (y0 _ (bl_alloc _ hb))⟩, bl_alloc (.cells #[.int .i64 0, .int .i64 0, .bool false, .string ⟨#[]⟩, .int .i64 0, .int .i64 0] 78) hb, blk_new w4 (.cells #[.int .i64 0, .int .i64 0, .bool false, .string ⟨#[]⟩, .int .i64 0, .int .i64 0] 78), hb.size⟩)
            · skip
              refine value_ (w1 := ?_) (v := ?_) (by rfl) rfl ?_ ?_
              rotate_left 2
              · go_simp
                constructor
                · rfl
                · rfl
              refine hK.out _ _ ⟨(r1 _ 0 (bl_drew (bl_alloc _ (bl_refl wr)))), (r1 _ 1 (bl_drew (bl_alloc _ (bl_refl wr)))), (r1 _ 2 (bl_drew (bl_alloc _ (bl_refl wr)))), (r1 _ 3 (bl_drew (bl_alloc _ (bl_refl wr)))), (r1 _ 4 (bl_drew (bl_alloc _ (bl_refl wr)))), (y0 _ (bl_drew (bl_alloc _ (bl_refl wr))))⟩ (fun hHeld => ?_)
              clear hK K
              refine norm_ (a' := ?_) ?_ ?_
              rotate_left
              · show Act.put _ (some 10) _ = _
                simp only [Act.put, List.setIfInBounds_toArray, List.set_cons_zero, List.set_cons_succ, i64_w, i32_w]
                rfl
              refine one_ (i := 5) (N := some 40) #[true, true, true, true, true, true, false, false, false, true, false, false] rfl rfl (by kernel_rfl) (by decide) (fun K hK => ?_)
              refine goes_ Try.func49 (by kernel_rfl) rfl #[.agg #[.int .i64 s'.epoch, .slice A5 s'.L.length c5, .slice A6 s'.H.length c6, .int .i64 s'.next, .int .u64 s'.now], .int .i64 id] (by rfl) rfl rfl (by simp only [List.map_toArray, List.map_cons, List.map_nil]; rfl) ?_
              with_reducible refine (HFI.out _ (Kd.C_below HCL.out (bl_drew (bl_alloc _ (bl_refl wr))))).mono ?_
              rintro e w4 ⟨rfl, hb0⟩
              refine ⟨_, rfl, ?_⟩
              have hb : Below wr.heap.size wr w4 := bl_trans (bl_drew (bl_alloc _ (bl_refl wr))) hb0
              refine hK.out _ _ ⟨(r1 _ 0 hb), (r1 _ 1 hb), (r1 _ 2 hb), (r1 _ 3 hb), (r1 _ 4 hb), (y0 _ hb)⟩ (fun hHeld => ?_)
              clear hK K
              refine norm_ (a' := ?_) ?_ ?_
              rotate_left
              · show Act.put _ (some 40) _ = _
                simp only [Act.put, List.setIfInBounds_toArray, List.set_cons_zero, List.set_cons_succ, i64_w, i32_w]
                rfl
              refine pure_ (i := 6) (N := some 34) (v := ?_) (a' := ?_) #[true, true, true, true, true, true, true, false, false, true, false, false] rfl rfl (by kernel_rfl) (fun _ _ _ h => h) (Or.inl ⟨by rfl, ?_⟩) ?_ ?_
              rotate_left
              · intro w'
                go_simp
                with_reducible rfl
              rotate_left
              · simp only [Act.put, List.setIfInBounds_toArray, List.set_cons_zero, List.set_cons_succ, i64_w, i32_w]
                rfl
              refine pure_ (i := 7) (N := some 41) (v := ?_) (a' := ?_) #[true, true, true, true, true, true, true, true, false, true, false, false] rfl rfl (by kernel_rfl) (fun _ _ _ h => h) (Or.inl ⟨by rfl, ?_⟩) ?_ ?_
              rotate_left
              · intro w'
                go_simp
                with_reducible rfl
              rotate_left
              · simp only [Act.put, List.setIfInBounds_toArray, List.set_cons_zero, List.set_cons_succ, i64_w, i32_w]
                rfl
              refine pure_ (i := 8) (N := some 42) (v := ?_) (a' := ?_) #[true, true, true, true, true, true, true, true, true, true, false, false] rfl rfl (by kernel_rfl) (fun _ _ _ h => h) (Or.inl ⟨by rfl, ?_⟩) ?_ ?_
              rotate_left
              · intro w'
                go_simp
                with_reducible rfl
              rotate_left
              · simp only [Act.put, List.setIfInBounds_toArray, List.set_cons_zero, List.set_cons_succ, i64_w, i32_w]
                rfl
              exact norm_ (by simp only [putAll, Act.put, List.setIfInBounds_toArray, List.set_cons_zero, List.set_cons_succ]) (hCont wr.heap.size _ ⟨⟨(r1 _ 0 hb), (r1 _ 1 hb), (r1 _ 2 hb), (r1 _ 3 hb), (r1 _ 4 hb), (y0 _ hb)⟩, hb, blk_below (w := (wr.alloc (.cells #[.int .i64 0, .int .i64 0, .bool false, .string ⟨#[]⟩, .int .i64 0, .int .i64 0] 78)).drew) (blk_new wr (.cells #[.int .i64 0, .int .i64 0, .bool false, .string ⟨#[]⟩, .int .i64 0, .int .i64 0] 78)) hb0, Nat.le_refl _⟩)
          rintro b9 w5 ⟨hHeld, hb5, hK9, hb9⟩
          have r9 := blk_cells hK9
          have z9 := blk_frz hK9
          have B9 := bl_refl w5
          refine norm_ (a' := ?_) ?_ ?_
          rotate_left
          · simp only [putAll, Act.put, List.setIfInBounds_toArray, List.set_cons_zero, List.set_cons_succ]
            rfl
          refine last_ (i := 10) (N := none) #[true, true, true, true, true, true, true, true, true, true, true, false] rfl rfl (by kernel_rfl) (by decide) (fun K hK => ?_)
          refine skip_ (w1 := ?_) (by rfl) rfl ?_ ?_
          rotate_left
          · go_simp
            rfl
          refine hK.out _ _ ?_
          clear hK K
          refine pure_ (i := 11) (N := some 11) (v := ?_) (a' := ?_) #[true, true, true, true, true, true, true, true, true, true, true, true] rfl rfl (by kernel_rfl) (fun _ _ _ h => h) (Or.inl ⟨by rfl, ?_⟩) ?_ ?_
          rotate_left
          · intro w'
            go_simp
            with_reducible rfl
          rotate_left
          · simp only [Act.put, List.setIfInBounds_toArray, List.set_cons_zero, List.set_cons_succ, i64_w, i32_w]
            rfl
          refine done_ (by kernel_rfl) ?_
          have hKV := (blk_put (blk_put (blk_put (blk_put (blk_put (blk_put hK9 0 (.int .i64 0) rfl) 1 (.int .i64 0) rfl) 2 (.bool false) rfl) 3 (.string ⟨#[]⟩) rfl) 4 (.int .i64 0) rfl) 5 (.int .i64 0) rfl)
          have hb := (bl_set (g := b9) (j := 5) (u := .int .i64 0) (bl_set (g := b9) (j := 4) (u := .int .i64 0) (bl_set (g := b9) (j := 3) (u := .string ⟨#[]⟩) (bl_set (g := b9) (j := 2) (u := .bool false) (bl_set (g := b9) (j := 1) (u := .int .i64 0) (bl_set (g := b9) (j := 0) (u := .int .i64 0) hb5 hb9) hb9) hb9) hb9) hb9) hb9)
          generalize (World.setCell (World.setCell (World.setCell (World.setCell (World.setCell (World.setCell w5 ⟨b9, 0, none⟩ (.int .i64 0)) ⟨b9, 1, none⟩ (.int .i64 0)) ⟨b9, 2, none⟩ (.bool false)) ⟨b9, 3, none⟩ (.string ⟨#[]⟩)) ⟨b9, 4, none⟩ (.int .i64 0)) ⟨b9, 5, none⟩ (.int .i64 0)) = V at hKV hb ⊢
          have rV := blk_cells hKV
          have BV := bl_refl V
          clear hKV hK9 r9 z9 B9 hb5
          have HB4 := Lib.hid hb
          clear hb
          go_wp2
          go_roundg (IDS.length - (kk + 1))
          case measure => have := HLT.out; omega
          case rel =>
            refine ⟨kk + 1, s', O, A5, c5, A6, c6, B, d, by have := HLT.out; omega, by have := HLT.out; omega, rfl, by go_num, blk_below HK.out HB4.out, blk_below HKZ.out HB4.out, HSS.out.below HB4.out, HI.out.below HB4.out, Kd.R_below HO.out HB4.out, ?_, ⟨by have := HLE.out; omega, HLE.out.2⟩, bl_trans HB.out HB4.out⟩
            show (IDS.take (kk + 1)).foldl SS.tk _ = _
            rw [HFK.out, HID.out, HFO.out, HTK.out]
        · obtain ⟨x, hx⟩ : ∃ x, s'.L[(sIdx s' id).toNat]! = x := ⟨_, rfl⟩
          have HTK := Lib.hid (show SS.tk (s', O) id = (s'.but id, O ++ [x]) by unfold SS.tk; rw [if_neg hi]; simp only [hx])
          have HFI := Lib.hid (fun W h => (show Calls Try.prog 49 #[.agg #[.int .i64 s'.epoch, .slice A5 s'.L.length c5, .slice A6 s'.H.length c6, .int .i64 s'.next, .int .u64 s'.now], .int .i64 id] W fun e w' => e = .returned (.tuple #[.agg #[.int .i64 x.id, .int .i64 x.seq, .bool x.busy, .string x.last, .int .i64 x.txn, .int .i64 x.conn], .bool true]) ∧ Below W.heap.size W w' from find49 s'.epoch A5 c5 s'.L (.slice A6 s'.H.length c6) rfl s'.next s'.now id W h x true (.inr ⟨by unfold sIdx at hi; omega, rfl, hx.symm⟩)))
          have HCL := Lib.hid HSS.out.parts.1.self
          clear hi hlt hx
          go_wp2
          refine start_ (n := 12) (S := fun w' => w'.cell? ⟨w.heap.size, 0, none⟩ = some (.int .i64 s'.epoch) ∧ w'.cell? ⟨w.heap.size, 1, none⟩ = some (.slice A5 s'.L.length c5) ∧ w'.cell? ⟨w.heap.size, 2, none⟩ = some (.slice A6 s'.H.length c6) ∧ w'.cell? ⟨w.heap.size, 3, none⟩ = some (.int .i64 s'.next) ∧ w'.cell? ⟨w.heap.size, 4, none⟩ = some (.int .u64 s'.now) ∧ w'.cell? (adi.add kk) = some (.int .i64 id)) (ds := [10]) #[false, false, false, false, false, false, false, false, false, false, false, false] (by kernel_rfl) rfl rfl ⟨(r1 _ 0 (bl_drew (bl_refl wr))), (r1 _ 1 (bl_drew (bl_refl wr))), (r1 _ 2 (bl_drew (bl_refl wr))), (r1 _ 3 (bl_drew (bl_refl wr))), (r1 _ 4 (bl_drew (bl_refl wr))), (y0 _ (bl_drew (bl_refl wr)))⟩ (fun hHeld => ?_)
          refine pure_ (i := 1) (N := some 36) (v := ?_) (a' := ?_) #[false, true, false, false, false, false, false, false, false, false, false, false] rfl rfl (by kernel_rfl) (fun _ _ _ h => h) (Or.inl ⟨by rfl, ?_⟩) ?_ ?_
          rotate_left
          · intro w'
            go_simp
            with_reducible rfl
          rotate_left
          · simp only [Act.put, List.setIfInBounds_toArray, List.set_cons_zero, List.set_cons_succ, i64_w, i32_w]
            rfl
          refine pure_ (i := 2) (N := some 37) (v := ?_) (a' := ?_) #[false, true, true, false, false, false, false, false, false, false, false, false] rfl rfl (by kernel_rfl) (fun _ _ _ h => h) (Or.inl ⟨by rfl, ?_⟩) ?_ ?_
          rotate_left
          · intro w'
            go_simp
            with_reducible rfl
          rotate_left
          · simp only [Act.put, List.setIfInBounds_toArray, List.set_cons_zero, List.set_cons_succ, i64_w, i32_w]
            rfl
          refine pure_ (i := 3) (N := some 38) (v := ?_) (a' := ?_) #[false, true, true, true, false, false, false, false, false, false, false, false] rfl rfl (by kernel_rfl) (fun _ _ _ h => h) (Or.inl ⟨by rfl, ?_⟩) ?_ ?_
          rotate_left
          · intro w'
            go_simp
            with_reducible rfl
          rotate_left
          · simp only [Act.put, List.setIfInBounds_toArray, List.set_cons_zero, List.set_cons_succ, i64_w, i32_w]
            rfl
          refine take_ (i := 0) (N := some 35) (v := ?_) (a' := ?_) #[true, true, true, true, false, false, false, false, false, false, false, false] rfl rfl (by kernel_rfl) (fun _ _ _ h => h) (Or.inl ⟨by rfl, ?_⟩) hHeld ?_ ?_
          rotate_left
          · rintro w' ⟨s0, s1, s2, s3, s4, s5⟩
            go_simp
            with_reducible rfl
          rotate_left
          · simp only [Act.put, List.setIfInBounds_toArray, List.set_cons_zero, List.set_cons_succ, i64_w, i32_w]
            rfl
          refine take_ (i := 4) (N := some 39) (v := ?_) (a' := ?_) #[true, true, true, true, true, false, false, false, false, false, false, false] rfl rfl (by kernel_rfl) (fun _ _ _ h => h) (Or.inl ⟨by rfl, ?_⟩) hHeld ?_ ?_
          rotate_left
          · rintro w' ⟨s0, s1, s2, s3, s4, s5⟩
            go_simp
            with_reducible rfl
          rotate_left
          · simp only [Act.put, List.setIfInBounds_toArray, List.set_cons_zero, List.set_cons_succ, i64_w, i32_w]
            rfl
          refine join_ (σ := Nat) 2 #[true, true, true, true, true, true, true, true, true, true, false, false] (fun b_ => [(40, .tuple #[.agg #[.int .i64 x.id, .int .i64 x.seq, .bool x.busy, .string x.last, .int .i64 x.txn, .int .i64 x.conn], .bool true]), (10, .pointer (some ⟨b_, 0, none⟩)), (34, .tuple #[.agg #[.int .i64 x.id, .int .i64 x.seq, .bool x.busy, .string x.last, .int .i64 x.txn, .int .i64 x.conn], .bool true]), (41, .agg #[.int .i64 x.id, .int .i64 x.seq, .bool x.busy, .string x.last, .int .i64 x.txn, .int .i64 x.conn]), (42, .bool true)]) (fun b_ w' => (w'.cell? ⟨w.heap.size, 0, none⟩ = some (.int .i64 s'.epoch) ∧ w'.cell? ⟨w.heap.size, 1, none⟩ = some (.slice A5 s'.L.length c5) ∧ w'.cell? ⟨w.heap.size, 2, none⟩ = some (.slice A6 s'.H.length c6) ∧ w'.cell? ⟨w.heap.size, 3, none⟩ = some (.int .i64 s'.next) ∧ w'.cell? ⟨w.heap.size, 4, none⟩ = some (.int .u64 s'.now) ∧ w'.cell? (adi.add kk) = some (.int .i64 id)) ∧ Below wr.heap.size wr w' ∧ w'.heap[b_]? = some (.cells #[.int .i64 0, .int .i64 0, .bool false, .string ⟨#[]⟩, .int .i64 0, .int .i64 0] 78 (0, 0)) ∧ wr.heap.size ≤ b_) ?_ ?_
          rotate_left
          · intro hCont
            refine two_ (i := 5) (j := 9) (Ni := some 40) (Nj := some 10) #[true, true, true, true, true, true, false, false, false, false, false, false] #[true, true, true, true, true, false, false, false, false, true, false, false] rfl rfl rfl rfl (by kernel_rfl) (by decide) (by decide) (fun K hK => ?_) (fun K hK => ?_)
            · skip
              refine goes_ Try.func49 (by kernel_rfl) rfl #[.agg #[.int .i64 s'.epoch, .slice A5 s'.L.length c5, .slice A6 s'.H.length c6, .int .i64 s'.next, .int .u64 s'.now], .int .i64 id] (by rfl) rfl rfl (by simp only [List.map_toArray, List.map_cons, List.map_nil]; rfl) ?_
              with_reducible refine (HFI.out _ (Kd.C_below HCL.out (bl_drew (bl_refl wr)))).mono ?_
              rintro e w4 ⟨rfl, hb0⟩
              refine ⟨_, rfl, ?_⟩
              have hb : Below wr.heap.size wr w4 := bl_trans (bl_drew (bl_refl wr)) hb0
              refine hK.out _ _ ⟨(r1 _ 0 hb), (r1 _ 1 hb), (r1 _ 2 hb), (r1 _ 3 hb), (r1 _ 4 hb), (y0 _ hb)⟩ (fun hHeld => ?_)
              clear hK K
              refine norm_ (a' := ?_) ?_ ?_
              rotate_left
              · show Act.put _ (some 40) _ = _
                simp only [Act.put, List.setIfInBounds_toArray, List.set_cons_zero, List.set_cons_succ, i64_w, i32_w]
                rfl
              refine pure_ (i := 6) (N := some 34) (v := ?_) (a' := ?_) #[true, true, true, true, true, true, true, false, false, false, false, false] rfl rfl (by kernel_rfl) (fun _ _ _ h => h) (Or.inl ⟨by rfl, ?_⟩) ?_ ?_
              rotate_left
              · intro w'
                go_simp
                with_reducible rfl
              rotate_left
              · simp only [Act.put, List.setIfInBounds_toArray, List.set_cons_zero, List.set_cons_succ, i64_w, i32_w]
                rfl
              refine pure_ (i := 7) (N := some 41) (v := ?_) (a' := ?_) #[true, true, true, true, true, true, true, true, false, false, false, false] rfl rfl (by kernel_rfl) (fun _ _ _ h => h) (Or.inl ⟨by rfl, ?_⟩) ?_ ?_
              rotate_left
              · intro w'
                go_simp
                with_reducible rfl
              rotate_left
              · simp only [Act.put, List.setIfInBounds_toArray, List.set_cons_zero, List.set_cons_succ, i64_w, i32_w]
                rfl
              refine pure_ (i := 8) (N := some 42) (v := ?_) (a' := ?_) #[true, true, true, true, true, true, true, true, true, false, false, false] rfl rfl (by kernel_rfl) (fun _ _ _ h => h) (Or.inl ⟨by rfl, ?_⟩) ?_ ?_
              rotate_left
              · intro w'
                go_simp
                with_reducible rfl
              rotate_left
              · simp only [Act.put, List.setIfInBounds_toArray, List.set_cons_zero, List.set_cons_succ, i64_w, i32_w]
                rfl
              refine one_ (i := 9) (N := some 10) #[true, true, true, true, true, true, true, true, true, true, false, false] rfl rfl (by kernel_rfl) (by decide) (fun K hK => ?_)
              refine value_ (w1 := ?_) (v := ?_) (by rfl) rfl ?_ ?_
              rotate_left 2
              · go_simp
                constructor
                · rfl
                · rfl
              refine hK.out _ _ ⟨(r1 _ 0 (bl_alloc _ hb)), (r1 _ 1 (bl_alloc _ hb)), (r1 _ 2 (bl_alloc _ hb)), (r1 _ 3 (bl_alloc _ hb)), (r1 _ 4 (bl_alloc _ hb)), (y0 _ (bl_alloc _ hb))⟩ (fun hHeld => ?_)
              clear hK K
              refine norm_ (a' := ?_) ?_ ?_
              rotate_left
              · show Act.put _ (some 10) _ = _
                simp only [Act.put, List.setIfInBounds_toArray, List.set_cons_zero, List.set_cons_succ, i64_w, i32_w]
                rfl
              exact norm_ (by simp only [putAll, Act.put, List.setIfInBounds_toArray, List.set_cons_zero, List.set_cons_succ]) (hCont w4.heap.size _ ⟨⟨(r1 _ 0 (bl_alloc _ hb)), (r1 _ 1 (bl_alloc _ hb)), (r1 _ 2 (bl_alloc _ hb)), (r1 _ 3 (bl_alloc _ hb)), (r1 _ 4 (bl_alloc _ hb)), (y0 _ (bl_alloc _ hb))⟩, bl_alloc (.cells #[.int .i64 0, .int .i64 0, .bool false, .string ⟨#[]⟩, .int .i64 0, .int .i64 0] 78) hb, blk_new w4 (.cells #[.int .i64 0, .int .i64 0, .bool false, .string ⟨#[]⟩, .int .i64 0, .int .i64 0] 78), hb.size⟩)
            · skip
              refine value_ (w1 := ?_) (v := ?_) (by rfl) rfl ?_ ?_
              rotate_left 2
              · go_simp
                constructor
                · rfl
                · rfl
              refine hK.out _ _ ⟨(r1 _ 0 (bl_drew (bl_alloc _ (bl_refl wr)))), (r1 _ 1 (bl_drew (bl_alloc _ (bl_refl wr)))), (r1 _ 2 (bl_drew (bl_alloc _ (bl_refl wr)))), (r1 _ 3 (bl_drew (bl_alloc _ (bl_refl wr)))), (r1 _ 4 (bl_drew (bl_alloc _ (bl_refl wr)))), (y0 _ (bl_drew (bl_alloc _ (bl_refl wr))))⟩ (fun hHeld => ?_)
              clear hK K
              refine norm_ (a' := ?_) ?_ ?_
              rotate_left
              · show Act.put _ (some 10) _ = _
                simp only [Act.put, List.setIfInBounds_toArray, List.set_cons_zero, List.set_cons_succ, i64_w, i32_w]
                rfl
              refine one_ (i := 5) (N := some 40) #[true, true, true, true, true, true, false, false, false, true, false, false] rfl rfl (by kernel_rfl) (by decide) (fun K hK => ?_)
              refine goes_ Try.func49 (by kernel_rfl) rfl #[.agg #[.int .i64 s'.epoch, .slice A5 s'.L.length c5, .slice A6 s'.H.length c6, .int .i64 s'.next, .int .u64 s'.now], .int .i64 id] (by rfl) rfl rfl (by simp only [List.map_toArray, List.map_cons, List.map_nil]; rfl) ?_
              with_reducible refine (HFI.out _ (Kd.C_below HCL.out (bl_drew (bl_alloc _ (bl_refl wr))))).mono ?_
              rintro e w4 ⟨rfl, hb0⟩
              refine ⟨_, rfl, ?_⟩
              have hb : Below wr.heap.size wr w4 := bl_trans (bl_drew (bl_alloc _ (bl_refl wr))) hb0
              refine hK.out _ _ ⟨(r1 _ 0 hb), (r1 _ 1 hb), (r1 _ 2 hb), (r1 _ 3 hb), (r1 _ 4 hb), (y0 _ hb)⟩ (fun hHeld => ?_)
              clear hK K
              refine norm_ (a' := ?_) ?_ ?_
              rotate_left
              · show Act.put _ (some 40) _ = _
                simp only [Act.put, List.setIfInBounds_toArray, List.set_cons_zero, List.set_cons_succ, i64_w, i32_w]
                rfl
              refine pure_ (i := 6) (N := some 34) (v := ?_) (a' := ?_) #[true, true, true, true, true, true, true, false, false, true, false, false] rfl rfl (by kernel_rfl) (fun _ _ _ h => h) (Or.inl ⟨by rfl, ?_⟩) ?_ ?_
              rotate_left
              · intro w'
                go_simp
                with_reducible rfl
              rotate_left
              · simp only [Act.put, List.setIfInBounds_toArray, List.set_cons_zero, List.set_cons_succ, i64_w, i32_w]
                rfl
              refine pure_ (i := 7) (N := some 41) (v := ?_) (a' := ?_) #[true, true, true, true, true, true, true, true, false, true, false, false] rfl rfl (by kernel_rfl) (fun _ _ _ h => h) (Or.inl ⟨by rfl, ?_⟩) ?_ ?_
              rotate_left
              · intro w'
                go_simp
                with_reducible rfl
              rotate_left
              · simp only [Act.put, List.setIfInBounds_toArray, List.set_cons_zero, List.set_cons_succ, i64_w, i32_w]
                rfl
              refine pure_ (i := 8) (N := some 42) (v := ?_) (a' := ?_) #[true, true, true, true, true, true, true, true, true, true, false, false] rfl rfl (by kernel_rfl) (fun _ _ _ h => h) (Or.inl ⟨by rfl, ?_⟩) ?_ ?_
              rotate_left
              · intro w'
                go_simp
                with_reducible rfl
              rotate_left
              · simp only [Act.put, List.setIfInBounds_toArray, List.set_cons_zero, List.set_cons_succ, i64_w, i32_w]
                rfl
              exact norm_ (by simp only [putAll, Act.put, List.setIfInBounds_toArray, List.set_cons_zero, List.set_cons_succ]) (hCont wr.heap.size _ ⟨⟨(r1 _ 0 hb), (r1 _ 1 hb), (r1 _ 2 hb), (r1 _ 3 hb), (r1 _ 4 hb), (y0 _ hb)⟩, hb, blk_below (w := (wr.alloc (.cells #[.int .i64 0, .int .i64 0, .bool false, .string ⟨#[]⟩, .int .i64 0, .int .i64 0] 78)).drew) (blk_new wr (.cells #[.int .i64 0, .int .i64 0, .bool false, .string ⟨#[]⟩, .int .i64 0, .int .i64 0] 78)) hb0, Nat.le_refl _⟩)
          rintro b9 w5 ⟨hHeld, hb5, hK9, hb9⟩
          have r9 := blk_cells hK9
          have z9 := blk_frz hK9
          have B9 := bl_refl w5
          refine norm_ (a' := ?_) ?_ ?_
          rotate_left
          · simp only [putAll, Act.put, List.setIfInBounds_toArray, List.set_cons_zero, List.set_cons_succ]
            rfl
          refine last_ (i := 10) (N := none) #[true, true, true, true, true, true, true, true, true, true, true, false] rfl rfl (by kernel_rfl) (by decide) (fun K hK => ?_)
          refine skip_ (w1 := ?_) (by rfl) rfl ?_ ?_
          rotate_left
          · go_simp
            rfl
          refine hK.out _ _ ?_
          clear hK K
          refine pure_ (i := 11) (N := some 11) (v := ?_) (a' := ?_) #[true, true, true, true, true, true, true, true, true, true, true, true] rfl rfl (by kernel_rfl) (fun _ _ _ h => h) (Or.inl ⟨by rfl, ?_⟩) ?_ ?_
          rotate_left
          · intro w'
            go_simp
            with_reducible rfl
          rotate_left
          · simp only [Act.put, List.setIfInBounds_toArray, List.set_cons_zero, List.set_cons_succ, i64_w, i32_w]
            rfl
          refine done_ (by kernel_rfl) ?_
          have hKV := (blk_put (blk_put (blk_put (blk_put (blk_put (blk_put hK9 0 (.int .i64 x.id) rfl) 1 (.int .i64 x.seq) rfl) 2 (.bool x.busy) rfl) 3 (.string x.last) rfl) 4 (.int .i64 x.txn) rfl) 5 (.int .i64 x.conn) rfl)
          have hb := (bl_set (g := b9) (j := 5) (u := .int .i64 x.conn) (bl_set (g := b9) (j := 4) (u := .int .i64 x.txn) (bl_set (g := b9) (j := 3) (u := .string x.last) (bl_set (g := b9) (j := 2) (u := .bool x.busy) (bl_set (g := b9) (j := 1) (u := .int .i64 x.seq) (bl_set (g := b9) (j := 0) (u := .int .i64 x.id) hb5 hb9) hb9) hb9) hb9) hb9) hb9)
          generalize (World.setCell (World.setCell (World.setCell (World.setCell (World.setCell (World.setCell w5 ⟨b9, 0, none⟩ (.int .i64 x.id)) ⟨b9, 1, none⟩ (.int .i64 x.seq)) ⟨b9, 2, none⟩ (.bool x.busy)) ⟨b9, 3, none⟩ (.string x.last)) ⟨b9, 4, none⟩ (.int .i64 x.txn)) ⟨b9, 5, none⟩ (.int .i64 x.conn)) = V at hKV hb ⊢
          have rV := blk_cells hKV
          have BV := bl_refl V
          clear hKV hK9 r9 z9 B9 hb5
          have HB4 := Lib.hid (bl_alloc (.cells #[.int .i64 x.id, .int .i64 x.seq, .bool x.busy, .string x.last, .int .i64 x.txn, .int .i64 x.conn] 78) hb)
          have hK := blk_new V (.cells #[.int .i64 x.id, .int .i64 x.seq, .bool x.busy, .string x.last, .int .i64 x.txn, .int .i64 x.conn] 78)

          have HK4 := Lib.hid hK
          have B4 := bl_refl V
          have hsz := hb.size
          clear hb hK
          go_wp2_with ((with_reducible refine gate_dst (N := 47) rfl ?_); refine Stop.go ?_)
          have hBA := bl_trans HB.out HB4.out
          have hwW : W.heap.size ≤ wr.heap.size := by have h1 := blk_lt HKZ.out; have := HS.out; omega
          refine ⟨flat_app (f := Ses.cells) (w0 := wr) W.heap.size rfl (.tmp 44) (.tmp 46) 22 78 _ 56 rfl Try.underlying22 info78 rfl (by decide) (by omega) _ O [x] (some ⟨_, 0, none⟩) 1 1 rfl rfl (by omega) (Kd.R_below HO.out HB4.out) (C_one (f := Ses.cells) (t := 78) x HK4.out) (HB4.out.mono hwW) (Nat.le_trans hwW HB4.out.size) (by have := HLE.out; omega) ?_⟩
          intro g2 cap2 w5 hR5 hb5 hge5 hat5 hg5 hlt5
          have hown : ∀ b, (Value.slice B O.length d).ownBlock = some b → b < wr.heap.size := fun b hb => by
            obtain ⟨cg, hcg⟩ := Kd.R_typed HO.out b hb
            exact (Array.getElem?_eq_some_iff.1 hcg).1
          have hown2 : ∀ b, (Value.slice B O.length d).ownBlock = some b → W.heap.size ≤ b := fun b hb => Kd.R_base HO.out b hb
          have hstep : ∀ k, (Value.slice B O.length d).ownBlock ≠ some k → k < (V.alloc (.cells #[.int .i64 x.id, .int .i64 x.seq, .bool x.busy, .string x.last, .int .i64 x.txn, .int .i64 x.conn] 78)).heap.size → w5.heap[k]? = (V.alloc (.cells #[.int .i64 x.id, .int .i64 x.seq, .bool x.busy, .string x.last, .int .i64 x.txn, .int .i64 x.conn] 78)).heap[k]? := fun k hk hl => hg5.block k hl (fun e => hk e.symm)
          have hk5 : ∀ k, (Value.slice B O.length d).ownBlock ≠ some k → k < wr.heap.size → w5.heap[k]? = wr.heap[k]? := fun k hk hl => (hstep k hk (Nat.lt_of_lt_of_le hl HB4.out.size)).trans (HB4.out.block k hl)
          have hne5 : ∀ k, (Value.slice B O.length d).ownBlock ≠ some k → k < wr.heap.size → (Value.slice (some ⟨g2, 0, none⟩) (O ++ [x]).length cap2).ownBlock ≠ some k := fun k hk hl e => by
            have e' : g2 = k := by injection e
            rcases hat5 with h | h
            · exact hk (Eq.trans h (congrArg some e'))
            · have := HB4.out.size; omega
          have hs1 := HS.out
          have hwr := HB.out.size
          have HK5 := Lib.hid ((hk5 _ (fun e => by have := hown2 _ e; omega) (blk_lt HK.out)).trans HK.out)
          have HKZ5 := Lib.hid ((hk5 _ (fun e => by have := hown2 _ e; omega) (blk_lt HKZ.out)).trans HKZ.out)
          have HSS5 := Lib.hid ((HSS.out.cut.step (fun k hk _ => hk5 k hk.1.2 hk.2)).mono (fun k hk _ => ⟨hk.1.1, hne5 k hk.1.2 hk.2⟩) : IsSS (fun k => ((ok k ∧ k < w.heap.size) ∨ W.heap.size ≤ k) ∧ (Value.slice (some ⟨g2, 0, none⟩) (O ++ [x]).length cap2).ownBlock ≠ some k) w5 (.agg #[.int .i64 s'.epoch, .slice A5 s'.L.length c5, .slice A6 s'.H.length c6, .int .i64 s'.next, .int .u64 s'.now]) s')
          have HI5 := Lib.hid ((HI.out.cut.step (fun k hk _ => hk5 k hk.1.2 hk.2)).mono (fun k hk _ => ⟨hk.1.1, hne5 k hk.1.2 hk.2⟩) : Ft (fun k => W.heap.size ≤ k ∧ (Value.slice (some ⟨g2, 0, none⟩) (O ++ [x]).length cap2).ownBlock ≠ some k) w5 (fun W => Kd.C kI W (some adi) IDS.length IDS))
          have HR5 := Lib.hid hR5
          have HB5 := Lib.hid (HB.out.trans (hb5.mono (show w.heap.size ≤ W.heap.size by omega)))
          have HG5 := Lib.hid (show W.heap.size ≤ g2 ∧ g2 < w5.heap.size from ⟨hge5, hlt5⟩)
          have HWO := Lib.hid (less113 _ _ s' id w5 HSS5.out (by have := HLE.out.2; omega))
          have r5 := blk_cells HK5.out
          have z5 := blk_frz HK5.out
          have B5 := bl_refl w5
          obtain ⟨adj, hadj, j0⟩ := I_at HI5.out.self kk HLT.out
          injection hadj with hadj
          subst hadj
          rw [HID.out] at j0
          have y5 := cell_rule j0
          have HSW := Lib.hid (show W.heap.size ≤ w5.heap.size by have := hb5.size; have := hwW; omega)
          clear hR5 hb5 hge5 hat5 hg5 hlt5 hown hown2 hstep hk5 hne5 hs1 hwr hBA hwW r1 z1 y0 Br B4 HK4 hsz j0
          go_wp2
          refine start_ (n := 7) (S := fun w' => w'.cell? ⟨w.heap.size, 0, none⟩ = some (.int .i64 s'.epoch) ∧ w'.cell? ⟨w.heap.size, 1, none⟩ = some (.slice A5 s'.L.length c5) ∧ w'.cell? ⟨w.heap.size, 2, none⟩ = some (.slice A6 s'.H.length c6) ∧ w'.cell? ⟨w.heap.size, 3, none⟩ = some (.int .i64 s'.next) ∧ w'.cell? ⟨w.heap.size, 4, none⟩ = some (.int .u64 s'.now) ∧ w'.cell? (adi.add kk) = some (.int .i64 id)) (ds := [6]) #[false, false, false, false, false, false, false] (by kernel_rfl) rfl rfl ⟨(r5 _ 0 (bl_drew (bl_refl w5))), (r5 _ 1 (bl_drew (bl_refl w5))), (r5 _ 2 (bl_drew (bl_refl w5))), (r5 _ 3 (bl_drew (bl_refl w5))), (r5 _ 4 (bl_drew (bl_refl w5))), (y5 _ (bl_drew (bl_refl w5)))⟩ (fun hHeld => ?_)
          refine pure_ (i := 1) (N := some 49) (v := ?_) (a' := ?_) #[false, true, false, false, false, false, false] rfl rfl (by kernel_rfl) (fun _ _ _ h => h) (Or.inl ⟨by rfl, ?_⟩) ?_ ?_
          rotate_left
          · intro w'
            go_simp
            with_reducible rfl
          rotate_left
          · simp only [Act.put, List.setIfInBounds_toArray, List.set_cons_zero, List.set_cons_succ, i64_w, i32_w]
            rfl
          refine pure_ (i := 2) (N := some 50) (v := ?_) (a' := ?_) #[false, true, true, false, false, false, false] rfl rfl (by kernel_rfl) (fun _ _ _ h => h) (Or.inl ⟨by rfl, ?_⟩) ?_ ?_
          rotate_left
          · intro w'
            go_simp
            with_reducible rfl
          rotate_left
          · simp only [Act.put, List.setIfInBounds_toArray, List.set_cons_zero, List.set_cons_succ, i64_w, i32_w]
            rfl
          refine pure_ (i := 3) (N := some 51) (v := ?_) (a' := ?_) #[false, true, true, true, false, false, false] rfl rfl (by kernel_rfl) (fun _ _ _ h => h) (Or.inl ⟨by rfl, ?_⟩) ?_ ?_
          rotate_left
          · intro w'
            go_simp
            with_reducible rfl
          rotate_left
          · simp only [Act.put, List.setIfInBounds_toArray, List.set_cons_zero, List.set_cons_succ, i64_w, i32_w]
            rfl
          refine take_ (i := 0) (N := some 48) (v := ?_) (a' := ?_) #[true, true, true, true, false, false, false] rfl rfl (by kernel_rfl) (fun _ _ _ h => h) (Or.inl ⟨by rfl, ?_⟩) hHeld ?_ ?_
          rotate_left
          · rintro w' ⟨s0, s1, s2, s3, s4, s5⟩
            go_simp
            with_reducible rfl
          rotate_left
          · simp only [Act.put, List.setIfInBounds_toArray, List.set_cons_zero, List.set_cons_succ, i64_w, i32_w]
            rfl
          refine take_ (i := 4) (N := some 52) (v := ?_) (a' := ?_) #[true, true, true, true, true, false, false] rfl rfl (by kernel_rfl) (fun _ _ _ h => h) (Or.inl ⟨by rfl, ?_⟩) hHeld ?_ ?_
          rotate_left
          · rintro w' ⟨s0, s1, s2, s3, s4, s5⟩
            go_simp
            with_reducible rfl
          rotate_left
          · simp only [Act.put, List.setIfInBounds_toArray, List.set_cons_zero, List.set_cons_succ, i64_w, i32_w]
            rfl
          refine one_ (i := 5) (N := some 53) #[true, true, true, true, true, true, false] rfl rfl (by kernel_rfl) (by decide) (fun K hK => ?_)
          refine goes_ Try.func113 (by kernel_rfl) rfl #[.agg #[.int .i64 s'.epoch, .slice A5 s'.L.length c5, .slice A6 s'.H.length c6, .int .i64 s'.next, .int .u64 s'.now], .int .i64 id] (by rfl) rfl rfl (by simp only [List.map_toArray, List.map_cons, List.map_nil]; rfl) ?_
          with_reducible refine (less113 _ _ s' id _ (HSS5.out.below (bl_drew (bl_refl w5))) (by have := HLE.out.2; omega)).mono ?_
          rintro e w6 ⟨v6, rfl, hS6, hb6⟩
          refine ⟨_, rfl, ?_⟩
          have HS6 := Lib.hid hS6
          have HB6 : Hid (Below w5.heap.size w5 w6) := Lib.hid (bl_trans (bl_drew (bl_refl w5)) hb6)
          obtain ⟨A7, c7, A8, c8, rfl, _, _, _, _⟩ := hS6
          have B6 : Below w5.heap.size w5 w6 := HB6.out
          clear hb6 HWO
          refine hK.out _ _ ⟨(r5 _ 0 B6), (r5 _ 1 B6), (r5 _ 2 B6), (r5 _ 3 B6), (r5 _ 4 B6), (y5 _ B6)⟩ (fun hHeld => ?_)
          clear hK K
          refine norm_ (a' := ?_) ?_ ?_
          rotate_left
          · show Act.put _ (some 53) _ = _
            simp only [Act.put, List.setIfInBounds_toArray, List.set_cons_zero, List.set_cons_succ, i64_w, i32_w]
            rfl
          refine last_ (i := 6) (N := none) #[true, true, true, true, true, true, true] rfl rfl (by kernel_rfl) (by decide) (fun K hK => ?_)
          refine skip_ (w1 := ?_) (by rfl) rfl ?_ ?_
          rotate_left
          · go_simp
            rfl
          refine hK.out _ _ ?_
          clear hK K
          refine done_ (by kernel_rfl) ?_
          have hs1 := HS.out
          have hsw := HSW.out
          have HK6 := Lib.hid (store26 (blk_below HK5.out B6) (.int .i64 (s'.but id).epoch) (.slice A7 (s'.but id).L.length c7) (.slice A8 (s'.but id).H.length c8) (.int .i64 (s'.but id).next) (.int .u64 (s'.but id).now))
          clear hs1 hsw
          go_wp2
          go_roundg (IDS.length - (kk + 1))
          case measure => have := HLT.out; omega
          case rel =>
            have hs1 := HS.out
            have hsw := HSW.out
            refine ⟨kk + 1, s'.but id, O ++ [x], A7, c7, A8, c8, some ⟨g2, 0, none⟩, cap2, by have := HLT.out; omega, by have := HLT.out; omega, by simp, by go_num, HK6.out, far26 (blk_below HKZ5.out HB6.out) (by omega) _ _ _ _ _, ?_, ?_, ?_, ?_, ⟨by have := HLE.out.1; simp; omega, Nat.le_trans (SS.but_len s' id) HLE.out.2⟩, ?_⟩
            · refine IsSS.mono (ok := fun k => ((((ok k ∧ k < w.heap.size) ∨ W.heap.size ≤ k) ∧ (Value.slice (some ⟨g2, 0, none⟩) (O ++ [x]).length cap2).ownBlock ≠ some k) ∧ k < w5.heap.size) ∨ w5.heap.size ≤ k) ?_ (fun k hk _ => ?_)
              · iterate 5 refine IsSS.set ?_ (fun h => by rcases h with ⟨⟨h | h, _⟩, _⟩ | h <;> omega)
                exact HS6.out
              · rcases hk with hk | hk
                · exact hk.1
                · exact ⟨.inr (by omega), fun e => by have e' : g2 = k := (by injection e); have := HG5.out.2; omega⟩
            · show Ft _ _ _
              iterate 5 refine Ft.set ?_ (fun h => by have := h.1; omega)
              exact HI5.out.below HB6.out
            · show Kd.R kSes 78 _ W.heap.size (fun _ => True) (.slice (some ⟨g2, 0, none⟩) (O ++ [x]).length cap2) (O ++ [x])
              iterate 5 refine R_farB ?_ (by omega) _ _
              rw [List.length_append]
              exact Kd.R_below HR5.out HB6.out
            · show (IDS.take (kk + 1)).foldl SS.tk _ = _
              rw [HFK.out, HID.out, HFO.out, HTK.out]
            · show Below w.heap.size w _
              iterate 5 refine bl_set ?_ (Nat.le_refl _)
              exact bl_trans HB5.out HB6.out
      · have hltz : ¬ (kk : Int) < (IDS.length : Int) := by omega
        have hs1 := HS.out
        have he : kk = IDS.length := by omega
        have hfo := HFO.out
        rw [he, List.take_length] at hfo
        have HTT := Lib.hid (HT.out.trans hfo)
        have r2 := blk_cells HKZ.out
        have z2 := blk_frz HKZ.out
        clear hs1 he hfo
        go_wp2
        have hs1 := HS.out
        rw [HTT.out]
        refine bodyPost_ret (v := .tuple #[.agg #[.int .i64 s'.epoch, .slice A5 s'.L.length c5, .slice A6 s'.H.length c6, .int .i64 s'.next, .int .u64 s'.now], .slice B O.length d]) (by simp [results, Try.results47, go_sem, r2, z2, Br]) rfl ⟨_, _, _, rfl, ?_, ?_, ?_⟩
        · refine IsSS.mono (ok := fun k => ((ok k ∧ k < w.heap.size) ∨ W.heap.size ≤ k) ∧ k ≠ w.heap.size + 1) ?_ (fun k hk _ => hk.1.imp_right (fun h => by omega))
          iterate 5 refine IsSS.set ?_ (fun h => h.2 rfl)
          exact HSS.out.mono (fun k hk _ => ⟨hk.1, fun e => by rcases hk.1 with h | h <;> omega⟩)
        · refine Kd.R_lower (show Kd.R kSes 78 _ W.heap.size (fun _ => True) _ _ from ?_) (by omega)
          iterate 5 refine R_farB ?_ (by omega) _ _
          exact HO.out
        · iterate 5 refine bl_set ?_ (by omega)
          exact HB.out
end Go.Proofs.Ytkcebmamohimoaa
