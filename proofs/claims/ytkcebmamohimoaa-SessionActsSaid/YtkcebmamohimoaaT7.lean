/- The law SessionActs, walked. -/
import Derived.Test.YtkcebmamohimoaaS11
import Derived.Test.YtkcebmamohimoaaS18
import Derived.Test.YtkcebmamohimoaaR2
import Derived.Test.YtkcebmamohimoaaE1
namespace Go.Proofs.Ytkcebmamohimoaa
open Go.RowKit Go.Proofs.YtkcebmamohimoaaW.PrintWords Go.Proofs.YtkcebmamohimoaaW.PrintLast
set_option linter.unusedVariables false
set_option linter.unusedSimpArgs false
attribute [local go_sem] bl_refl bl_alloc bl_drew bl_drewN
attribute [local go_sem high] eqA78
theorem cells68 : Try.prog.cellsOf 68 = 14 := by kernel_rfl
theorem rd68 {H : Type} {enc : TypeId × Value → H} {w : World} {cs : List Value} (h : Rd enc w 68 cs) : ∃ (s o : SS) (A1 : Option Addr) (c1 : Nat) (A2 : Option Addr) (c2 : Nat) (A3 : Option Addr) (c3 : Nat) (A4 : Option Addr) (c4 : Nat) (id conn now ep : Int), cs = [.int .i64 s.epoch, .slice A1 s.L.length c1, .slice A2 s.H.length c2, .int .i64 s.next, .int .u64 s.now, .int .i64 id, .int .i64 conn, .int .u64 now, .int .i64 ep, .int .i64 o.epoch, .slice A3 o.L.length c3, .slice A4 o.H.length c4, .int .i64 o.next, .int .u64 o.now] ∧ InSS w [.int .i64 s.epoch, .slice A1 s.L.length c1, .slice A2 s.H.length c2, .int .i64 s.next, .int .u64 s.now] s ∧ InSS w [.int .i64 o.epoch, .slice A3 o.L.length c3, .slice A4 o.H.length c4, .int .i64 o.next, .int .u64 o.now] o := by
  have hl := Rd.len Try.underlying68 h
  rw [cells68] at hl
  match cs, hl with
  | [c0, c1, c2, c3, c4, c5, c6, c7, c8, c9, c10, c11, c12, c13], _ =>
    obtain ⟨ep, A1, k1, L, A2, k2, M, nx, nw, e0, hin⟩ := rd26 (Rd.fld Try.underlying68 h 0 _ rfl [c0, c1, c2, c3, c4] (by simp [cells26]))
    obtain ⟨n1, e1, w1⟩ := Rd.int Try.underlying3 (Rd.fld Try.underlying68 h 1 _ rfl [c5] (by simp [cells3]))
    simp only [List.cons.injEq, and_true] at e1
    subst e1
    obtain ⟨n2, e2, w2⟩ := Rd.int Try.underlying3 (Rd.fld Try.underlying68 h 2 _ rfl [c6] (by simp [cells3]))
    simp only [List.cons.injEq, and_true] at e2
    subst e2
    obtain ⟨n3, e3, w3⟩ := Rd.int Try.underlying24 (Rd.fld Try.underlying68 h 3 _ rfl [c7] (by simp [cells24]))
    simp only [List.cons.injEq, and_true] at e3
    subst e3
    obtain ⟨n4, e4, w4⟩ := Rd.int Try.underlying3 (Rd.fld Try.underlying68 h 4 _ rfl [c8] (by simp [cells3]))
    simp only [List.cons.injEq, and_true] at e4
    subst e4
    obtain ⟨ep_, A1_, k1_, L_, A2_, k2_, M_, nx_, nw_, e5, hin_⟩ := rd26 (Rd.fld Try.underlying68 h 5 _ rfl [c9, c10, c11, c12, c13] (by simp [cells26]))
    rw [e0] at hin
    rw [e5] at hin_
    simp only [List.cons.injEq, and_true] at e0 e5
    obtain ⟨rfl, rfl, rfl, rfl, rfl⟩ := e0
    obtain ⟨rfl, rfl, rfl, rfl, rfl⟩ := e5
    exact ⟨⟨ep, L, M, nx, nw⟩, ⟨ep_, L_, M_, nx_, nw_⟩, A1, k1, A2, k2, A1_, k1_, A2_, k2_, n1, n2, n3, n4, rfl, hin, hin_⟩
theorem fx_ex (p : Ses → Bool) (L : List Ses) : ∃ x b, (fidx p L < 0 ∧ b = false ∧ x = default) ∨ (0 ≤ fidx p L ∧ b = true ∧ x = L[(fidx p L).toNat]!) := by
  by_cases h : fidx p L < 0
  · exact ⟨_, _, .inl ⟨h, rfl, rfl⟩⟩
  · exact ⟨_, _, .inr ⟨by omega, rfl, rfl⟩⟩
theorem eqv_ex (s o : SS) : ∃ b : Bool, b = true ↔ s.eqv o := by
  by_cases h : s.eqv o
  · exact ⟨true, by simp [h]⟩
  · exact ⟨false, by simp [h]⟩
set_option maxHeartbeats 40000000 in
set_option maxRecDepth 100000 in
theorem acts7 (s o : SS) (A1 A2 A3 A4 : Option Addr) (c1 c2 c3 c4 : Nat) (id conn now ep : Int) (w : World) (h : InSS w #[.int .i64 s.epoch, .slice A1 s.L.length c1, .slice A2 s.H.length c2, .int .i64 s.next, .int .u64 s.now].toList s) (h' : InSS w #[.int .i64 o.epoch, .slice A3 o.L.length c3, .slice A4 o.H.length c4, .int .i64 o.next, .int .u64 o.now].toList o) :
    Calls Try.prog 7 #[.agg #[.int .i64 s.epoch, .slice A1 s.L.length c1, .slice A2 s.H.length c2, .int .i64 s.next, .int .u64 s.now, .int .i64 id, .int .i64 conn, .int .u64 now, .int .i64 ep, .int .i64 o.epoch, .slice A3 o.L.length c3, .slice A4 o.H.length c4, .int .i64 o.next, .int .u64 o.now]] w fun e w' => e = .returned (.bool true) ∧ Below w.heap.size w w' := by
  obtain ⟨hS, hn, _, _⟩ := h
  obtain ⟨hO, _, _, _⟩ := h'
  obtain ⟨W, hW, K1, K2, K3, HW, hs⟩ := boxes3 w #[.int .i64 s.epoch, .slice A1 s.L.length c1, .slice A2 s.H.length c2, .int .i64 s.next, .int .u64 s.now, .int .i64 id, .int .i64 conn, .int .u64 now, .int .i64 ep, .int .i64 o.epoch, .slice A3 o.L.length c3, .slice A4 o.H.length c4, .int .i64 o.next, .int .u64 o.now] 68 #[.int .i64 s.epoch, .slice A1 s.L.length c1, .slice A2 s.H.length c2, .int .i64 s.next, .int .u64 s.now] 26 #[.int .i64 o.epoch, .slice A3 o.L.length c3, .slice A4 o.H.length c4, .int .i64 o.next, .int .u64 o.now] 26
  have HS0 := Lib.hid (hS.below HW)
  have HO0 := Lib.hid (hO.below HW)
  have r1 := blk_cells K1
  have k2_0 := Lib.hid K2
  have k3_0 := Lib.hid K3
  have HB0 := Lib.hid HW
  have B0 : Below W.heap.size W W := bl_refl W
  have HN := Lib.hid hn
  have HSZ := Lib.hid hs
  clear HW K1 K2 K3 hS hn hO hs
  go_enter Try.func7, Try.ntmps7
  go_wp2_with fail
  clear hW
  refine (shown17 W).mono ?_
  rintro e w1 ⟨rfl, hb⟩
  have k2_1 := Lib.hid (blk_below k2_0.out hb)
  have k3_1 := Lib.hid (blk_below k3_0.out hb)
  have HS1 := Lib.hid (HS0.out.below hb)
  have HO1 := Lib.hid (HO0.out.below hb)
  have HB1 := Lib.hid (HB0.out.trans (Below.mono hb HB0.out.size))
  clear k2_0 k3_0 HS0 HO0 HB0
  clear hb r1 B0
  have rk2 := blk_cells k2_1.out
  have rk3 := blk_cells k3_1.out
  have Bc := bl_refl w1
  go_wp2_with fail
  clear rk2 rk3 Bc
  by_cases hf : s.L.length ≤ 100 ∧ s.H.length ≤ 100
  rotate_left
  · refine (few18 _ _ s w1 HS1.out false (by rcases Decidable.not_and_iff_or_not.1 hf with h | h <;> simp [h])).mono ?_
    rintro e w2 ⟨rfl, hb⟩
    have HBf := Lib.hid (HB1.out.trans (Below.mono hb HB1.out.size))
    clear hb hf
    go_wp2
    go_ret
    exact ⟨rfl, HBf.out⟩
  have HF := Lib.hid hf
  refine (few18 _ _ s w1 HS1.out true (by simp [hf])).mono ?_
  rintro e w2 ⟨rfl, hb⟩
  clear hf
  have k2_2 := Lib.hid (blk_below k2_1.out hb)
  have k3_2 := Lib.hid (blk_below k3_1.out hb)
  have HS2 := Lib.hid (HS1.out.below hb)
  have HO2 := Lib.hid (HO1.out.below hb)
  have HB2 := Lib.hid (HB1.out.trans (Below.mono hb HB1.out.size))
  clear k2_1 k3_1 HS1 HO1 HB1
  clear hb
  have rk2 := blk_cells k2_2.out
  have rk3 := blk_cells k3_2.out
  have Bc := bl_refl w2
  go_wp2_with fail
  clear rk2 rk3 Bc
  obtain ⟨so, io, eo, ha⟩ : ∃ so io eo, s.openF conn = (so, io, eo) := ⟨_, _, _, rfl⟩
  have Ha := Lib.hid ha
  clear ha
  have hc := open40 _ _ s conn w2 HS2.out HN.out (by have := HF.out; omega) (by have := HF.out; omega)
  rw [Ha.out] at hc
  refine hc.mono ?_
  rintro e w3 ⟨v, rfl, hS, hb⟩
  clear hc
  have k2_3 := Lib.hid (blk_below k2_2.out hb)
  have k3_3 := Lib.hid (blk_below k3_2.out hb)
  have HS3 := Lib.hid (HS2.out.below hb)
  have HO3 := Lib.hid (HO2.out.below hb)
  have HB3 := Lib.hid (HB2.out.trans (Below.mono hb HB2.out.size))
  clear k2_2 k3_2 HS2 HO2 HB2
  have Ta0g3 := Lib.hid (hS.mono (fun _ _ _ => trivial) : IsSS (fun _ => True) w3 v so)
  obtain ⟨Aa0, ca0, Da0, da0, rfl, _, _, _, _⟩ := hS
  clear hb
  have rk2 := blk_cells k2_3.out
  have rk3 := blk_cells k3_3.out
  have Bc := bl_refl w3
  go_wp2_with fail
  clear rk2 rk3 Bc
  have hnew := blk_new w3 (.cells #[.int .i64 so.epoch, .slice Aa0 so.L.length ca0, .slice Da0 so.H.length da0, .int .i64 so.next, .int .u64 so.now] 26)
  have k2_4 := Lib.hid (blk_below k2_3.out (bl_alloc (.cells #[.int .i64 so.epoch, .slice Aa0 so.L.length ca0, .slice Da0 so.H.length da0, .int .i64 so.next, .int .u64 so.now] 26) (bl_refl w3)))
  have k3_4 := Lib.hid (blk_below k3_3.out (bl_alloc (.cells #[.int .i64 so.epoch, .slice Aa0 so.L.length ca0, .slice Da0 so.H.length da0, .int .i64 so.next, .int .u64 so.now] 26) (bl_refl w3)))
  have HS4 := Lib.hid (HS3.out.below (bl_alloc (.cells #[.int .i64 so.epoch, .slice Aa0 so.L.length ca0, .slice Da0 so.H.length da0, .int .i64 so.next, .int .u64 so.now] 26) (bl_refl w3)))
  have HO4 := Lib.hid (HO3.out.below (bl_alloc (.cells #[.int .i64 so.epoch, .slice Aa0 so.L.length ca0, .slice Da0 so.H.length da0, .int .i64 so.next, .int .u64 so.now] 26) (bl_refl w3)))
  have Ta0g4 := Lib.hid (Ta0g3.out.below (bl_alloc (.cells #[.int .i64 so.epoch, .slice Aa0 so.L.length ca0, .slice Da0 so.H.length da0, .int .i64 so.next, .int .u64 so.now] 26) (bl_refl w3)))
  have HB4 := Lib.hid (HB3.out.trans (Below.mono (bl_alloc (.cells #[.int .i64 so.epoch, .slice Aa0 so.L.length ca0, .slice Da0 so.H.length da0, .int .i64 so.next, .int .u64 so.now] 26) (bl_refl w3)) HB3.out.size))
  clear k2_3 k3_3 HS3 HO3 Ta0g3 HB3
  have qa0_4 := Lib.hid hnew
  clear hnew
  generalize w3.alloc (.cells #[.int .i64 so.epoch, .slice Aa0 so.L.length ca0, .slice Da0 so.H.length da0, .int .i64 so.next, .int .u64 so.now] 26) = V3 at k2_4 k3_4 qa0_4 HS4 HO4 Ta0g4 HB4 ⊢
  obtain ⟨bqa0, hbb⟩ : ∃ b, w3.heap.size = b := ⟨_, rfl⟩
  rw [hbb] at qa0_4 ⊢
  clear hbb
  have hc := open41 _ _ s conn V3 HS4.out HN.out (by have := HF.out; omega) (by have := HF.out; omega)
  rw [Ha.out] at hc
  refine hc.mono ?_
  rintro e w4 ⟨v, rfl, hS, hb⟩
  clear hc
  have k2_5 := Lib.hid (blk_below k2_4.out hb)
  have k3_5 := Lib.hid (blk_below k3_4.out hb)
  have qa0_5 := Lib.hid (blk_below qa0_4.out hb)
  have HS5 := Lib.hid (HS4.out.below hb)
  have HO5 := Lib.hid (HO4.out.below hb)
  have Ta0g5 := Lib.hid (Ta0g4.out.below hb)
  have HB5 := Lib.hid (HB4.out.trans (Below.mono hb HB4.out.size))
  clear k2_4 k3_4 qa0_4 HS4 HO4 Ta0g4 HB4
  have Ta1g5 := Lib.hid (hS.mono (fun _ _ _ => trivial) : IsSS (fun _ => True) w4 v so)
  obtain ⟨Aa1, ca1, Da1, da1, rfl, _, _, _, _⟩ := hS
  clear hb
  have rk2 := blk_cells k2_5.out
  have rk3 := blk_cells k3_5.out
  have Bc := bl_refl w4
  go_wp2_with fail
  clear rk2 rk3 Bc
  have hnew := blk_new w4 (.cells #[.int .i64 so.epoch, .slice Aa1 so.L.length ca1, .slice Da1 so.H.length da1, .int .i64 so.next, .int .u64 so.now] 26)
  have k2_6 := Lib.hid (blk_below k2_5.out (bl_alloc (.cells #[.int .i64 so.epoch, .slice Aa1 so.L.length ca1, .slice Da1 so.H.length da1, .int .i64 so.next, .int .u64 so.now] 26) (bl_refl w4)))
  have k3_6 := Lib.hid (blk_below k3_5.out (bl_alloc (.cells #[.int .i64 so.epoch, .slice Aa1 so.L.length ca1, .slice Da1 so.H.length da1, .int .i64 so.next, .int .u64 so.now] 26) (bl_refl w4)))
  have qa0_6 := Lib.hid (blk_below qa0_5.out (bl_alloc (.cells #[.int .i64 so.epoch, .slice Aa1 so.L.length ca1, .slice Da1 so.H.length da1, .int .i64 so.next, .int .u64 so.now] 26) (bl_refl w4)))
  have HS6 := Lib.hid (HS5.out.below (bl_alloc (.cells #[.int .i64 so.epoch, .slice Aa1 so.L.length ca1, .slice Da1 so.H.length da1, .int .i64 so.next, .int .u64 so.now] 26) (bl_refl w4)))
  have HO6 := Lib.hid (HO5.out.below (bl_alloc (.cells #[.int .i64 so.epoch, .slice Aa1 so.L.length ca1, .slice Da1 so.H.length da1, .int .i64 so.next, .int .u64 so.now] 26) (bl_refl w4)))
  have Ta0g6 := Lib.hid (Ta0g5.out.below (bl_alloc (.cells #[.int .i64 so.epoch, .slice Aa1 so.L.length ca1, .slice Da1 so.H.length da1, .int .i64 so.next, .int .u64 so.now] 26) (bl_refl w4)))
  have Ta1g6 := Lib.hid (Ta1g5.out.below (bl_alloc (.cells #[.int .i64 so.epoch, .slice Aa1 so.L.length ca1, .slice Da1 so.H.length da1, .int .i64 so.next, .int .u64 so.now] 26) (bl_refl w4)))
  have HB6 := Lib.hid (HB5.out.trans (Below.mono (bl_alloc (.cells #[.int .i64 so.epoch, .slice Aa1 so.L.length ca1, .slice Da1 so.H.length da1, .int .i64 so.next, .int .u64 so.now] 26) (bl_refl w4)) HB5.out.size))
  clear k2_5 k3_5 qa0_5 HS5 HO5 Ta0g5 Ta1g5 HB5
  have qa1_6 := Lib.hid hnew
  clear hnew
  generalize w4.alloc (.cells #[.int .i64 so.epoch, .slice Aa1 so.L.length ca1, .slice Da1 so.H.length da1, .int .i64 so.next, .int .u64 so.now] 26) = V4 at k2_6 k3_6 qa0_6 qa1_6 HS6 HO6 Ta0g6 Ta1g6 HB6 ⊢
  obtain ⟨bqa1, hbb⟩ : ∃ b, w4.heap.size = b := ⟨_, rfl⟩
  rw [hbb] at qa1_6 ⊢
  clear hbb
  obtain ⟨sr, er, hc⟩ : ∃ sr er, s.renewF id = (sr, er) := ⟨_, _, rfl⟩
  have Hc := Lib.hid hc
  clear hc
  have hc := renew42 _ _ s id V4 HS6.out HN.out (by have := HF.out; omega)
  rw [Hc.out] at hc
  refine hc.mono ?_
  rintro e w5 ⟨v, rfl, hS, hb⟩
  clear hc
  have k2_7 := Lib.hid (blk_below k2_6.out hb)
  have k3_7 := Lib.hid (blk_below k3_6.out hb)
  have qa0_7 := Lib.hid (blk_below qa0_6.out hb)
  have qa1_7 := Lib.hid (blk_below qa1_6.out hb)
  have HS7 := Lib.hid (HS6.out.below hb)
  have HO7 := Lib.hid (HO6.out.below hb)
  have Ta0g7 := Lib.hid (Ta0g6.out.below hb)
  have Ta1g7 := Lib.hid (Ta1g6.out.below hb)
  have HB7 := Lib.hid (HB6.out.trans (Below.mono hb HB6.out.size))
  clear k2_6 k3_6 qa0_6 qa1_6 HS6 HO6 Ta0g6 Ta1g6 HB6
  have Tc0g7 := Lib.hid (hS.mono (fun _ _ _ => trivial) : IsSS (fun _ => True) w5 v sr)
  obtain ⟨Ac0, cc0, Dc0, dc0, rfl, _, _, _, _⟩ := hS
  clear hb
  have rk2 := blk_cells k2_7.out
  have rk3 := blk_cells k3_7.out
  have Bc := bl_refl w5
  go_wp2_with fail
  clear rk2 rk3 Bc
  have hnew := blk_new w5 (.cells #[.int .i64 sr.epoch, .slice Ac0 sr.L.length cc0, .slice Dc0 sr.H.length dc0, .int .i64 sr.next, .int .u64 sr.now] 26)
  have k2_8 := Lib.hid (blk_below k2_7.out (bl_alloc (.cells #[.int .i64 sr.epoch, .slice Ac0 sr.L.length cc0, .slice Dc0 sr.H.length dc0, .int .i64 sr.next, .int .u64 sr.now] 26) (bl_refl w5)))
  have k3_8 := Lib.hid (blk_below k3_7.out (bl_alloc (.cells #[.int .i64 sr.epoch, .slice Ac0 sr.L.length cc0, .slice Dc0 sr.H.length dc0, .int .i64 sr.next, .int .u64 sr.now] 26) (bl_refl w5)))
  have qa0_8 := Lib.hid (blk_below qa0_7.out (bl_alloc (.cells #[.int .i64 sr.epoch, .slice Ac0 sr.L.length cc0, .slice Dc0 sr.H.length dc0, .int .i64 sr.next, .int .u64 sr.now] 26) (bl_refl w5)))
  have qa1_8 := Lib.hid (blk_below qa1_7.out (bl_alloc (.cells #[.int .i64 sr.epoch, .slice Ac0 sr.L.length cc0, .slice Dc0 sr.H.length dc0, .int .i64 sr.next, .int .u64 sr.now] 26) (bl_refl w5)))
  have HS8 := Lib.hid (HS7.out.below (bl_alloc (.cells #[.int .i64 sr.epoch, .slice Ac0 sr.L.length cc0, .slice Dc0 sr.H.length dc0, .int .i64 sr.next, .int .u64 sr.now] 26) (bl_refl w5)))
  have HO8 := Lib.hid (HO7.out.below (bl_alloc (.cells #[.int .i64 sr.epoch, .slice Ac0 sr.L.length cc0, .slice Dc0 sr.H.length dc0, .int .i64 sr.next, .int .u64 sr.now] 26) (bl_refl w5)))
  have Ta0g8 := Lib.hid (Ta0g7.out.below (bl_alloc (.cells #[.int .i64 sr.epoch, .slice Ac0 sr.L.length cc0, .slice Dc0 sr.H.length dc0, .int .i64 sr.next, .int .u64 sr.now] 26) (bl_refl w5)))
  have Ta1g8 := Lib.hid (Ta1g7.out.below (bl_alloc (.cells #[.int .i64 sr.epoch, .slice Ac0 sr.L.length cc0, .slice Dc0 sr.H.length dc0, .int .i64 sr.next, .int .u64 sr.now] 26) (bl_refl w5)))
  have Tc0g8 := Lib.hid (Tc0g7.out.below (bl_alloc (.cells #[.int .i64 sr.epoch, .slice Ac0 sr.L.length cc0, .slice Dc0 sr.H.length dc0, .int .i64 sr.next, .int .u64 sr.now] 26) (bl_refl w5)))
  have HB8 := Lib.hid (HB7.out.trans (Below.mono (bl_alloc (.cells #[.int .i64 sr.epoch, .slice Ac0 sr.L.length cc0, .slice Dc0 sr.H.length dc0, .int .i64 sr.next, .int .u64 sr.now] 26) (bl_refl w5)) HB7.out.size))
  clear k2_7 k3_7 qa0_7 qa1_7 HS7 HO7 Ta0g7 Ta1g7 Tc0g7 HB7
  have qc0_8 := Lib.hid hnew
  clear hnew
  generalize w5.alloc (.cells #[.int .i64 sr.epoch, .slice Ac0 sr.L.length cc0, .slice Dc0 sr.H.length dc0, .int .i64 sr.next, .int .u64 sr.now] 26) = V5 at k2_8 k3_8 qa0_8 qa1_8 qc0_8 HS8 HO8 Ta0g8 Ta1g8 Tc0g8 HB8 ⊢
  obtain ⟨bqc0, hbb⟩ : ∃ b, w5.heap.size = b := ⟨_, rfl⟩
  rw [hbb] at qc0_8 ⊢
  clear hbb
  have hc := renew43 _ _ s id V5 HS8.out HN.out (by have := HF.out; omega)
  rw [Hc.out] at hc
  refine hc.mono ?_
  rintro e w6 ⟨v, rfl, hS, hb⟩
  clear hc
  have k2_9 := Lib.hid (blk_below k2_8.out hb)
  have k3_9 := Lib.hid (blk_below k3_8.out hb)
  have qa0_9 := Lib.hid (blk_below qa0_8.out hb)
  have qa1_9 := Lib.hid (blk_below qa1_8.out hb)
  have qc0_9 := Lib.hid (blk_below qc0_8.out hb)
  have HS9 := Lib.hid (HS8.out.below hb)
  have HO9 := Lib.hid (HO8.out.below hb)
  have Ta0g9 := Lib.hid (Ta0g8.out.below hb)
  have Ta1g9 := Lib.hid (Ta1g8.out.below hb)
  have Tc0g9 := Lib.hid (Tc0g8.out.below hb)
  have HB9 := Lib.hid (HB8.out.trans (Below.mono hb HB8.out.size))
  clear k2_8 k3_8 qa0_8 qa1_8 qc0_8 HS8 HO8 Ta0g8 Ta1g8 Tc0g8 HB8
  have Tc1g9 := Lib.hid (hS.mono (fun _ _ _ => trivial) : IsSS (fun _ => True) w6 v sr)
  obtain ⟨Ac1, cc1, Dc1, dc1, rfl, _, _, _, _⟩ := hS
  clear hb
  have rk2 := blk_cells k2_9.out
  have rk3 := blk_cells k3_9.out
  have Bc := bl_refl w6
  go_wp2_with fail
  clear rk2 rk3 Bc
  have hnew := blk_new w6 (.cells #[.int .i64 sr.epoch, .slice Ac1 sr.L.length cc1, .slice Dc1 sr.H.length dc1, .int .i64 sr.next, .int .u64 sr.now] 26)
  have k2_10 := Lib.hid (blk_below k2_9.out (bl_alloc (.cells #[.int .i64 sr.epoch, .slice Ac1 sr.L.length cc1, .slice Dc1 sr.H.length dc1, .int .i64 sr.next, .int .u64 sr.now] 26) (bl_refl w6)))
  have k3_10 := Lib.hid (blk_below k3_9.out (bl_alloc (.cells #[.int .i64 sr.epoch, .slice Ac1 sr.L.length cc1, .slice Dc1 sr.H.length dc1, .int .i64 sr.next, .int .u64 sr.now] 26) (bl_refl w6)))
  have qa0_10 := Lib.hid (blk_below qa0_9.out (bl_alloc (.cells #[.int .i64 sr.epoch, .slice Ac1 sr.L.length cc1, .slice Dc1 sr.H.length dc1, .int .i64 sr.next, .int .u64 sr.now] 26) (bl_refl w6)))
  have qa1_10 := Lib.hid (blk_below qa1_9.out (bl_alloc (.cells #[.int .i64 sr.epoch, .slice Ac1 sr.L.length cc1, .slice Dc1 sr.H.length dc1, .int .i64 sr.next, .int .u64 sr.now] 26) (bl_refl w6)))
  have qc0_10 := Lib.hid (blk_below qc0_9.out (bl_alloc (.cells #[.int .i64 sr.epoch, .slice Ac1 sr.L.length cc1, .slice Dc1 sr.H.length dc1, .int .i64 sr.next, .int .u64 sr.now] 26) (bl_refl w6)))
  have HS10 := Lib.hid (HS9.out.below (bl_alloc (.cells #[.int .i64 sr.epoch, .slice Ac1 sr.L.length cc1, .slice Dc1 sr.H.length dc1, .int .i64 sr.next, .int .u64 sr.now] 26) (bl_refl w6)))
  have HO10 := Lib.hid (HO9.out.below (bl_alloc (.cells #[.int .i64 sr.epoch, .slice Ac1 sr.L.length cc1, .slice Dc1 sr.H.length dc1, .int .i64 sr.next, .int .u64 sr.now] 26) (bl_refl w6)))
  have Ta0g10 := Lib.hid (Ta0g9.out.below (bl_alloc (.cells #[.int .i64 sr.epoch, .slice Ac1 sr.L.length cc1, .slice Dc1 sr.H.length dc1, .int .i64 sr.next, .int .u64 sr.now] 26) (bl_refl w6)))
  have Ta1g10 := Lib.hid (Ta1g9.out.below (bl_alloc (.cells #[.int .i64 sr.epoch, .slice Ac1 sr.L.length cc1, .slice Dc1 sr.H.length dc1, .int .i64 sr.next, .int .u64 sr.now] 26) (bl_refl w6)))
  have Tc0g10 := Lib.hid (Tc0g9.out.below (bl_alloc (.cells #[.int .i64 sr.epoch, .slice Ac1 sr.L.length cc1, .slice Dc1 sr.H.length dc1, .int .i64 sr.next, .int .u64 sr.now] 26) (bl_refl w6)))
  have Tc1g10 := Lib.hid (Tc1g9.out.below (bl_alloc (.cells #[.int .i64 sr.epoch, .slice Ac1 sr.L.length cc1, .slice Dc1 sr.H.length dc1, .int .i64 sr.next, .int .u64 sr.now] 26) (bl_refl w6)))
  have HB10 := Lib.hid (HB9.out.trans (Below.mono (bl_alloc (.cells #[.int .i64 sr.epoch, .slice Ac1 sr.L.length cc1, .slice Dc1 sr.H.length dc1, .int .i64 sr.next, .int .u64 sr.now] 26) (bl_refl w6)) HB9.out.size))
  clear k2_9 k3_9 qa0_9 qa1_9 qc0_9 HS9 HO9 Ta0g9 Ta1g9 Tc0g9 Tc1g9 HB9
  have qc1_10 := Lib.hid hnew
  clear hnew
  generalize w6.alloc (.cells #[.int .i64 sr.epoch, .slice Ac1 sr.L.length cc1, .slice Dc1 sr.H.length dc1, .int .i64 sr.next, .int .u64 sr.now] 26) = V6 at k2_10 k3_10 qa0_10 qa1_10 qc0_10 qc1_10 HS10 HO10 Ta0g10 Ta1g10 Tc0g10 Tc1g10 HB10 ⊢
  obtain ⟨bqc1, hbb⟩ : ∃ b, w6.heap.size = b := ⟨_, rfl⟩
  rw [hbb] at qc1_10 ⊢
  clear hbb
  obtain ⟨sc, ec, hp⟩ : ∃ sc ec, s.closeF id = (sc, ec) := ⟨_, _, rfl⟩
  have Hp := Lib.hid hp
  clear hp
  have hc := close44 _ _ s id V6 HS10.out (by have := HF.out; omega) (by have := HF.out; omega)
  rw [Hp.out] at hc
  refine hc.mono ?_
  rintro e w7 ⟨v, rfl, hS, hb⟩
  clear hc
  have k2_11 := Lib.hid (blk_below k2_10.out hb)
  have k3_11 := Lib.hid (blk_below k3_10.out hb)
  have qa0_11 := Lib.hid (blk_below qa0_10.out hb)
  have qa1_11 := Lib.hid (blk_below qa1_10.out hb)
  have qc0_11 := Lib.hid (blk_below qc0_10.out hb)
  have qc1_11 := Lib.hid (blk_below qc1_10.out hb)
  have HS11 := Lib.hid (HS10.out.below hb)
  have HO11 := Lib.hid (HO10.out.below hb)
  have Ta0g11 := Lib.hid (Ta0g10.out.below hb)
  have Ta1g11 := Lib.hid (Ta1g10.out.below hb)
  have Tc0g11 := Lib.hid (Tc0g10.out.below hb)
  have Tc1g11 := Lib.hid (Tc1g10.out.below hb)
  have HB11 := Lib.hid (HB10.out.trans (Below.mono hb HB10.out.size))
  clear k2_10 k3_10 qa0_10 qa1_10 qc0_10 qc1_10 HS10 HO10 Ta0g10 Ta1g10 Tc0g10 Tc1g10 HB10
  have Tp0g11 := Lib.hid (hS.mono (fun _ _ _ => trivial) : IsSS (fun _ => True) w7 v sc)
  obtain ⟨Ap0, cp0, Dp0, dp0, rfl, _, _, _, _⟩ := hS
  clear hb
  have rk2 := blk_cells k2_11.out
  have rk3 := blk_cells k3_11.out
  have Bc := bl_refl w7
  go_wp2_with fail
  clear rk2 rk3 Bc
  have hnew := blk_new w7 (.cells #[.int .i64 sc.epoch, .slice Ap0 sc.L.length cp0, .slice Dp0 sc.H.length dp0, .int .i64 sc.next, .int .u64 sc.now] 26)
  have k2_12 := Lib.hid (blk_below k2_11.out (bl_alloc (.cells #[.int .i64 sc.epoch, .slice Ap0 sc.L.length cp0, .slice Dp0 sc.H.length dp0, .int .i64 sc.next, .int .u64 sc.now] 26) (bl_refl w7)))
  have k3_12 := Lib.hid (blk_below k3_11.out (bl_alloc (.cells #[.int .i64 sc.epoch, .slice Ap0 sc.L.length cp0, .slice Dp0 sc.H.length dp0, .int .i64 sc.next, .int .u64 sc.now] 26) (bl_refl w7)))
  have qa0_12 := Lib.hid (blk_below qa0_11.out (bl_alloc (.cells #[.int .i64 sc.epoch, .slice Ap0 sc.L.length cp0, .slice Dp0 sc.H.length dp0, .int .i64 sc.next, .int .u64 sc.now] 26) (bl_refl w7)))
  have qa1_12 := Lib.hid (blk_below qa1_11.out (bl_alloc (.cells #[.int .i64 sc.epoch, .slice Ap0 sc.L.length cp0, .slice Dp0 sc.H.length dp0, .int .i64 sc.next, .int .u64 sc.now] 26) (bl_refl w7)))
  have qc0_12 := Lib.hid (blk_below qc0_11.out (bl_alloc (.cells #[.int .i64 sc.epoch, .slice Ap0 sc.L.length cp0, .slice Dp0 sc.H.length dp0, .int .i64 sc.next, .int .u64 sc.now] 26) (bl_refl w7)))
  have qc1_12 := Lib.hid (blk_below qc1_11.out (bl_alloc (.cells #[.int .i64 sc.epoch, .slice Ap0 sc.L.length cp0, .slice Dp0 sc.H.length dp0, .int .i64 sc.next, .int .u64 sc.now] 26) (bl_refl w7)))
  have HS12 := Lib.hid (HS11.out.below (bl_alloc (.cells #[.int .i64 sc.epoch, .slice Ap0 sc.L.length cp0, .slice Dp0 sc.H.length dp0, .int .i64 sc.next, .int .u64 sc.now] 26) (bl_refl w7)))
  have HO12 := Lib.hid (HO11.out.below (bl_alloc (.cells #[.int .i64 sc.epoch, .slice Ap0 sc.L.length cp0, .slice Dp0 sc.H.length dp0, .int .i64 sc.next, .int .u64 sc.now] 26) (bl_refl w7)))
  have Ta0g12 := Lib.hid (Ta0g11.out.below (bl_alloc (.cells #[.int .i64 sc.epoch, .slice Ap0 sc.L.length cp0, .slice Dp0 sc.H.length dp0, .int .i64 sc.next, .int .u64 sc.now] 26) (bl_refl w7)))
  have Ta1g12 := Lib.hid (Ta1g11.out.below (bl_alloc (.cells #[.int .i64 sc.epoch, .slice Ap0 sc.L.length cp0, .slice Dp0 sc.H.length dp0, .int .i64 sc.next, .int .u64 sc.now] 26) (bl_refl w7)))
  have Tc0g12 := Lib.hid (Tc0g11.out.below (bl_alloc (.cells #[.int .i64 sc.epoch, .slice Ap0 sc.L.length cp0, .slice Dp0 sc.H.length dp0, .int .i64 sc.next, .int .u64 sc.now] 26) (bl_refl w7)))
  have Tc1g12 := Lib.hid (Tc1g11.out.below (bl_alloc (.cells #[.int .i64 sc.epoch, .slice Ap0 sc.L.length cp0, .slice Dp0 sc.H.length dp0, .int .i64 sc.next, .int .u64 sc.now] 26) (bl_refl w7)))
  have Tp0g12 := Lib.hid (Tp0g11.out.below (bl_alloc (.cells #[.int .i64 sc.epoch, .slice Ap0 sc.L.length cp0, .slice Dp0 sc.H.length dp0, .int .i64 sc.next, .int .u64 sc.now] 26) (bl_refl w7)))
  have HB12 := Lib.hid (HB11.out.trans (Below.mono (bl_alloc (.cells #[.int .i64 sc.epoch, .slice Ap0 sc.L.length cp0, .slice Dp0 sc.H.length dp0, .int .i64 sc.next, .int .u64 sc.now] 26) (bl_refl w7)) HB11.out.size))
  clear k2_11 k3_11 qa0_11 qa1_11 qc0_11 qc1_11 HS11 HO11 Ta0g11 Ta1g11 Tc0g11 Tc1g11 Tp0g11 HB11
  have qp0_12 := Lib.hid hnew
  clear hnew
  generalize w7.alloc (.cells #[.int .i64 sc.epoch, .slice Ap0 sc.L.length cp0, .slice Dp0 sc.H.length dp0, .int .i64 sc.next, .int .u64 sc.now] 26) = V7 at k2_12 k3_12 qa0_12 qa1_12 qc0_12 qc1_12 qp0_12 HS12 HO12 Ta0g12 Ta1g12 Tc0g12 Tc1g12 Tp0g12 HB12 ⊢
  obtain ⟨bqp0, hbb⟩ : ∃ b, w7.heap.size = b := ⟨_, rfl⟩
  rw [hbb] at qp0_12 ⊢
  clear hbb
  have hc := close45 _ _ s id V7 HS12.out (by have := HF.out; omega) (by have := HF.out; omega)
  rw [Hp.out] at hc
  refine hc.mono ?_
  rintro e w8 ⟨v, rfl, hS, hb⟩
  clear hc
  have k2_13 := Lib.hid (blk_below k2_12.out hb)
  have k3_13 := Lib.hid (blk_below k3_12.out hb)
  have qa0_13 := Lib.hid (blk_below qa0_12.out hb)
  have qa1_13 := Lib.hid (blk_below qa1_12.out hb)
  have qc0_13 := Lib.hid (blk_below qc0_12.out hb)
  have qc1_13 := Lib.hid (blk_below qc1_12.out hb)
  have qp0_13 := Lib.hid (blk_below qp0_12.out hb)
  have HS13 := Lib.hid (HS12.out.below hb)
  have HO13 := Lib.hid (HO12.out.below hb)
  have Ta0g13 := Lib.hid (Ta0g12.out.below hb)
  have Ta1g13 := Lib.hid (Ta1g12.out.below hb)
  have Tc0g13 := Lib.hid (Tc0g12.out.below hb)
  have Tc1g13 := Lib.hid (Tc1g12.out.below hb)
  have Tp0g13 := Lib.hid (Tp0g12.out.below hb)
  have HB13 := Lib.hid (HB12.out.trans (Below.mono hb HB12.out.size))
  clear k2_12 k3_12 qa0_12 qa1_12 qc0_12 qc1_12 qp0_12 HS12 HO12 Ta0g12 Ta1g12 Tc0g12 Tc1g12 Tp0g12 HB12
  have Tp1g13 := Lib.hid (hS.mono (fun _ _ _ => trivial) : IsSS (fun _ => True) w8 v sc)
  obtain ⟨Ap1, cp1, Dp1, dp1, rfl, _, _, _, _⟩ := hS
  clear hb
  have rk2 := blk_cells k2_13.out
  have rk3 := blk_cells k3_13.out
  have Bc := bl_refl w8
  go_wp2_with fail
  clear rk2 rk3 Bc
  have hnew := blk_new w8 (.cells #[.int .i64 sc.epoch, .slice Ap1 sc.L.length cp1, .slice Dp1 sc.H.length dp1, .int .i64 sc.next, .int .u64 sc.now] 26)
  have k2_14 := Lib.hid (blk_below k2_13.out (bl_alloc (.cells #[.int .i64 sc.epoch, .slice Ap1 sc.L.length cp1, .slice Dp1 sc.H.length dp1, .int .i64 sc.next, .int .u64 sc.now] 26) (bl_refl w8)))
  have k3_14 := Lib.hid (blk_below k3_13.out (bl_alloc (.cells #[.int .i64 sc.epoch, .slice Ap1 sc.L.length cp1, .slice Dp1 sc.H.length dp1, .int .i64 sc.next, .int .u64 sc.now] 26) (bl_refl w8)))
  have qa0_14 := Lib.hid (blk_below qa0_13.out (bl_alloc (.cells #[.int .i64 sc.epoch, .slice Ap1 sc.L.length cp1, .slice Dp1 sc.H.length dp1, .int .i64 sc.next, .int .u64 sc.now] 26) (bl_refl w8)))
  have qa1_14 := Lib.hid (blk_below qa1_13.out (bl_alloc (.cells #[.int .i64 sc.epoch, .slice Ap1 sc.L.length cp1, .slice Dp1 sc.H.length dp1, .int .i64 sc.next, .int .u64 sc.now] 26) (bl_refl w8)))
  have qc0_14 := Lib.hid (blk_below qc0_13.out (bl_alloc (.cells #[.int .i64 sc.epoch, .slice Ap1 sc.L.length cp1, .slice Dp1 sc.H.length dp1, .int .i64 sc.next, .int .u64 sc.now] 26) (bl_refl w8)))
  have qc1_14 := Lib.hid (blk_below qc1_13.out (bl_alloc (.cells #[.int .i64 sc.epoch, .slice Ap1 sc.L.length cp1, .slice Dp1 sc.H.length dp1, .int .i64 sc.next, .int .u64 sc.now] 26) (bl_refl w8)))
  have qp0_14 := Lib.hid (blk_below qp0_13.out (bl_alloc (.cells #[.int .i64 sc.epoch, .slice Ap1 sc.L.length cp1, .slice Dp1 sc.H.length dp1, .int .i64 sc.next, .int .u64 sc.now] 26) (bl_refl w8)))
  have HS14 := Lib.hid (HS13.out.below (bl_alloc (.cells #[.int .i64 sc.epoch, .slice Ap1 sc.L.length cp1, .slice Dp1 sc.H.length dp1, .int .i64 sc.next, .int .u64 sc.now] 26) (bl_refl w8)))
  have HO14 := Lib.hid (HO13.out.below (bl_alloc (.cells #[.int .i64 sc.epoch, .slice Ap1 sc.L.length cp1, .slice Dp1 sc.H.length dp1, .int .i64 sc.next, .int .u64 sc.now] 26) (bl_refl w8)))
  have Ta0g14 := Lib.hid (Ta0g13.out.below (bl_alloc (.cells #[.int .i64 sc.epoch, .slice Ap1 sc.L.length cp1, .slice Dp1 sc.H.length dp1, .int .i64 sc.next, .int .u64 sc.now] 26) (bl_refl w8)))
  have Ta1g14 := Lib.hid (Ta1g13.out.below (bl_alloc (.cells #[.int .i64 sc.epoch, .slice Ap1 sc.L.length cp1, .slice Dp1 sc.H.length dp1, .int .i64 sc.next, .int .u64 sc.now] 26) (bl_refl w8)))
  have Tc0g14 := Lib.hid (Tc0g13.out.below (bl_alloc (.cells #[.int .i64 sc.epoch, .slice Ap1 sc.L.length cp1, .slice Dp1 sc.H.length dp1, .int .i64 sc.next, .int .u64 sc.now] 26) (bl_refl w8)))
  have Tc1g14 := Lib.hid (Tc1g13.out.below (bl_alloc (.cells #[.int .i64 sc.epoch, .slice Ap1 sc.L.length cp1, .slice Dp1 sc.H.length dp1, .int .i64 sc.next, .int .u64 sc.now] 26) (bl_refl w8)))
  have Tp0g14 := Lib.hid (Tp0g13.out.below (bl_alloc (.cells #[.int .i64 sc.epoch, .slice Ap1 sc.L.length cp1, .slice Dp1 sc.H.length dp1, .int .i64 sc.next, .int .u64 sc.now] 26) (bl_refl w8)))
  have Tp1g14 := Lib.hid (Tp1g13.out.below (bl_alloc (.cells #[.int .i64 sc.epoch, .slice Ap1 sc.L.length cp1, .slice Dp1 sc.H.length dp1, .int .i64 sc.next, .int .u64 sc.now] 26) (bl_refl w8)))
  have HB14 := Lib.hid (HB13.out.trans (Below.mono (bl_alloc (.cells #[.int .i64 sc.epoch, .slice Ap1 sc.L.length cp1, .slice Dp1 sc.H.length dp1, .int .i64 sc.next, .int .u64 sc.now] 26) (bl_refl w8)) HB13.out.size))
  clear k2_13 k3_13 qa0_13 qa1_13 qc0_13 qc1_13 qp0_13 HS13 HO13 Ta0g13 Ta1g13 Tc0g13 Tc1g13 Tp0g13 Tp1g13 HB13
  have qp1_14 := Lib.hid hnew
  clear hnew
  generalize w8.alloc (.cells #[.int .i64 sc.epoch, .slice Ap1 sc.L.length cp1, .slice Dp1 sc.H.length dp1, .int .i64 sc.next, .int .u64 sc.now] 26) = V8 at k2_14 k3_14 qa0_14 qa1_14 qc0_14 qc1_14 qp0_14 qp1_14 HS14 HO14 Ta0g14 Ta1g14 Tc0g14 Tc1g14 Tp0g14 Tp1g14 HB14 ⊢
  obtain ⟨bqp1, hbb⟩ : ∃ b, w8.heap.size = b := ⟨_, rfl⟩
  rw [hbb] at qp1_14 ⊢
  clear hbb
  obtain ⟨st, Lt, ht⟩ : ∃ st Lt, s.tickF now = (st, Lt) := ⟨_, _, rfl⟩
  have Ht := Lib.hid ht
  clear ht
  have hc := tick46 _ _ s now V8 HS14.out (by have := HF.out; omega) (by have := HF.out; omega)
  rw [Ht.out] at hc
  refine hc.mono ?_
  rintro e w9 ⟨v, Bt0, et0, rfl, hS, hRt, hb⟩
  clear hc
  have k2_15 := Lib.hid (blk_below k2_14.out hb)
  have k3_15 := Lib.hid (blk_below k3_14.out hb)
  have qa0_15 := Lib.hid (blk_below qa0_14.out hb)
  have qa1_15 := Lib.hid (blk_below qa1_14.out hb)
  have qc0_15 := Lib.hid (blk_below qc0_14.out hb)
  have qc1_15 := Lib.hid (blk_below qc1_14.out hb)
  have qp0_15 := Lib.hid (blk_below qp0_14.out hb)
  have qp1_15 := Lib.hid (blk_below qp1_14.out hb)
  have HS15 := Lib.hid (HS14.out.below hb)
  have HO15 := Lib.hid (HO14.out.below hb)
  have Ta0g15 := Lib.hid (Ta0g14.out.below hb)
  have Ta1g15 := Lib.hid (Ta1g14.out.below hb)
  have Tc0g15 := Lib.hid (Tc0g14.out.below hb)
  have Tc1g15 := Lib.hid (Tc1g14.out.below hb)
  have Tp0g15 := Lib.hid (Tp0g14.out.below hb)
  have Tp1g15 := Lib.hid (Tp1g14.out.below hb)
  have HB15 := Lib.hid (HB14.out.trans (Below.mono hb HB14.out.size))
  clear k2_14 k3_14 qa0_14 qa1_14 qc0_14 qc1_14 qp0_14 qp1_14 HS14 HO14 Ta0g14 Ta1g14 Tc0g14 Tc1g14 Tp0g14 Tp1g14 HB14
  have Tt0g15 := Lib.hid (hS.mono (fun _ _ _ => trivial) : IsSS (fun _ => True) w9 v st)
  have G0r15 := Lib.hid (Kd.R_reads' hRt).2.2
  obtain ⟨At0, ct0, Dt0, dt0, rfl, _, _, _, _⟩ := hS
  clear hb hRt
  have rk2 := blk_cells k2_15.out
  have rk3 := blk_cells k3_15.out
  have Bc := bl_refl w9
  go_wp2_with fail
  clear rk2 rk3 Bc
  have hnew := blk_new w9 (.cells #[.int .i64 st.epoch, .slice At0 st.L.length ct0, .slice Dt0 st.H.length dt0, .int .i64 st.next, .int .u64 st.now] 26)
  have k2_16 := Lib.hid (blk_below k2_15.out (bl_alloc (.cells #[.int .i64 st.epoch, .slice At0 st.L.length ct0, .slice Dt0 st.H.length dt0, .int .i64 st.next, .int .u64 st.now] 26) (bl_refl w9)))
  have k3_16 := Lib.hid (blk_below k3_15.out (bl_alloc (.cells #[.int .i64 st.epoch, .slice At0 st.L.length ct0, .slice Dt0 st.H.length dt0, .int .i64 st.next, .int .u64 st.now] 26) (bl_refl w9)))
  have qa0_16 := Lib.hid (blk_below qa0_15.out (bl_alloc (.cells #[.int .i64 st.epoch, .slice At0 st.L.length ct0, .slice Dt0 st.H.length dt0, .int .i64 st.next, .int .u64 st.now] 26) (bl_refl w9)))
  have qa1_16 := Lib.hid (blk_below qa1_15.out (bl_alloc (.cells #[.int .i64 st.epoch, .slice At0 st.L.length ct0, .slice Dt0 st.H.length dt0, .int .i64 st.next, .int .u64 st.now] 26) (bl_refl w9)))
  have qc0_16 := Lib.hid (blk_below qc0_15.out (bl_alloc (.cells #[.int .i64 st.epoch, .slice At0 st.L.length ct0, .slice Dt0 st.H.length dt0, .int .i64 st.next, .int .u64 st.now] 26) (bl_refl w9)))
  have qc1_16 := Lib.hid (blk_below qc1_15.out (bl_alloc (.cells #[.int .i64 st.epoch, .slice At0 st.L.length ct0, .slice Dt0 st.H.length dt0, .int .i64 st.next, .int .u64 st.now] 26) (bl_refl w9)))
  have qp0_16 := Lib.hid (blk_below qp0_15.out (bl_alloc (.cells #[.int .i64 st.epoch, .slice At0 st.L.length ct0, .slice Dt0 st.H.length dt0, .int .i64 st.next, .int .u64 st.now] 26) (bl_refl w9)))
  have qp1_16 := Lib.hid (blk_below qp1_15.out (bl_alloc (.cells #[.int .i64 st.epoch, .slice At0 st.L.length ct0, .slice Dt0 st.H.length dt0, .int .i64 st.next, .int .u64 st.now] 26) (bl_refl w9)))
  have HS16 := Lib.hid (HS15.out.below (bl_alloc (.cells #[.int .i64 st.epoch, .slice At0 st.L.length ct0, .slice Dt0 st.H.length dt0, .int .i64 st.next, .int .u64 st.now] 26) (bl_refl w9)))
  have HO16 := Lib.hid (HO15.out.below (bl_alloc (.cells #[.int .i64 st.epoch, .slice At0 st.L.length ct0, .slice Dt0 st.H.length dt0, .int .i64 st.next, .int .u64 st.now] 26) (bl_refl w9)))
  have Ta0g16 := Lib.hid (Ta0g15.out.below (bl_alloc (.cells #[.int .i64 st.epoch, .slice At0 st.L.length ct0, .slice Dt0 st.H.length dt0, .int .i64 st.next, .int .u64 st.now] 26) (bl_refl w9)))
  have Ta1g16 := Lib.hid (Ta1g15.out.below (bl_alloc (.cells #[.int .i64 st.epoch, .slice At0 st.L.length ct0, .slice Dt0 st.H.length dt0, .int .i64 st.next, .int .u64 st.now] 26) (bl_refl w9)))
  have Tc0g16 := Lib.hid (Tc0g15.out.below (bl_alloc (.cells #[.int .i64 st.epoch, .slice At0 st.L.length ct0, .slice Dt0 st.H.length dt0, .int .i64 st.next, .int .u64 st.now] 26) (bl_refl w9)))
  have Tc1g16 := Lib.hid (Tc1g15.out.below (bl_alloc (.cells #[.int .i64 st.epoch, .slice At0 st.L.length ct0, .slice Dt0 st.H.length dt0, .int .i64 st.next, .int .u64 st.now] 26) (bl_refl w9)))
  have Tp0g16 := Lib.hid (Tp0g15.out.below (bl_alloc (.cells #[.int .i64 st.epoch, .slice At0 st.L.length ct0, .slice Dt0 st.H.length dt0, .int .i64 st.next, .int .u64 st.now] 26) (bl_refl w9)))
  have Tp1g16 := Lib.hid (Tp1g15.out.below (bl_alloc (.cells #[.int .i64 st.epoch, .slice At0 st.L.length ct0, .slice Dt0 st.H.length dt0, .int .i64 st.next, .int .u64 st.now] 26) (bl_refl w9)))
  have Tt0g16 := Lib.hid (Tt0g15.out.below (bl_alloc (.cells #[.int .i64 st.epoch, .slice At0 st.L.length ct0, .slice Dt0 st.H.length dt0, .int .i64 st.next, .int .u64 st.now] 26) (bl_refl w9)))
  have G0r16 := Lib.hid (Kd.C_below G0r15.out (bl_alloc (.cells #[.int .i64 st.epoch, .slice At0 st.L.length ct0, .slice Dt0 st.H.length dt0, .int .i64 st.next, .int .u64 st.now] 26) (bl_refl w9)))
  have HB16 := Lib.hid (HB15.out.trans (Below.mono (bl_alloc (.cells #[.int .i64 st.epoch, .slice At0 st.L.length ct0, .slice Dt0 st.H.length dt0, .int .i64 st.next, .int .u64 st.now] 26) (bl_refl w9)) HB15.out.size))
  clear k2_15 k3_15 qa0_15 qa1_15 qc0_15 qc1_15 qp0_15 qp1_15 HS15 HO15 Ta0g15 Ta1g15 Tc0g15 Tc1g15 Tp0g15 Tp1g15 Tt0g15 G0r15 HB15
  have qt0_16 := Lib.hid hnew
  clear hnew
  generalize w9.alloc (.cells #[.int .i64 st.epoch, .slice At0 st.L.length ct0, .slice Dt0 st.H.length dt0, .int .i64 st.next, .int .u64 st.now] 26) = V9 at k2_16 k3_16 qa0_16 qa1_16 qc0_16 qc1_16 qp0_16 qp1_16 qt0_16 HS16 HO16 Ta0g16 Ta1g16 Tc0g16 Tc1g16 Tp0g16 Tp1g16 Tt0g16 G0r16 HB16 ⊢
  obtain ⟨bqt0, hbb⟩ : ∃ b, w9.heap.size = b := ⟨_, rfl⟩
  rw [hbb] at qt0_16 ⊢
  clear hbb
  have hc := tick47 _ _ s now V9 HS16.out (by have := HF.out; omega) (by have := HF.out; omega)
  rw [Ht.out] at hc
  refine hc.mono ?_
  rintro e w10 ⟨v, Bt1, et1, rfl, hS, hRt, hb⟩
  clear hc
  have k2_17 := Lib.hid (blk_below k2_16.out hb)
  have k3_17 := Lib.hid (blk_below k3_16.out hb)
  have qa0_17 := Lib.hid (blk_below qa0_16.out hb)
  have qa1_17 := Lib.hid (blk_below qa1_16.out hb)
  have qc0_17 := Lib.hid (blk_below qc0_16.out hb)
  have qc1_17 := Lib.hid (blk_below qc1_16.out hb)
  have qp0_17 := Lib.hid (blk_below qp0_16.out hb)
  have qp1_17 := Lib.hid (blk_below qp1_16.out hb)
  have qt0_17 := Lib.hid (blk_below qt0_16.out hb)
  have HS17 := Lib.hid (HS16.out.below hb)
  have HO17 := Lib.hid (HO16.out.below hb)
  have Ta0g17 := Lib.hid (Ta0g16.out.below hb)
  have Ta1g17 := Lib.hid (Ta1g16.out.below hb)
  have Tc0g17 := Lib.hid (Tc0g16.out.below hb)
  have Tc1g17 := Lib.hid (Tc1g16.out.below hb)
  have Tp0g17 := Lib.hid (Tp0g16.out.below hb)
  have Tp1g17 := Lib.hid (Tp1g16.out.below hb)
  have Tt0g17 := Lib.hid (Tt0g16.out.below hb)
  have G0r17 := Lib.hid (Kd.C_below G0r16.out hb)
  have HB17 := Lib.hid (HB16.out.trans (Below.mono hb HB16.out.size))
  clear k2_16 k3_16 qa0_16 qa1_16 qc0_16 qc1_16 qp0_16 qp1_16 qt0_16 HS16 HO16 Ta0g16 Ta1g16 Tc0g16 Tc1g16 Tp0g16 Tp1g16 Tt0g16 G0r16 HB16
  have Tt1g17 := Lib.hid (hS.mono (fun _ _ _ => trivial) : IsSS (fun _ => True) w10 v st)
  have G1r17 := Lib.hid (Kd.R_reads' hRt).2.2
  obtain ⟨At1, ct1, Dt1, dt1, rfl, _, _, _, _⟩ := hS
  clear hb hRt
  have rk2 := blk_cells k2_17.out
  have rk3 := blk_cells k3_17.out
  have Bc := bl_refl w10
  go_wp2_with fail
  clear rk2 rk3 Bc
  have hnew := blk_new w10 (.cells #[.int .i64 st.epoch, .slice At1 st.L.length ct1, .slice Dt1 st.H.length dt1, .int .i64 st.next, .int .u64 st.now] 26)
  have k2_18 := Lib.hid (blk_below k2_17.out (bl_alloc (.cells #[.int .i64 st.epoch, .slice At1 st.L.length ct1, .slice Dt1 st.H.length dt1, .int .i64 st.next, .int .u64 st.now] 26) (bl_refl w10)))
  have k3_18 := Lib.hid (blk_below k3_17.out (bl_alloc (.cells #[.int .i64 st.epoch, .slice At1 st.L.length ct1, .slice Dt1 st.H.length dt1, .int .i64 st.next, .int .u64 st.now] 26) (bl_refl w10)))
  have qa0_18 := Lib.hid (blk_below qa0_17.out (bl_alloc (.cells #[.int .i64 st.epoch, .slice At1 st.L.length ct1, .slice Dt1 st.H.length dt1, .int .i64 st.next, .int .u64 st.now] 26) (bl_refl w10)))
  have qa1_18 := Lib.hid (blk_below qa1_17.out (bl_alloc (.cells #[.int .i64 st.epoch, .slice At1 st.L.length ct1, .slice Dt1 st.H.length dt1, .int .i64 st.next, .int .u64 st.now] 26) (bl_refl w10)))
  have qc0_18 := Lib.hid (blk_below qc0_17.out (bl_alloc (.cells #[.int .i64 st.epoch, .slice At1 st.L.length ct1, .slice Dt1 st.H.length dt1, .int .i64 st.next, .int .u64 st.now] 26) (bl_refl w10)))
  have qc1_18 := Lib.hid (blk_below qc1_17.out (bl_alloc (.cells #[.int .i64 st.epoch, .slice At1 st.L.length ct1, .slice Dt1 st.H.length dt1, .int .i64 st.next, .int .u64 st.now] 26) (bl_refl w10)))
  have qp0_18 := Lib.hid (blk_below qp0_17.out (bl_alloc (.cells #[.int .i64 st.epoch, .slice At1 st.L.length ct1, .slice Dt1 st.H.length dt1, .int .i64 st.next, .int .u64 st.now] 26) (bl_refl w10)))
  have qp1_18 := Lib.hid (blk_below qp1_17.out (bl_alloc (.cells #[.int .i64 st.epoch, .slice At1 st.L.length ct1, .slice Dt1 st.H.length dt1, .int .i64 st.next, .int .u64 st.now] 26) (bl_refl w10)))
  have qt0_18 := Lib.hid (blk_below qt0_17.out (bl_alloc (.cells #[.int .i64 st.epoch, .slice At1 st.L.length ct1, .slice Dt1 st.H.length dt1, .int .i64 st.next, .int .u64 st.now] 26) (bl_refl w10)))
  have HS18 := Lib.hid (HS17.out.below (bl_alloc (.cells #[.int .i64 st.epoch, .slice At1 st.L.length ct1, .slice Dt1 st.H.length dt1, .int .i64 st.next, .int .u64 st.now] 26) (bl_refl w10)))
  have HO18 := Lib.hid (HO17.out.below (bl_alloc (.cells #[.int .i64 st.epoch, .slice At1 st.L.length ct1, .slice Dt1 st.H.length dt1, .int .i64 st.next, .int .u64 st.now] 26) (bl_refl w10)))
  have Ta0g18 := Lib.hid (Ta0g17.out.below (bl_alloc (.cells #[.int .i64 st.epoch, .slice At1 st.L.length ct1, .slice Dt1 st.H.length dt1, .int .i64 st.next, .int .u64 st.now] 26) (bl_refl w10)))
  have Ta1g18 := Lib.hid (Ta1g17.out.below (bl_alloc (.cells #[.int .i64 st.epoch, .slice At1 st.L.length ct1, .slice Dt1 st.H.length dt1, .int .i64 st.next, .int .u64 st.now] 26) (bl_refl w10)))
  have Tc0g18 := Lib.hid (Tc0g17.out.below (bl_alloc (.cells #[.int .i64 st.epoch, .slice At1 st.L.length ct1, .slice Dt1 st.H.length dt1, .int .i64 st.next, .int .u64 st.now] 26) (bl_refl w10)))
  have Tc1g18 := Lib.hid (Tc1g17.out.below (bl_alloc (.cells #[.int .i64 st.epoch, .slice At1 st.L.length ct1, .slice Dt1 st.H.length dt1, .int .i64 st.next, .int .u64 st.now] 26) (bl_refl w10)))
  have Tp0g18 := Lib.hid (Tp0g17.out.below (bl_alloc (.cells #[.int .i64 st.epoch, .slice At1 st.L.length ct1, .slice Dt1 st.H.length dt1, .int .i64 st.next, .int .u64 st.now] 26) (bl_refl w10)))
  have Tp1g18 := Lib.hid (Tp1g17.out.below (bl_alloc (.cells #[.int .i64 st.epoch, .slice At1 st.L.length ct1, .slice Dt1 st.H.length dt1, .int .i64 st.next, .int .u64 st.now] 26) (bl_refl w10)))
  have Tt0g18 := Lib.hid (Tt0g17.out.below (bl_alloc (.cells #[.int .i64 st.epoch, .slice At1 st.L.length ct1, .slice Dt1 st.H.length dt1, .int .i64 st.next, .int .u64 st.now] 26) (bl_refl w10)))
  have Tt1g18 := Lib.hid (Tt1g17.out.below (bl_alloc (.cells #[.int .i64 st.epoch, .slice At1 st.L.length ct1, .slice Dt1 st.H.length dt1, .int .i64 st.next, .int .u64 st.now] 26) (bl_refl w10)))
  have G0r18 := Lib.hid (Kd.C_below G0r17.out (bl_alloc (.cells #[.int .i64 st.epoch, .slice At1 st.L.length ct1, .slice Dt1 st.H.length dt1, .int .i64 st.next, .int .u64 st.now] 26) (bl_refl w10)))
  have G1r18 := Lib.hid (Kd.C_below G1r17.out (bl_alloc (.cells #[.int .i64 st.epoch, .slice At1 st.L.length ct1, .slice Dt1 st.H.length dt1, .int .i64 st.next, .int .u64 st.now] 26) (bl_refl w10)))
  have HB18 := Lib.hid (HB17.out.trans (Below.mono (bl_alloc (.cells #[.int .i64 st.epoch, .slice At1 st.L.length ct1, .slice Dt1 st.H.length dt1, .int .i64 st.next, .int .u64 st.now] 26) (bl_refl w10)) HB17.out.size))
  clear k2_17 k3_17 qa0_17 qa1_17 qc0_17 qc1_17 qp0_17 qp1_17 qt0_17 HS17 HO17 Ta0g17 Ta1g17 Tc0g17 Tc1g17 Tp0g17 Tp1g17 Tt0g17 Tt1g17 G0r17 G1r17 HB17
  have qt1_18 := Lib.hid hnew
  clear hnew
  generalize w10.alloc (.cells #[.int .i64 st.epoch, .slice At1 st.L.length ct1, .slice Dt1 st.H.length dt1, .int .i64 st.next, .int .u64 st.now] 26) = V10 at k2_18 k3_18 qa0_18 qa1_18 qc0_18 qc1_18 qp0_18 qp1_18 qt0_18 qt1_18 HS18 HO18 Ta0g18 Ta1g18 Tc0g18 Tc1g18 Tp0g18 Tp1g18 Tt0g18 Tt1g18 G0r18 G1r18 HB18 ⊢
  obtain ⟨bqt1, hbb⟩ : ∃ b, w10.heap.size = b := ⟨_, rfl⟩
  rw [hbb] at qt1_18 ⊢
  clear hbb
  obtain ⟨xx, bx, hxx⟩ := fx_ex (fun y : Ses => y.id == id) s.L
  have HXx := Lib.hid hxx
  clear hxx
  have hc : Calls Try.prog 48 #[.agg #[.int .i64 s.epoch, .slice A1 s.L.length c1, .slice A2 s.H.length c2, .int .i64 s.next, .int .u64 s.now], .int .i64 id] V10 fun e w' => e = .returned (.tuple #[.agg #[.int .i64 xx.id, .int .i64 xx.seq, .bool xx.busy, .string xx.last, .int .i64 xx.txn, .int .i64 xx.conn], .bool bx]) ∧ Below V10.heap.size V10 w' := find48 s.epoch A1 c1 s.L (.slice A2 s.H.length c2) rfl s.next s.now id V10 HS18.out.parts.1.self xx bx HXx.out
  refine hc.mono ?_
  rintro e w11 ⟨rfl, hb⟩
  clear hc
  have k2_19 := Lib.hid (blk_below k2_18.out hb)
  have k3_19 := Lib.hid (blk_below k3_18.out hb)
  have qa0_19 := Lib.hid (blk_below qa0_18.out hb)
  have qa1_19 := Lib.hid (blk_below qa1_18.out hb)
  have qc0_19 := Lib.hid (blk_below qc0_18.out hb)
  have qc1_19 := Lib.hid (blk_below qc1_18.out hb)
  have qp0_19 := Lib.hid (blk_below qp0_18.out hb)
  have qp1_19 := Lib.hid (blk_below qp1_18.out hb)
  have qt0_19 := Lib.hid (blk_below qt0_18.out hb)
  have qt1_19 := Lib.hid (blk_below qt1_18.out hb)
  have HS19 := Lib.hid (HS18.out.below hb)
  have HO19 := Lib.hid (HO18.out.below hb)
  have Ta0g19 := Lib.hid (Ta0g18.out.below hb)
  have Ta1g19 := Lib.hid (Ta1g18.out.below hb)
  have Tc0g19 := Lib.hid (Tc0g18.out.below hb)
  have Tc1g19 := Lib.hid (Tc1g18.out.below hb)
  have Tp0g19 := Lib.hid (Tp0g18.out.below hb)
  have Tp1g19 := Lib.hid (Tp1g18.out.below hb)
  have Tt0g19 := Lib.hid (Tt0g18.out.below hb)
  have Tt1g19 := Lib.hid (Tt1g18.out.below hb)
  have G0r19 := Lib.hid (Kd.C_below G0r18.out hb)
  have G1r19 := Lib.hid (Kd.C_below G1r18.out hb)
  have HB19 := Lib.hid (HB18.out.trans (Below.mono hb HB18.out.size))
  clear k2_18 k3_18 qa0_18 qa1_18 qc0_18 qc1_18 qp0_18 qp1_18 qt0_18 qt1_18 HS18 HO18 Ta0g18 Ta1g18 Tc0g18 Tc1g18 Tp0g18 Tp1g18 Tt0g18 Tt1g18 G0r18 G1r18 HB18
  clear hb
  have rk2 := blk_cells k2_19.out
  have rk3 := blk_cells k3_19.out
  have Bc := bl_refl w11
  go_wp2_with fail
  clear rk2 rk3 Bc
  have hnew := blk_new w11 (.cells #[.int .i64 xx.id, .int .i64 xx.seq, .bool xx.busy, .string xx.last, .int .i64 xx.txn, .int .i64 xx.conn] 78)
  have k2_20 := Lib.hid (blk_below k2_19.out (bl_alloc (.cells #[.int .i64 xx.id, .int .i64 xx.seq, .bool xx.busy, .string xx.last, .int .i64 xx.txn, .int .i64 xx.conn] 78) (bl_refl w11)))
  have k3_20 := Lib.hid (blk_below k3_19.out (bl_alloc (.cells #[.int .i64 xx.id, .int .i64 xx.seq, .bool xx.busy, .string xx.last, .int .i64 xx.txn, .int .i64 xx.conn] 78) (bl_refl w11)))
  have qa0_20 := Lib.hid (blk_below qa0_19.out (bl_alloc (.cells #[.int .i64 xx.id, .int .i64 xx.seq, .bool xx.busy, .string xx.last, .int .i64 xx.txn, .int .i64 xx.conn] 78) (bl_refl w11)))
  have qa1_20 := Lib.hid (blk_below qa1_19.out (bl_alloc (.cells #[.int .i64 xx.id, .int .i64 xx.seq, .bool xx.busy, .string xx.last, .int .i64 xx.txn, .int .i64 xx.conn] 78) (bl_refl w11)))
  have qc0_20 := Lib.hid (blk_below qc0_19.out (bl_alloc (.cells #[.int .i64 xx.id, .int .i64 xx.seq, .bool xx.busy, .string xx.last, .int .i64 xx.txn, .int .i64 xx.conn] 78) (bl_refl w11)))
  have qc1_20 := Lib.hid (blk_below qc1_19.out (bl_alloc (.cells #[.int .i64 xx.id, .int .i64 xx.seq, .bool xx.busy, .string xx.last, .int .i64 xx.txn, .int .i64 xx.conn] 78) (bl_refl w11)))
  have qp0_20 := Lib.hid (blk_below qp0_19.out (bl_alloc (.cells #[.int .i64 xx.id, .int .i64 xx.seq, .bool xx.busy, .string xx.last, .int .i64 xx.txn, .int .i64 xx.conn] 78) (bl_refl w11)))
  have qp1_20 := Lib.hid (blk_below qp1_19.out (bl_alloc (.cells #[.int .i64 xx.id, .int .i64 xx.seq, .bool xx.busy, .string xx.last, .int .i64 xx.txn, .int .i64 xx.conn] 78) (bl_refl w11)))
  have qt0_20 := Lib.hid (blk_below qt0_19.out (bl_alloc (.cells #[.int .i64 xx.id, .int .i64 xx.seq, .bool xx.busy, .string xx.last, .int .i64 xx.txn, .int .i64 xx.conn] 78) (bl_refl w11)))
  have qt1_20 := Lib.hid (blk_below qt1_19.out (bl_alloc (.cells #[.int .i64 xx.id, .int .i64 xx.seq, .bool xx.busy, .string xx.last, .int .i64 xx.txn, .int .i64 xx.conn] 78) (bl_refl w11)))
  have HS20 := Lib.hid (HS19.out.below (bl_alloc (.cells #[.int .i64 xx.id, .int .i64 xx.seq, .bool xx.busy, .string xx.last, .int .i64 xx.txn, .int .i64 xx.conn] 78) (bl_refl w11)))
  have HO20 := Lib.hid (HO19.out.below (bl_alloc (.cells #[.int .i64 xx.id, .int .i64 xx.seq, .bool xx.busy, .string xx.last, .int .i64 xx.txn, .int .i64 xx.conn] 78) (bl_refl w11)))
  have Ta0g20 := Lib.hid (Ta0g19.out.below (bl_alloc (.cells #[.int .i64 xx.id, .int .i64 xx.seq, .bool xx.busy, .string xx.last, .int .i64 xx.txn, .int .i64 xx.conn] 78) (bl_refl w11)))
  have Ta1g20 := Lib.hid (Ta1g19.out.below (bl_alloc (.cells #[.int .i64 xx.id, .int .i64 xx.seq, .bool xx.busy, .string xx.last, .int .i64 xx.txn, .int .i64 xx.conn] 78) (bl_refl w11)))
  have Tc0g20 := Lib.hid (Tc0g19.out.below (bl_alloc (.cells #[.int .i64 xx.id, .int .i64 xx.seq, .bool xx.busy, .string xx.last, .int .i64 xx.txn, .int .i64 xx.conn] 78) (bl_refl w11)))
  have Tc1g20 := Lib.hid (Tc1g19.out.below (bl_alloc (.cells #[.int .i64 xx.id, .int .i64 xx.seq, .bool xx.busy, .string xx.last, .int .i64 xx.txn, .int .i64 xx.conn] 78) (bl_refl w11)))
  have Tp0g20 := Lib.hid (Tp0g19.out.below (bl_alloc (.cells #[.int .i64 xx.id, .int .i64 xx.seq, .bool xx.busy, .string xx.last, .int .i64 xx.txn, .int .i64 xx.conn] 78) (bl_refl w11)))
  have Tp1g20 := Lib.hid (Tp1g19.out.below (bl_alloc (.cells #[.int .i64 xx.id, .int .i64 xx.seq, .bool xx.busy, .string xx.last, .int .i64 xx.txn, .int .i64 xx.conn] 78) (bl_refl w11)))
  have Tt0g20 := Lib.hid (Tt0g19.out.below (bl_alloc (.cells #[.int .i64 xx.id, .int .i64 xx.seq, .bool xx.busy, .string xx.last, .int .i64 xx.txn, .int .i64 xx.conn] 78) (bl_refl w11)))
  have Tt1g20 := Lib.hid (Tt1g19.out.below (bl_alloc (.cells #[.int .i64 xx.id, .int .i64 xx.seq, .bool xx.busy, .string xx.last, .int .i64 xx.txn, .int .i64 xx.conn] 78) (bl_refl w11)))
  have G0r20 := Lib.hid (Kd.C_below G0r19.out (bl_alloc (.cells #[.int .i64 xx.id, .int .i64 xx.seq, .bool xx.busy, .string xx.last, .int .i64 xx.txn, .int .i64 xx.conn] 78) (bl_refl w11)))
  have G1r20 := Lib.hid (Kd.C_below G1r19.out (bl_alloc (.cells #[.int .i64 xx.id, .int .i64 xx.seq, .bool xx.busy, .string xx.last, .int .i64 xx.txn, .int .i64 xx.conn] 78) (bl_refl w11)))
  have HB20 := Lib.hid (HB19.out.trans (Below.mono (bl_alloc (.cells #[.int .i64 xx.id, .int .i64 xx.seq, .bool xx.busy, .string xx.last, .int .i64 xx.txn, .int .i64 xx.conn] 78) (bl_refl w11)) HB19.out.size))
  clear k2_19 k3_19 qa0_19 qa1_19 qc0_19 qc1_19 qp0_19 qp1_19 qt0_19 qt1_19 HS19 HO19 Ta0g19 Ta1g19 Tc0g19 Tc1g19 Tp0g19 Tp1g19 Tt0g19 Tt1g19 G0r19 G1r19 HB19
  have qx0_20 := Lib.hid hnew
  clear hnew
  generalize w11.alloc (.cells #[.int .i64 xx.id, .int .i64 xx.seq, .bool xx.busy, .string xx.last, .int .i64 xx.txn, .int .i64 xx.conn] 78) = V11 at k2_20 k3_20 qa0_20 qa1_20 qc0_20 qc1_20 qp0_20 qp1_20 qt0_20 qt1_20 qx0_20 HS20 HO20 Ta0g20 Ta1g20 Tc0g20 Tc1g20 Tp0g20 Tp1g20 Tt0g20 Tt1g20 G0r20 G1r20 HB20 ⊢
  obtain ⟨bqx0, hbb⟩ : ∃ b, w11.heap.size = b := ⟨_, rfl⟩
  rw [hbb] at qx0_20 ⊢
  clear hbb
  have hc : Calls Try.prog 49 #[.agg #[.int .i64 s.epoch, .slice A1 s.L.length c1, .slice A2 s.H.length c2, .int .i64 s.next, .int .u64 s.now], .int .i64 id] V11 fun e w' => e = .returned (.tuple #[.agg #[.int .i64 xx.id, .int .i64 xx.seq, .bool xx.busy, .string xx.last, .int .i64 xx.txn, .int .i64 xx.conn], .bool bx]) ∧ Below V11.heap.size V11 w' := find49 s.epoch A1 c1 s.L (.slice A2 s.H.length c2) rfl s.next s.now id V11 HS20.out.parts.1.self xx bx HXx.out
  refine hc.mono ?_
  rintro e w12 ⟨rfl, hb⟩
  clear hc
  have k2_21 := Lib.hid (blk_below k2_20.out hb)
  have k3_21 := Lib.hid (blk_below k3_20.out hb)
  have qa0_21 := Lib.hid (blk_below qa0_20.out hb)
  have qa1_21 := Lib.hid (blk_below qa1_20.out hb)
  have qc0_21 := Lib.hid (blk_below qc0_20.out hb)
  have qc1_21 := Lib.hid (blk_below qc1_20.out hb)
  have qp0_21 := Lib.hid (blk_below qp0_20.out hb)
  have qp1_21 := Lib.hid (blk_below qp1_20.out hb)
  have qt0_21 := Lib.hid (blk_below qt0_20.out hb)
  have qt1_21 := Lib.hid (blk_below qt1_20.out hb)
  have qx0_21 := Lib.hid (blk_below qx0_20.out hb)
  have HS21 := Lib.hid (HS20.out.below hb)
  have HO21 := Lib.hid (HO20.out.below hb)
  have Ta0g21 := Lib.hid (Ta0g20.out.below hb)
  have Ta1g21 := Lib.hid (Ta1g20.out.below hb)
  have Tc0g21 := Lib.hid (Tc0g20.out.below hb)
  have Tc1g21 := Lib.hid (Tc1g20.out.below hb)
  have Tp0g21 := Lib.hid (Tp0g20.out.below hb)
  have Tp1g21 := Lib.hid (Tp1g20.out.below hb)
  have Tt0g21 := Lib.hid (Tt0g20.out.below hb)
  have Tt1g21 := Lib.hid (Tt1g20.out.below hb)
  have G0r21 := Lib.hid (Kd.C_below G0r20.out hb)
  have G1r21 := Lib.hid (Kd.C_below G1r20.out hb)
  have HB21 := Lib.hid (HB20.out.trans (Below.mono hb HB20.out.size))
  clear k2_20 k3_20 qa0_20 qa1_20 qc0_20 qc1_20 qp0_20 qp1_20 qt0_20 qt1_20 qx0_20 HS20 HO20 Ta0g20 Ta1g20 Tc0g20 Tc1g20 Tp0g20 Tp1g20 Tt0g20 Tt1g20 G0r20 G1r20 HB20
  clear hb
  have rk2 := blk_cells k2_21.out
  have rk3 := blk_cells k3_21.out
  have Bc := bl_refl w12
  go_wp2_with fail
  clear rk2 rk3 Bc
  have hnew := blk_new w12 (.cells #[.int .i64 xx.id, .int .i64 xx.seq, .bool xx.busy, .string xx.last, .int .i64 xx.txn, .int .i64 xx.conn] 78)
  have k2_22 := Lib.hid (blk_below k2_21.out (bl_alloc (.cells #[.int .i64 xx.id, .int .i64 xx.seq, .bool xx.busy, .string xx.last, .int .i64 xx.txn, .int .i64 xx.conn] 78) (bl_refl w12)))
  have k3_22 := Lib.hid (blk_below k3_21.out (bl_alloc (.cells #[.int .i64 xx.id, .int .i64 xx.seq, .bool xx.busy, .string xx.last, .int .i64 xx.txn, .int .i64 xx.conn] 78) (bl_refl w12)))
  have qa0_22 := Lib.hid (blk_below qa0_21.out (bl_alloc (.cells #[.int .i64 xx.id, .int .i64 xx.seq, .bool xx.busy, .string xx.last, .int .i64 xx.txn, .int .i64 xx.conn] 78) (bl_refl w12)))
  have qa1_22 := Lib.hid (blk_below qa1_21.out (bl_alloc (.cells #[.int .i64 xx.id, .int .i64 xx.seq, .bool xx.busy, .string xx.last, .int .i64 xx.txn, .int .i64 xx.conn] 78) (bl_refl w12)))
  have qc0_22 := Lib.hid (blk_below qc0_21.out (bl_alloc (.cells #[.int .i64 xx.id, .int .i64 xx.seq, .bool xx.busy, .string xx.last, .int .i64 xx.txn, .int .i64 xx.conn] 78) (bl_refl w12)))
  have qc1_22 := Lib.hid (blk_below qc1_21.out (bl_alloc (.cells #[.int .i64 xx.id, .int .i64 xx.seq, .bool xx.busy, .string xx.last, .int .i64 xx.txn, .int .i64 xx.conn] 78) (bl_refl w12)))
  have qp0_22 := Lib.hid (blk_below qp0_21.out (bl_alloc (.cells #[.int .i64 xx.id, .int .i64 xx.seq, .bool xx.busy, .string xx.last, .int .i64 xx.txn, .int .i64 xx.conn] 78) (bl_refl w12)))
  have qp1_22 := Lib.hid (blk_below qp1_21.out (bl_alloc (.cells #[.int .i64 xx.id, .int .i64 xx.seq, .bool xx.busy, .string xx.last, .int .i64 xx.txn, .int .i64 xx.conn] 78) (bl_refl w12)))
  have qt0_22 := Lib.hid (blk_below qt0_21.out (bl_alloc (.cells #[.int .i64 xx.id, .int .i64 xx.seq, .bool xx.busy, .string xx.last, .int .i64 xx.txn, .int .i64 xx.conn] 78) (bl_refl w12)))
  have qt1_22 := Lib.hid (blk_below qt1_21.out (bl_alloc (.cells #[.int .i64 xx.id, .int .i64 xx.seq, .bool xx.busy, .string xx.last, .int .i64 xx.txn, .int .i64 xx.conn] 78) (bl_refl w12)))
  have qx0_22 := Lib.hid (blk_below qx0_21.out (bl_alloc (.cells #[.int .i64 xx.id, .int .i64 xx.seq, .bool xx.busy, .string xx.last, .int .i64 xx.txn, .int .i64 xx.conn] 78) (bl_refl w12)))
  have HS22 := Lib.hid (HS21.out.below (bl_alloc (.cells #[.int .i64 xx.id, .int .i64 xx.seq, .bool xx.busy, .string xx.last, .int .i64 xx.txn, .int .i64 xx.conn] 78) (bl_refl w12)))
  have HO22 := Lib.hid (HO21.out.below (bl_alloc (.cells #[.int .i64 xx.id, .int .i64 xx.seq, .bool xx.busy, .string xx.last, .int .i64 xx.txn, .int .i64 xx.conn] 78) (bl_refl w12)))
  have Ta0g22 := Lib.hid (Ta0g21.out.below (bl_alloc (.cells #[.int .i64 xx.id, .int .i64 xx.seq, .bool xx.busy, .string xx.last, .int .i64 xx.txn, .int .i64 xx.conn] 78) (bl_refl w12)))
  have Ta1g22 := Lib.hid (Ta1g21.out.below (bl_alloc (.cells #[.int .i64 xx.id, .int .i64 xx.seq, .bool xx.busy, .string xx.last, .int .i64 xx.txn, .int .i64 xx.conn] 78) (bl_refl w12)))
  have Tc0g22 := Lib.hid (Tc0g21.out.below (bl_alloc (.cells #[.int .i64 xx.id, .int .i64 xx.seq, .bool xx.busy, .string xx.last, .int .i64 xx.txn, .int .i64 xx.conn] 78) (bl_refl w12)))
  have Tc1g22 := Lib.hid (Tc1g21.out.below (bl_alloc (.cells #[.int .i64 xx.id, .int .i64 xx.seq, .bool xx.busy, .string xx.last, .int .i64 xx.txn, .int .i64 xx.conn] 78) (bl_refl w12)))
  have Tp0g22 := Lib.hid (Tp0g21.out.below (bl_alloc (.cells #[.int .i64 xx.id, .int .i64 xx.seq, .bool xx.busy, .string xx.last, .int .i64 xx.txn, .int .i64 xx.conn] 78) (bl_refl w12)))
  have Tp1g22 := Lib.hid (Tp1g21.out.below (bl_alloc (.cells #[.int .i64 xx.id, .int .i64 xx.seq, .bool xx.busy, .string xx.last, .int .i64 xx.txn, .int .i64 xx.conn] 78) (bl_refl w12)))
  have Tt0g22 := Lib.hid (Tt0g21.out.below (bl_alloc (.cells #[.int .i64 xx.id, .int .i64 xx.seq, .bool xx.busy, .string xx.last, .int .i64 xx.txn, .int .i64 xx.conn] 78) (bl_refl w12)))
  have Tt1g22 := Lib.hid (Tt1g21.out.below (bl_alloc (.cells #[.int .i64 xx.id, .int .i64 xx.seq, .bool xx.busy, .string xx.last, .int .i64 xx.txn, .int .i64 xx.conn] 78) (bl_refl w12)))
  have G0r22 := Lib.hid (Kd.C_below G0r21.out (bl_alloc (.cells #[.int .i64 xx.id, .int .i64 xx.seq, .bool xx.busy, .string xx.last, .int .i64 xx.txn, .int .i64 xx.conn] 78) (bl_refl w12)))
  have G1r22 := Lib.hid (Kd.C_below G1r21.out (bl_alloc (.cells #[.int .i64 xx.id, .int .i64 xx.seq, .bool xx.busy, .string xx.last, .int .i64 xx.txn, .int .i64 xx.conn] 78) (bl_refl w12)))
  have HB22 := Lib.hid (HB21.out.trans (Below.mono (bl_alloc (.cells #[.int .i64 xx.id, .int .i64 xx.seq, .bool xx.busy, .string xx.last, .int .i64 xx.txn, .int .i64 xx.conn] 78) (bl_refl w12)) HB21.out.size))
  clear k2_21 k3_21 qa0_21 qa1_21 qc0_21 qc1_21 qp0_21 qp1_21 qt0_21 qt1_21 qx0_21 HS21 HO21 Ta0g21 Ta1g21 Tc0g21 Tc1g21 Tp0g21 Tp1g21 Tt0g21 Tt1g21 G0r21 G1r21 HB21
  have qx1_22 := Lib.hid hnew
  clear hnew
  generalize w12.alloc (.cells #[.int .i64 xx.id, .int .i64 xx.seq, .bool xx.busy, .string xx.last, .int .i64 xx.txn, .int .i64 xx.conn] 78) = V12 at k2_22 k3_22 qa0_22 qa1_22 qc0_22 qc1_22 qp0_22 qp1_22 qt0_22 qt1_22 qx0_22 qx1_22 HS22 HO22 Ta0g22 Ta1g22 Tc0g22 Tc1g22 Tp0g22 Tp1g22 Tt0g22 Tt1g22 G0r22 G1r22 HB22 ⊢
  obtain ⟨bqx1, hbb⟩ : ∃ b, w12.heap.size = b := ⟨_, rfl⟩
  rw [hbb] at qx1_22 ⊢
  clear hbb
  obtain ⟨xv, bv, hxv⟩ := fx_ex (isOf conn) s.L
  have HXv := Lib.hid hxv
  clear hxv
  have hc : Calls Try.prog 50 #[.agg #[.int .i64 s.epoch, .slice A1 s.L.length c1, .slice A2 s.H.length c2, .int .i64 s.next, .int .u64 s.now], .int .i64 conn] V12 fun e w' => e = .returned (.tuple #[.agg #[.int .i64 xv.id, .int .i64 xv.seq, .bool xv.busy, .string xv.last, .int .i64 xv.txn, .int .i64 xv.conn], .bool bv]) ∧ Below V12.heap.size V12 w' := of50 s.epoch A1 c1 s.L (.slice A2 s.H.length c2) rfl s.next s.now conn V12 HS22.out.parts.1.self xv bv HXv.out
  refine hc.mono ?_
  rintro e w13 ⟨rfl, hb⟩
  clear hc
  have k2_23 := Lib.hid (blk_below k2_22.out hb)
  have k3_23 := Lib.hid (blk_below k3_22.out hb)
  have qa0_23 := Lib.hid (blk_below qa0_22.out hb)
  have qa1_23 := Lib.hid (blk_below qa1_22.out hb)
  have qc0_23 := Lib.hid (blk_below qc0_22.out hb)
  have qc1_23 := Lib.hid (blk_below qc1_22.out hb)
  have qp0_23 := Lib.hid (blk_below qp0_22.out hb)
  have qp1_23 := Lib.hid (blk_below qp1_22.out hb)
  have qt0_23 := Lib.hid (blk_below qt0_22.out hb)
  have qt1_23 := Lib.hid (blk_below qt1_22.out hb)
  have qx0_23 := Lib.hid (blk_below qx0_22.out hb)
  have qx1_23 := Lib.hid (blk_below qx1_22.out hb)
  have HS23 := Lib.hid (HS22.out.below hb)
  have HO23 := Lib.hid (HO22.out.below hb)
  have Ta0g23 := Lib.hid (Ta0g22.out.below hb)
  have Ta1g23 := Lib.hid (Ta1g22.out.below hb)
  have Tc0g23 := Lib.hid (Tc0g22.out.below hb)
  have Tc1g23 := Lib.hid (Tc1g22.out.below hb)
  have Tp0g23 := Lib.hid (Tp0g22.out.below hb)
  have Tp1g23 := Lib.hid (Tp1g22.out.below hb)
  have Tt0g23 := Lib.hid (Tt0g22.out.below hb)
  have Tt1g23 := Lib.hid (Tt1g22.out.below hb)
  have G0r23 := Lib.hid (Kd.C_below G0r22.out hb)
  have G1r23 := Lib.hid (Kd.C_below G1r22.out hb)
  have HB23 := Lib.hid (HB22.out.trans (Below.mono hb HB22.out.size))
  clear k2_22 k3_22 qa0_22 qa1_22 qc0_22 qc1_22 qp0_22 qp1_22 qt0_22 qt1_22 qx0_22 qx1_22 HS22 HO22 Ta0g22 Ta1g22 Tc0g22 Tc1g22 Tp0g22 Tp1g22 Tt0g22 Tt1g22 G0r22 G1r22 HB22
  clear hb
  have rk2 := blk_cells k2_23.out
  have rk3 := blk_cells k3_23.out
  have Bc := bl_refl w13
  go_wp2_with fail
  clear rk2 rk3 Bc
  have hnew := blk_new w13 (.cells #[.int .i64 xv.id, .int .i64 xv.seq, .bool xv.busy, .string xv.last, .int .i64 xv.txn, .int .i64 xv.conn] 78)
  have k2_24 := Lib.hid (blk_below k2_23.out (bl_alloc (.cells #[.int .i64 xv.id, .int .i64 xv.seq, .bool xv.busy, .string xv.last, .int .i64 xv.txn, .int .i64 xv.conn] 78) (bl_refl w13)))
  have k3_24 := Lib.hid (blk_below k3_23.out (bl_alloc (.cells #[.int .i64 xv.id, .int .i64 xv.seq, .bool xv.busy, .string xv.last, .int .i64 xv.txn, .int .i64 xv.conn] 78) (bl_refl w13)))
  have qa0_24 := Lib.hid (blk_below qa0_23.out (bl_alloc (.cells #[.int .i64 xv.id, .int .i64 xv.seq, .bool xv.busy, .string xv.last, .int .i64 xv.txn, .int .i64 xv.conn] 78) (bl_refl w13)))
  have qa1_24 := Lib.hid (blk_below qa1_23.out (bl_alloc (.cells #[.int .i64 xv.id, .int .i64 xv.seq, .bool xv.busy, .string xv.last, .int .i64 xv.txn, .int .i64 xv.conn] 78) (bl_refl w13)))
  have qc0_24 := Lib.hid (blk_below qc0_23.out (bl_alloc (.cells #[.int .i64 xv.id, .int .i64 xv.seq, .bool xv.busy, .string xv.last, .int .i64 xv.txn, .int .i64 xv.conn] 78) (bl_refl w13)))
  have qc1_24 := Lib.hid (blk_below qc1_23.out (bl_alloc (.cells #[.int .i64 xv.id, .int .i64 xv.seq, .bool xv.busy, .string xv.last, .int .i64 xv.txn, .int .i64 xv.conn] 78) (bl_refl w13)))
  have qp0_24 := Lib.hid (blk_below qp0_23.out (bl_alloc (.cells #[.int .i64 xv.id, .int .i64 xv.seq, .bool xv.busy, .string xv.last, .int .i64 xv.txn, .int .i64 xv.conn] 78) (bl_refl w13)))
  have qp1_24 := Lib.hid (blk_below qp1_23.out (bl_alloc (.cells #[.int .i64 xv.id, .int .i64 xv.seq, .bool xv.busy, .string xv.last, .int .i64 xv.txn, .int .i64 xv.conn] 78) (bl_refl w13)))
  have qt0_24 := Lib.hid (blk_below qt0_23.out (bl_alloc (.cells #[.int .i64 xv.id, .int .i64 xv.seq, .bool xv.busy, .string xv.last, .int .i64 xv.txn, .int .i64 xv.conn] 78) (bl_refl w13)))
  have qt1_24 := Lib.hid (blk_below qt1_23.out (bl_alloc (.cells #[.int .i64 xv.id, .int .i64 xv.seq, .bool xv.busy, .string xv.last, .int .i64 xv.txn, .int .i64 xv.conn] 78) (bl_refl w13)))
  have qx0_24 := Lib.hid (blk_below qx0_23.out (bl_alloc (.cells #[.int .i64 xv.id, .int .i64 xv.seq, .bool xv.busy, .string xv.last, .int .i64 xv.txn, .int .i64 xv.conn] 78) (bl_refl w13)))
  have qx1_24 := Lib.hid (blk_below qx1_23.out (bl_alloc (.cells #[.int .i64 xv.id, .int .i64 xv.seq, .bool xv.busy, .string xv.last, .int .i64 xv.txn, .int .i64 xv.conn] 78) (bl_refl w13)))
  have HS24 := Lib.hid (HS23.out.below (bl_alloc (.cells #[.int .i64 xv.id, .int .i64 xv.seq, .bool xv.busy, .string xv.last, .int .i64 xv.txn, .int .i64 xv.conn] 78) (bl_refl w13)))
  have HO24 := Lib.hid (HO23.out.below (bl_alloc (.cells #[.int .i64 xv.id, .int .i64 xv.seq, .bool xv.busy, .string xv.last, .int .i64 xv.txn, .int .i64 xv.conn] 78) (bl_refl w13)))
  have Ta0g24 := Lib.hid (Ta0g23.out.below (bl_alloc (.cells #[.int .i64 xv.id, .int .i64 xv.seq, .bool xv.busy, .string xv.last, .int .i64 xv.txn, .int .i64 xv.conn] 78) (bl_refl w13)))
  have Ta1g24 := Lib.hid (Ta1g23.out.below (bl_alloc (.cells #[.int .i64 xv.id, .int .i64 xv.seq, .bool xv.busy, .string xv.last, .int .i64 xv.txn, .int .i64 xv.conn] 78) (bl_refl w13)))
  have Tc0g24 := Lib.hid (Tc0g23.out.below (bl_alloc (.cells #[.int .i64 xv.id, .int .i64 xv.seq, .bool xv.busy, .string xv.last, .int .i64 xv.txn, .int .i64 xv.conn] 78) (bl_refl w13)))
  have Tc1g24 := Lib.hid (Tc1g23.out.below (bl_alloc (.cells #[.int .i64 xv.id, .int .i64 xv.seq, .bool xv.busy, .string xv.last, .int .i64 xv.txn, .int .i64 xv.conn] 78) (bl_refl w13)))
  have Tp0g24 := Lib.hid (Tp0g23.out.below (bl_alloc (.cells #[.int .i64 xv.id, .int .i64 xv.seq, .bool xv.busy, .string xv.last, .int .i64 xv.txn, .int .i64 xv.conn] 78) (bl_refl w13)))
  have Tp1g24 := Lib.hid (Tp1g23.out.below (bl_alloc (.cells #[.int .i64 xv.id, .int .i64 xv.seq, .bool xv.busy, .string xv.last, .int .i64 xv.txn, .int .i64 xv.conn] 78) (bl_refl w13)))
  have Tt0g24 := Lib.hid (Tt0g23.out.below (bl_alloc (.cells #[.int .i64 xv.id, .int .i64 xv.seq, .bool xv.busy, .string xv.last, .int .i64 xv.txn, .int .i64 xv.conn] 78) (bl_refl w13)))
  have Tt1g24 := Lib.hid (Tt1g23.out.below (bl_alloc (.cells #[.int .i64 xv.id, .int .i64 xv.seq, .bool xv.busy, .string xv.last, .int .i64 xv.txn, .int .i64 xv.conn] 78) (bl_refl w13)))
  have G0r24 := Lib.hid (Kd.C_below G0r23.out (bl_alloc (.cells #[.int .i64 xv.id, .int .i64 xv.seq, .bool xv.busy, .string xv.last, .int .i64 xv.txn, .int .i64 xv.conn] 78) (bl_refl w13)))
  have G1r24 := Lib.hid (Kd.C_below G1r23.out (bl_alloc (.cells #[.int .i64 xv.id, .int .i64 xv.seq, .bool xv.busy, .string xv.last, .int .i64 xv.txn, .int .i64 xv.conn] 78) (bl_refl w13)))
  have HB24 := Lib.hid (HB23.out.trans (Below.mono (bl_alloc (.cells #[.int .i64 xv.id, .int .i64 xv.seq, .bool xv.busy, .string xv.last, .int .i64 xv.txn, .int .i64 xv.conn] 78) (bl_refl w13)) HB23.out.size))
  clear k2_23 k3_23 qa0_23 qa1_23 qc0_23 qc1_23 qp0_23 qp1_23 qt0_23 qt1_23 qx0_23 qx1_23 HS23 HO23 Ta0g23 Ta1g23 Tc0g23 Tc1g23 Tp0g23 Tp1g23 Tt0g23 Tt1g23 G0r23 G1r23 HB23
  have qv0_24 := Lib.hid hnew
  clear hnew
  generalize w13.alloc (.cells #[.int .i64 xv.id, .int .i64 xv.seq, .bool xv.busy, .string xv.last, .int .i64 xv.txn, .int .i64 xv.conn] 78) = V13 at k2_24 k3_24 qa0_24 qa1_24 qc0_24 qc1_24 qp0_24 qp1_24 qt0_24 qt1_24 qx0_24 qx1_24 qv0_24 HS24 HO24 Ta0g24 Ta1g24 Tc0g24 Tc1g24 Tp0g24 Tp1g24 Tt0g24 Tt1g24 G0r24 G1r24 HB24 ⊢
  obtain ⟨bqv0, hbb⟩ : ∃ b, w13.heap.size = b := ⟨_, rfl⟩
  rw [hbb] at qv0_24 ⊢
  clear hbb
  have hc : Calls Try.prog 51 #[.agg #[.int .i64 s.epoch, .slice A1 s.L.length c1, .slice A2 s.H.length c2, .int .i64 s.next, .int .u64 s.now], .int .i64 conn] V13 fun e w' => e = .returned (.tuple #[.agg #[.int .i64 xv.id, .int .i64 xv.seq, .bool xv.busy, .string xv.last, .int .i64 xv.txn, .int .i64 xv.conn], .bool bv]) ∧ Below V13.heap.size V13 w' := of51 s.epoch A1 c1 s.L (.slice A2 s.H.length c2) rfl s.next s.now conn V13 HS24.out.parts.1.self xv bv HXv.out
  refine hc.mono ?_
  rintro e w14 ⟨rfl, hb⟩
  clear hc
  have k2_25 := Lib.hid (blk_below k2_24.out hb)
  have k3_25 := Lib.hid (blk_below k3_24.out hb)
  have qa0_25 := Lib.hid (blk_below qa0_24.out hb)
  have qa1_25 := Lib.hid (blk_below qa1_24.out hb)
  have qc0_25 := Lib.hid (blk_below qc0_24.out hb)
  have qc1_25 := Lib.hid (blk_below qc1_24.out hb)
  have qp0_25 := Lib.hid (blk_below qp0_24.out hb)
  have qp1_25 := Lib.hid (blk_below qp1_24.out hb)
  have qt0_25 := Lib.hid (blk_below qt0_24.out hb)
  have qt1_25 := Lib.hid (blk_below qt1_24.out hb)
  have qx0_25 := Lib.hid (blk_below qx0_24.out hb)
  have qx1_25 := Lib.hid (blk_below qx1_24.out hb)
  have qv0_25 := Lib.hid (blk_below qv0_24.out hb)
  have HS25 := Lib.hid (HS24.out.below hb)
  have HO25 := Lib.hid (HO24.out.below hb)
  have Ta0g25 := Lib.hid (Ta0g24.out.below hb)
  have Ta1g25 := Lib.hid (Ta1g24.out.below hb)
  have Tc0g25 := Lib.hid (Tc0g24.out.below hb)
  have Tc1g25 := Lib.hid (Tc1g24.out.below hb)
  have Tp0g25 := Lib.hid (Tp0g24.out.below hb)
  have Tp1g25 := Lib.hid (Tp1g24.out.below hb)
  have Tt0g25 := Lib.hid (Tt0g24.out.below hb)
  have Tt1g25 := Lib.hid (Tt1g24.out.below hb)
  have G0r25 := Lib.hid (Kd.C_below G0r24.out hb)
  have G1r25 := Lib.hid (Kd.C_below G1r24.out hb)
  have HB25 := Lib.hid (HB24.out.trans (Below.mono hb HB24.out.size))
  clear k2_24 k3_24 qa0_24 qa1_24 qc0_24 qc1_24 qp0_24 qp1_24 qt0_24 qt1_24 qx0_24 qx1_24 qv0_24 HS24 HO24 Ta0g24 Ta1g24 Tc0g24 Tc1g24 Tp0g24 Tp1g24 Tt0g24 Tt1g24 G0r24 G1r24 HB24
  clear hb
  have rk2 := blk_cells k2_25.out
  have rk3 := blk_cells k3_25.out
  have Bc := bl_refl w14
  go_wp2_with ((with_reducible refine gate_dst (N := 135) rfl ?_); refine Stop.go ?_)
  clear rk2 rk3 Bc
  have hnew := blk_new w14 (.cells #[.int .i64 xv.id, .int .i64 xv.seq, .bool xv.busy, .string xv.last, .int .i64 xv.txn, .int .i64 xv.conn] 78)
  have k2_26 := Lib.hid (blk_below k2_25.out (bl_alloc (.cells #[.int .i64 xv.id, .int .i64 xv.seq, .bool xv.busy, .string xv.last, .int .i64 xv.txn, .int .i64 xv.conn] 78) (bl_refl w14)))
  have k3_26 := Lib.hid (blk_below k3_25.out (bl_alloc (.cells #[.int .i64 xv.id, .int .i64 xv.seq, .bool xv.busy, .string xv.last, .int .i64 xv.txn, .int .i64 xv.conn] 78) (bl_refl w14)))
  have qa0_26 := Lib.hid (blk_below qa0_25.out (bl_alloc (.cells #[.int .i64 xv.id, .int .i64 xv.seq, .bool xv.busy, .string xv.last, .int .i64 xv.txn, .int .i64 xv.conn] 78) (bl_refl w14)))
  have qa1_26 := Lib.hid (blk_below qa1_25.out (bl_alloc (.cells #[.int .i64 xv.id, .int .i64 xv.seq, .bool xv.busy, .string xv.last, .int .i64 xv.txn, .int .i64 xv.conn] 78) (bl_refl w14)))
  have qc0_26 := Lib.hid (blk_below qc0_25.out (bl_alloc (.cells #[.int .i64 xv.id, .int .i64 xv.seq, .bool xv.busy, .string xv.last, .int .i64 xv.txn, .int .i64 xv.conn] 78) (bl_refl w14)))
  have qc1_26 := Lib.hid (blk_below qc1_25.out (bl_alloc (.cells #[.int .i64 xv.id, .int .i64 xv.seq, .bool xv.busy, .string xv.last, .int .i64 xv.txn, .int .i64 xv.conn] 78) (bl_refl w14)))
  have qp0_26 := Lib.hid (blk_below qp0_25.out (bl_alloc (.cells #[.int .i64 xv.id, .int .i64 xv.seq, .bool xv.busy, .string xv.last, .int .i64 xv.txn, .int .i64 xv.conn] 78) (bl_refl w14)))
  have qp1_26 := Lib.hid (blk_below qp1_25.out (bl_alloc (.cells #[.int .i64 xv.id, .int .i64 xv.seq, .bool xv.busy, .string xv.last, .int .i64 xv.txn, .int .i64 xv.conn] 78) (bl_refl w14)))
  have qt0_26 := Lib.hid (blk_below qt0_25.out (bl_alloc (.cells #[.int .i64 xv.id, .int .i64 xv.seq, .bool xv.busy, .string xv.last, .int .i64 xv.txn, .int .i64 xv.conn] 78) (bl_refl w14)))
  have qt1_26 := Lib.hid (blk_below qt1_25.out (bl_alloc (.cells #[.int .i64 xv.id, .int .i64 xv.seq, .bool xv.busy, .string xv.last, .int .i64 xv.txn, .int .i64 xv.conn] 78) (bl_refl w14)))
  have qx0_26 := Lib.hid (blk_below qx0_25.out (bl_alloc (.cells #[.int .i64 xv.id, .int .i64 xv.seq, .bool xv.busy, .string xv.last, .int .i64 xv.txn, .int .i64 xv.conn] 78) (bl_refl w14)))
  have qx1_26 := Lib.hid (blk_below qx1_25.out (bl_alloc (.cells #[.int .i64 xv.id, .int .i64 xv.seq, .bool xv.busy, .string xv.last, .int .i64 xv.txn, .int .i64 xv.conn] 78) (bl_refl w14)))
  have qv0_26 := Lib.hid (blk_below qv0_25.out (bl_alloc (.cells #[.int .i64 xv.id, .int .i64 xv.seq, .bool xv.busy, .string xv.last, .int .i64 xv.txn, .int .i64 xv.conn] 78) (bl_refl w14)))
  have HS26 := Lib.hid (HS25.out.below (bl_alloc (.cells #[.int .i64 xv.id, .int .i64 xv.seq, .bool xv.busy, .string xv.last, .int .i64 xv.txn, .int .i64 xv.conn] 78) (bl_refl w14)))
  have HO26 := Lib.hid (HO25.out.below (bl_alloc (.cells #[.int .i64 xv.id, .int .i64 xv.seq, .bool xv.busy, .string xv.last, .int .i64 xv.txn, .int .i64 xv.conn] 78) (bl_refl w14)))
  have Ta0g26 := Lib.hid (Ta0g25.out.below (bl_alloc (.cells #[.int .i64 xv.id, .int .i64 xv.seq, .bool xv.busy, .string xv.last, .int .i64 xv.txn, .int .i64 xv.conn] 78) (bl_refl w14)))
  have Ta1g26 := Lib.hid (Ta1g25.out.below (bl_alloc (.cells #[.int .i64 xv.id, .int .i64 xv.seq, .bool xv.busy, .string xv.last, .int .i64 xv.txn, .int .i64 xv.conn] 78) (bl_refl w14)))
  have Tc0g26 := Lib.hid (Tc0g25.out.below (bl_alloc (.cells #[.int .i64 xv.id, .int .i64 xv.seq, .bool xv.busy, .string xv.last, .int .i64 xv.txn, .int .i64 xv.conn] 78) (bl_refl w14)))
  have Tc1g26 := Lib.hid (Tc1g25.out.below (bl_alloc (.cells #[.int .i64 xv.id, .int .i64 xv.seq, .bool xv.busy, .string xv.last, .int .i64 xv.txn, .int .i64 xv.conn] 78) (bl_refl w14)))
  have Tp0g26 := Lib.hid (Tp0g25.out.below (bl_alloc (.cells #[.int .i64 xv.id, .int .i64 xv.seq, .bool xv.busy, .string xv.last, .int .i64 xv.txn, .int .i64 xv.conn] 78) (bl_refl w14)))
  have Tp1g26 := Lib.hid (Tp1g25.out.below (bl_alloc (.cells #[.int .i64 xv.id, .int .i64 xv.seq, .bool xv.busy, .string xv.last, .int .i64 xv.txn, .int .i64 xv.conn] 78) (bl_refl w14)))
  have Tt0g26 := Lib.hid (Tt0g25.out.below (bl_alloc (.cells #[.int .i64 xv.id, .int .i64 xv.seq, .bool xv.busy, .string xv.last, .int .i64 xv.txn, .int .i64 xv.conn] 78) (bl_refl w14)))
  have Tt1g26 := Lib.hid (Tt1g25.out.below (bl_alloc (.cells #[.int .i64 xv.id, .int .i64 xv.seq, .bool xv.busy, .string xv.last, .int .i64 xv.txn, .int .i64 xv.conn] 78) (bl_refl w14)))
  have G0r26 := Lib.hid (Kd.C_below G0r25.out (bl_alloc (.cells #[.int .i64 xv.id, .int .i64 xv.seq, .bool xv.busy, .string xv.last, .int .i64 xv.txn, .int .i64 xv.conn] 78) (bl_refl w14)))
  have G1r26 := Lib.hid (Kd.C_below G1r25.out (bl_alloc (.cells #[.int .i64 xv.id, .int .i64 xv.seq, .bool xv.busy, .string xv.last, .int .i64 xv.txn, .int .i64 xv.conn] 78) (bl_refl w14)))
  have HB26 := Lib.hid (HB25.out.trans (Below.mono (bl_alloc (.cells #[.int .i64 xv.id, .int .i64 xv.seq, .bool xv.busy, .string xv.last, .int .i64 xv.txn, .int .i64 xv.conn] 78) (bl_refl w14)) HB25.out.size))
  clear k2_25 k3_25 qa0_25 qa1_25 qc0_25 qc1_25 qp0_25 qp1_25 qt0_25 qt1_25 qx0_25 qx1_25 qv0_25 HS25 HO25 Ta0g25 Ta1g25 Tc0g25 Tc1g25 Tp0g25 Tp1g25 Tt0g25 Tt1g25 G0r25 G1r25 HB25
  have qv1_26 := Lib.hid hnew
  clear hnew
  generalize w14.alloc (.cells #[.int .i64 xv.id, .int .i64 xv.seq, .bool xv.busy, .string xv.last, .int .i64 xv.txn, .int .i64 xv.conn] 78) = V14 at k2_26 k3_26 qa0_26 qa1_26 qc0_26 qc1_26 qp0_26 qp1_26 qt0_26 qt1_26 qx0_26 qx1_26 qv0_26 qv1_26 HS26 HO26 Ta0g26 Ta1g26 Tc0g26 Tc1g26 Tp0g26 Tp1g26 Tt0g26 Tt1g26 G0r26 G1r26 HB26 ⊢
  obtain ⟨bqv1, hbb⟩ : ∃ b, w14.heap.size = b := ⟨_, rfl⟩
  rw [hbb] at qv1_26 ⊢
  clear hbb
  refine ⟨?_⟩
  have rqa0 := blk_cells qa0_26.out
  have rqa1 := blk_cells qa1_26.out
  have rqc0 := blk_cells qc0_26.out
  have rqc1 := blk_cells qc1_26.out
  have rqp0 := blk_cells qp0_26.out
  have rqp1 := blk_cells qp1_26.out
  have rqt0 := blk_cells qt0_26.out
  have rqt1 := blk_cells qt1_26.out
  have rqx0 := blk_cells qx0_26.out
  have rqx1 := blk_cells qx1_26.out
  have rqv0 := blk_cells qv0_26.out
  have rqv1 := blk_cells qv1_26.out
  have Bc := bl_refl V14
  go_wp2_with fail
  clear rqa0 rqa1 rqc0 rqc1 rqp0 rqp1 rqt0 rqt1 rqx0 rqx1 rqv0 rqv1 Bc
  refine (same27 _ _ _ _ so V14 Ta0g26.out Ta1g26.out).mono ?_
  rintro e w15 ⟨rfl, hb⟩
  have k2_27 := Lib.hid (blk_below k2_26.out hb)
  have k3_27 := Lib.hid (blk_below k3_26.out hb)
  have qa0_27 := Lib.hid (blk_below qa0_26.out hb)
  have qa1_27 := Lib.hid (blk_below qa1_26.out hb)
  have qc0_27 := Lib.hid (blk_below qc0_26.out hb)
  have qc1_27 := Lib.hid (blk_below qc1_26.out hb)
  have qp0_27 := Lib.hid (blk_below qp0_26.out hb)
  have qp1_27 := Lib.hid (blk_below qp1_26.out hb)
  have qt0_27 := Lib.hid (blk_below qt0_26.out hb)
  have qt1_27 := Lib.hid (blk_below qt1_26.out hb)
  have qx0_27 := Lib.hid (blk_below qx0_26.out hb)
  have qx1_27 := Lib.hid (blk_below qx1_26.out hb)
  have qv0_27 := Lib.hid (blk_below qv0_26.out hb)
  have qv1_27 := Lib.hid (blk_below qv1_26.out hb)
  have HS27 := Lib.hid (HS26.out.below hb)
  have HO27 := Lib.hid (HO26.out.below hb)
  have Ta0g27 := Lib.hid (Ta0g26.out.below hb)
  have Ta1g27 := Lib.hid (Ta1g26.out.below hb)
  have Tc0g27 := Lib.hid (Tc0g26.out.below hb)
  have Tc1g27 := Lib.hid (Tc1g26.out.below hb)
  have Tp0g27 := Lib.hid (Tp0g26.out.below hb)
  have Tp1g27 := Lib.hid (Tp1g26.out.below hb)
  have Tt0g27 := Lib.hid (Tt0g26.out.below hb)
  have Tt1g27 := Lib.hid (Tt1g26.out.below hb)
  have G0r27 := Lib.hid (Kd.C_below G0r26.out hb)
  have G1r27 := Lib.hid (Kd.C_below G1r26.out hb)
  have HB27 := Lib.hid (HB26.out.trans (Below.mono hb HB26.out.size))
  clear k2_26 k3_26 qa0_26 qa1_26 qc0_26 qc1_26 qp0_26 qp1_26 qt0_26 qt1_26 qx0_26 qx1_26 qv0_26 qv1_26 HS26 HO26 Ta0g26 Ta1g26 Tc0g26 Tc1g26 Tp0g26 Tp1g26 Tt0g26 Tt1g26 G0r26 G1r26 HB26
  clear hb
  have rqa0 := blk_cells qa0_27.out
  have rqa1 := blk_cells qa1_27.out
  have rqc0 := blk_cells qc0_27.out
  have rqc1 := blk_cells qc1_27.out
  have rqp0 := blk_cells qp0_27.out
  have rqp1 := blk_cells qp1_27.out
  have rqt0 := blk_cells qt0_27.out
  have rqt1 := blk_cells qt1_27.out
  have rqx0 := blk_cells qx0_27.out
  have rqx1 := blk_cells qx1_27.out
  have rqv0 := blk_cells qv0_27.out
  have rqv1 := blk_cells qv1_27.out
  have Bc := bl_refl w15
  go_wp2_with fail
  clear rqa0 rqa1 rqc0 rqc1 rqp0 rqp1 rqt0 rqt1 rqx0 rqx1 rqv0 rqv1 Bc
  refine (same27 _ _ _ _ sr w15 Tc0g27.out Tc1g27.out).mono ?_
  rintro e w16 ⟨rfl, hb⟩
  have k2_28 := Lib.hid (blk_below k2_27.out hb)
  have k3_28 := Lib.hid (blk_below k3_27.out hb)
  have qa0_28 := Lib.hid (blk_below qa0_27.out hb)
  have qa1_28 := Lib.hid (blk_below qa1_27.out hb)
  have qc0_28 := Lib.hid (blk_below qc0_27.out hb)
  have qc1_28 := Lib.hid (blk_below qc1_27.out hb)
  have qp0_28 := Lib.hid (blk_below qp0_27.out hb)
  have qp1_28 := Lib.hid (blk_below qp1_27.out hb)
  have qt0_28 := Lib.hid (blk_below qt0_27.out hb)
  have qt1_28 := Lib.hid (blk_below qt1_27.out hb)
  have qx0_28 := Lib.hid (blk_below qx0_27.out hb)
  have qx1_28 := Lib.hid (blk_below qx1_27.out hb)
  have qv0_28 := Lib.hid (blk_below qv0_27.out hb)
  have qv1_28 := Lib.hid (blk_below qv1_27.out hb)
  have HS28 := Lib.hid (HS27.out.below hb)
  have HO28 := Lib.hid (HO27.out.below hb)
  have Ta0g28 := Lib.hid (Ta0g27.out.below hb)
  have Ta1g28 := Lib.hid (Ta1g27.out.below hb)
  have Tc0g28 := Lib.hid (Tc0g27.out.below hb)
  have Tc1g28 := Lib.hid (Tc1g27.out.below hb)
  have Tp0g28 := Lib.hid (Tp0g27.out.below hb)
  have Tp1g28 := Lib.hid (Tp1g27.out.below hb)
  have Tt0g28 := Lib.hid (Tt0g27.out.below hb)
  have Tt1g28 := Lib.hid (Tt1g27.out.below hb)
  have G0r28 := Lib.hid (Kd.C_below G0r27.out hb)
  have G1r28 := Lib.hid (Kd.C_below G1r27.out hb)
  have HB28 := Lib.hid (HB27.out.trans (Below.mono hb HB27.out.size))
  clear k2_27 k3_27 qa0_27 qa1_27 qc0_27 qc1_27 qp0_27 qp1_27 qt0_27 qt1_27 qx0_27 qx1_27 qv0_27 qv1_27 HS27 HO27 Ta0g27 Ta1g27 Tc0g27 Tc1g27 Tp0g27 Tp1g27 Tt0g27 Tt1g27 G0r27 G1r27 HB27
  clear hb
  have rqa0 := blk_cells qa0_28.out
  have rqa1 := blk_cells qa1_28.out
  have rqc0 := blk_cells qc0_28.out
  have rqc1 := blk_cells qc1_28.out
  have rqp0 := blk_cells qp0_28.out
  have rqp1 := blk_cells qp1_28.out
  have rqt0 := blk_cells qt0_28.out
  have rqt1 := blk_cells qt1_28.out
  have rqx0 := blk_cells qx0_28.out
  have rqx1 := blk_cells qx1_28.out
  have rqv0 := blk_cells qv0_28.out
  have rqv1 := blk_cells qv1_28.out
  have Bc := bl_refl w16
  go_wp2_with fail
  clear rqa0 rqa1 rqc0 rqc1 rqp0 rqp1 rqt0 rqt1 rqx0 rqx1 rqv0 rqv1 Bc
  refine (same27 _ _ _ _ sc w16 Tp0g28.out Tp1g28.out).mono ?_
  rintro e w17 ⟨rfl, hb⟩
  have k2_29 := Lib.hid (blk_below k2_28.out hb)
  have k3_29 := Lib.hid (blk_below k3_28.out hb)
  have qa0_29 := Lib.hid (blk_below qa0_28.out hb)
  have qa1_29 := Lib.hid (blk_below qa1_28.out hb)
  have qc0_29 := Lib.hid (blk_below qc0_28.out hb)
  have qc1_29 := Lib.hid (blk_below qc1_28.out hb)
  have qp0_29 := Lib.hid (blk_below qp0_28.out hb)
  have qp1_29 := Lib.hid (blk_below qp1_28.out hb)
  have qt0_29 := Lib.hid (blk_below qt0_28.out hb)
  have qt1_29 := Lib.hid (blk_below qt1_28.out hb)
  have qx0_29 := Lib.hid (blk_below qx0_28.out hb)
  have qx1_29 := Lib.hid (blk_below qx1_28.out hb)
  have qv0_29 := Lib.hid (blk_below qv0_28.out hb)
  have qv1_29 := Lib.hid (blk_below qv1_28.out hb)
  have HS29 := Lib.hid (HS28.out.below hb)
  have HO29 := Lib.hid (HO28.out.below hb)
  have Ta0g29 := Lib.hid (Ta0g28.out.below hb)
  have Ta1g29 := Lib.hid (Ta1g28.out.below hb)
  have Tc0g29 := Lib.hid (Tc0g28.out.below hb)
  have Tc1g29 := Lib.hid (Tc1g28.out.below hb)
  have Tp0g29 := Lib.hid (Tp0g28.out.below hb)
  have Tp1g29 := Lib.hid (Tp1g28.out.below hb)
  have Tt0g29 := Lib.hid (Tt0g28.out.below hb)
  have Tt1g29 := Lib.hid (Tt1g28.out.below hb)
  have G0r29 := Lib.hid (Kd.C_below G0r28.out hb)
  have G1r29 := Lib.hid (Kd.C_below G1r28.out hb)
  have HB29 := Lib.hid (HB28.out.trans (Below.mono hb HB28.out.size))
  clear k2_28 k3_28 qa0_28 qa1_28 qc0_28 qc1_28 qp0_28 qp1_28 qt0_28 qt1_28 qx0_28 qx1_28 qv0_28 qv1_28 HS28 HO28 Ta0g28 Ta1g28 Tc0g28 Tc1g28 Tp0g28 Tp1g28 Tt0g28 Tt1g28 G0r28 G1r28 HB28
  clear hb
  have rqa0 := blk_cells qa0_29.out
  have rqa1 := blk_cells qa1_29.out
  have rqc0 := blk_cells qc0_29.out
  have rqc1 := blk_cells qc1_29.out
  have rqp0 := blk_cells qp0_29.out
  have rqp1 := blk_cells qp1_29.out
  have rqt0 := blk_cells qt0_29.out
  have rqt1 := blk_cells qt1_29.out
  have rqx0 := blk_cells qx0_29.out
  have rqx1 := blk_cells qx1_29.out
  have rqv0 := blk_cells qv0_29.out
  have rqv1 := blk_cells qv1_29.out
  have Bc := bl_refl w17
  go_wp2_with fail
  clear rqa0 rqa1 rqc0 rqc1 rqp0 rqp1 rqt0 rqt1 rqx0 rqx1 rqv0 rqv1 Bc
  refine (same27 _ _ _ _ st w17 Tt0g29.out Tt1g29.out).mono ?_
  rintro e w18 ⟨rfl, hb⟩
  have k2_30 := Lib.hid (blk_below k2_29.out hb)
  have k3_30 := Lib.hid (blk_below k3_29.out hb)
  have qa0_30 := Lib.hid (blk_below qa0_29.out hb)
  have qa1_30 := Lib.hid (blk_below qa1_29.out hb)
  have qc0_30 := Lib.hid (blk_below qc0_29.out hb)
  have qc1_30 := Lib.hid (blk_below qc1_29.out hb)
  have qp0_30 := Lib.hid (blk_below qp0_29.out hb)
  have qp1_30 := Lib.hid (blk_below qp1_29.out hb)
  have qt0_30 := Lib.hid (blk_below qt0_29.out hb)
  have qt1_30 := Lib.hid (blk_below qt1_29.out hb)
  have qx0_30 := Lib.hid (blk_below qx0_29.out hb)
  have qx1_30 := Lib.hid (blk_below qx1_29.out hb)
  have qv0_30 := Lib.hid (blk_below qv0_29.out hb)
  have qv1_30 := Lib.hid (blk_below qv1_29.out hb)
  have HS30 := Lib.hid (HS29.out.below hb)
  have HO30 := Lib.hid (HO29.out.below hb)
  have Ta0g30 := Lib.hid (Ta0g29.out.below hb)
  have Ta1g30 := Lib.hid (Ta1g29.out.below hb)
  have Tc0g30 := Lib.hid (Tc0g29.out.below hb)
  have Tc1g30 := Lib.hid (Tc1g29.out.below hb)
  have Tp0g30 := Lib.hid (Tp0g29.out.below hb)
  have Tp1g30 := Lib.hid (Tp1g29.out.below hb)
  have Tt0g30 := Lib.hid (Tt0g29.out.below hb)
  have Tt1g30 := Lib.hid (Tt1g29.out.below hb)
  have G0r30 := Lib.hid (Kd.C_below G0r29.out hb)
  have G1r30 := Lib.hid (Kd.C_below G1r29.out hb)
  have HB30 := Lib.hid (HB29.out.trans (Below.mono hb HB29.out.size))
  clear k2_29 k3_29 qa0_29 qa1_29 qc0_29 qc1_29 qp0_29 qp1_29 qt0_29 qt1_29 qx0_29 qx1_29 qv0_29 qv1_29 HS29 HO29 Ta0g29 Ta1g29 Tc0g29 Tc1g29 Tp0g29 Tp1g29 Tt0g29 Tt1g29 G0r29 G1r29 HB29
  clear hb
  have rqa0 := blk_cells qa0_30.out
  have rqa1 := blk_cells qa1_30.out
  have rqc0 := blk_cells qc0_30.out
  have rqc1 := blk_cells qc1_30.out
  have rqp0 := blk_cells qp0_30.out
  have rqp1 := blk_cells qp1_30.out
  have rqt0 := blk_cells qt0_30.out
  have rqt1 := blk_cells qt1_30.out
  have rqx0 := blk_cells qx0_30.out
  have rqx1 := blk_cells qx1_30.out
  have rqv0 := blk_cells qv0_30.out
  have rqv1 := blk_cells qv1_30.out
  have Bc := bl_refl w18
  go_wp2
  clear rqa0 rqa1 rqc0 rqc1 rqp0 rqp1 rqt0 rqt1 rqx0 rqx1 rqv0 rqv1 Bc
  obtain ⟨bb, hbb⟩ := eqv_ex s o
  have HBB := Lib.hid hbb
  clear hbb
  have rk2 := blk_cells k2_30.out
  have rk3 := blk_cells k3_30.out
  have Bc := bl_refl w18
  refine start_ (n := 51) (S := fun w' => w'.cell? ⟨w.heap.size + 1, 0, none⟩ = some (.int .i64 s.epoch) ∧ w'.cell? ⟨w.heap.size + 1, 1, none⟩ = some (.slice A1 s.L.length c1) ∧ w'.cell? ⟨w.heap.size + 1, 2, none⟩ = some (.slice A2 s.H.length c2) ∧ w'.cell? ⟨w.heap.size + 1, 3, none⟩ = some (.int .i64 s.next) ∧ w'.cell? ⟨w.heap.size + 1, 4, none⟩ = some (.int .u64 s.now) ∧ w'.cell? ⟨w.heap.size + 2, 0, none⟩ = some (.int .i64 o.epoch) ∧ w'.cell? ⟨w.heap.size + 2, 1, none⟩ = some (.slice A3 o.L.length c3) ∧ w'.cell? ⟨w.heap.size + 2, 2, none⟩ = some (.slice A4 o.H.length c4) ∧ w'.cell? ⟨w.heap.size + 2, 3, none⟩ = some (.int .i64 o.next) ∧ w'.cell? ⟨w.heap.size + 2, 4, none⟩ = some (.int .u64 o.now)) (ds := []) #[false, false, false, false, false, false, false, false, false, false, false, false, false, false, false, false, false, false, false, false, false, false, false, false, false, false, false, false, false, false, false, false, false, false, false, false, false, false, false, false, false, false, false, false, false, false, false, false, false, false, false] (by kernel_rfl) rfl rfl ⟨(rk2 _ 0 (bl_drew (bl_refl w18))), (rk2 _ 1 (bl_drew (bl_refl w18))), (rk2 _ 2 (bl_drew (bl_refl w18))), (rk2 _ 3 (bl_drew (bl_refl w18))), (rk2 _ 4 (bl_drew (bl_refl w18))), (rk3 _ 0 (bl_drew (bl_refl w18))), (rk3 _ 1 (bl_drew (bl_refl w18))), (rk3 _ 2 (bl_drew (bl_refl w18))), (rk3 _ 3 (bl_drew (bl_refl w18))), (rk3 _ 4 (bl_drew (bl_refl w18)))⟩ (fun hHeld => ?_)
  refine pure_ (i := 0) (N := some 171) (v := ?_) (a' := ?_) #[true, false, false, false, false, false, false, false, false, false, false, false, false, false, false, false, false, false, false, false, false, false, false, false, false, false, false, false, false, false, false, false, false, false, false, false, false, false, false, false, false, false, false, false, false, false, false, false, false, false, false] rfl rfl (by kernel_rfl) (fun _ _ _ h => h) (Or.inl ⟨by rfl, ?_⟩) ?_ ?_
  rotate_left
  · intro w'
    go_simp
    with_reducible rfl
  rotate_left
  · simp only [Act.put, List.setIfInBounds_toArray, List.set_cons_zero, List.set_cons_succ, i64_w, i32_w]
    rfl
  refine pure_ (i := 1) (N := some 172) (v := ?_) (a' := ?_) #[true, true, false, false, false, false, false, false, false, false, false, false, false, false, false, false, false, false, false, false, false, false, false, false, false, false, false, false, false, false, false, false, false, false, false, false, false, false, false, false, false, false, false, false, false, false, false, false, false, false, false] rfl rfl (by kernel_rfl) (fun _ _ _ h => h) (Or.inl ⟨by rfl, ?_⟩) ?_ ?_
  rotate_left
  · intro w'
    go_simp
    with_reducible rfl
  rotate_left
  · simp only [Act.put, List.setIfInBounds_toArray, List.set_cons_zero, List.set_cons_succ, i64_w, i32_w]
    rfl
  refine pure_ (i := 2) (N := some 173) (v := ?_) (a' := ?_) #[true, true, true, false, false, false, false, false, false, false, false, false, false, false, false, false, false, false, false, false, false, false, false, false, false, false, false, false, false, false, false, false, false, false, false, false, false, false, false, false, false, false, false, false, false, false, false, false, false, false, false] rfl rfl (by kernel_rfl) (fun _ _ _ h => h) (Or.inl ⟨by rfl, ?_⟩) ?_ ?_
  rotate_left
  · intro w'
    go_simp
    with_reducible rfl
  rotate_left
  · simp only [Act.put, List.setIfInBounds_toArray, List.set_cons_zero, List.set_cons_succ, i64_w, i32_w]
    rfl
  refine pure_ (i := 3) (N := some 174) (v := ?_) (a' := ?_) #[true, true, true, true, false, false, false, false, false, false, false, false, false, false, false, false, false, false, false, false, false, false, false, false, false, false, false, false, false, false, false, false, false, false, false, false, false, false, false, false, false, false, false, false, false, false, false, false, false, false, false] rfl rfl (by kernel_rfl) (fun _ _ _ h => h) (Or.inl ⟨by rfl, ?_⟩) ?_ ?_
  rotate_left
  · intro w'
    go_simp
    with_reducible rfl
  rotate_left
  · simp only [Act.put, List.setIfInBounds_toArray, List.set_cons_zero, List.set_cons_succ, i64_w, i32_w]
    rfl
  refine pure_ (i := 4) (N := some 175) (v := ?_) (a' := ?_) #[true, true, true, true, true, false, false, false, false, false, false, false, false, false, false, false, false, false, false, false, false, false, false, false, false, false, false, false, false, false, false, false, false, false, false, false, false, false, false, false, false, false, false, false, false, false, false, false, false, false, false] rfl rfl (by kernel_rfl) (fun _ _ _ h => h) (Or.inl ⟨by rfl, ?_⟩) ?_ ?_
  rotate_left
  · intro w'
    go_simp
    with_reducible rfl
  rotate_left
  · simp only [Act.put, List.setIfInBounds_toArray, List.set_cons_zero, List.set_cons_succ, i64_w, i32_w]
    rfl
  refine pure_ (i := 5) (N := some 176) (v := ?_) (a' := ?_) #[true, true, true, true, true, true, false, false, false, false, false, false, false, false, false, false, false, false, false, false, false, false, false, false, false, false, false, false, false, false, false, false, false, false, false, false, false, false, false, false, false, false, false, false, false, false, false, false, false, false, false] rfl rfl (by kernel_rfl) (fun _ _ _ h => h) (Or.inl ⟨by rfl, ?_⟩) ?_ ?_
  rotate_left
  · intro w'
    go_simp
    with_reducible rfl
  rotate_left
  · simp only [Act.put, List.setIfInBounds_toArray, List.set_cons_zero, List.set_cons_succ, i64_w, i32_w]
    rfl
  refine pure_ (i := 6) (N := some 177) (v := ?_) (a' := ?_) #[true, true, true, true, true, true, true, false, false, false, false, false, false, false, false, false, false, false, false, false, false, false, false, false, false, false, false, false, false, false, false, false, false, false, false, false, false, false, false, false, false, false, false, false, false, false, false, false, false, false, false] rfl rfl (by kernel_rfl) (fun _ _ _ h => h) (Or.inl ⟨by rfl, ?_⟩) ?_ ?_
  rotate_left
  · intro w'
    go_simp
    with_reducible rfl
  rotate_left
  · simp only [Act.put, List.setIfInBounds_toArray, List.set_cons_zero, List.set_cons_succ, i64_w, i32_w]
    rfl
  refine pure_ (i := 7) (N := some 178) (v := ?_) (a' := ?_) #[true, true, true, true, true, true, true, true, false, false, false, false, false, false, false, false, false, false, false, false, false, false, false, false, false, false, false, false, false, false, false, false, false, false, false, false, false, false, false, false, false, false, false, false, false, false, false, false, false, false, false] rfl rfl (by kernel_rfl) (fun _ _ _ h => h) (Or.inl ⟨by rfl, ?_⟩) ?_ ?_
  rotate_left
  · intro w'
    go_simp
    with_reducible rfl
  rotate_left
  · simp only [Act.put, List.setIfInBounds_toArray, List.set_cons_zero, List.set_cons_succ, i64_w, i32_w]
    rfl
  refine pure_ (i := 8) (N := some 179) (v := ?_) (a' := ?_) #[true, true, true, true, true, true, true, true, true, false, false, false, false, false, false, false, false, false, false, false, false, false, false, false, false, false, false, false, false, false, false, false, false, false, false, false, false, false, false, false, false, false, false, false, false, false, false, false, false, false, false] rfl rfl (by kernel_rfl) (fun _ _ _ h => h) (Or.inl ⟨by rfl, ?_⟩) ?_ ?_
  rotate_left
  · intro w'
    go_simp
    with_reducible rfl
  rotate_left
  · simp only [Act.put, List.setIfInBounds_toArray, List.set_cons_zero, List.set_cons_succ, i64_w, i32_w]
    rfl
  refine pure_ (i := 9) (N := some 180) (v := ?_) (a' := ?_) #[true, true, true, true, true, true, true, true, true, true, false, false, false, false, false, false, false, false, false, false, false, false, false, false, false, false, false, false, false, false, false, false, false, false, false, false, false, false, false, false, false, false, false, false, false, false, false, false, false, false, false] rfl rfl (by kernel_rfl) (fun _ _ _ h => h) (Or.inl ⟨by rfl, ?_⟩) ?_ ?_
  rotate_left
  · intro w'
    go_simp
    with_reducible rfl
  rotate_left
  · simp only [Act.put, List.setIfInBounds_toArray, List.set_cons_zero, List.set_cons_succ, i64_w, i32_w]
    rfl
  refine pure_ (i := 10) (N := some 181) (v := ?_) (a' := ?_) #[true, true, true, true, true, true, true, true, true, true, true, false, false, false, false, false, false, false, false, false, false, false, false, false, false, false, false, false, false, false, false, false, false, false, false, false, false, false, false, false, false, false, false, false, false, false, false, false, false, false, false] rfl rfl (by kernel_rfl) (fun _ _ _ h => h) (Or.inl ⟨by rfl, ?_⟩) ?_ ?_
  rotate_left
  · intro w'
    go_simp
    with_reducible rfl
  rotate_left
  · simp only [Act.put, List.setIfInBounds_toArray, List.set_cons_zero, List.set_cons_succ, i64_w, i32_w]
    rfl
  refine pure_ (i := 11) (N := some 182) (v := ?_) (a' := ?_) #[true, true, true, true, true, true, true, true, true, true, true, true, false, false, false, false, false, false, false, false, false, false, false, false, false, false, false, false, false, false, false, false, false, false, false, false, false, false, false, false, false, false, false, false, false, false, false, false, false, false, false] rfl rfl (by kernel_rfl) (fun _ _ _ h => h) (Or.inl ⟨by rfl, ?_⟩) ?_ ?_
  rotate_left
  · intro w'
    go_simp
    with_reducible rfl
  rotate_left
  · simp only [Act.put, List.setIfInBounds_toArray, List.set_cons_zero, List.set_cons_succ, i64_w, i32_w]
    rfl
  refine pure_ (i := 12) (N := some 183) (v := ?_) (a' := ?_) #[true, true, true, true, true, true, true, true, true, true, true, true, true, false, false, false, false, false, false, false, false, false, false, false, false, false, false, false, false, false, false, false, false, false, false, false, false, false, false, false, false, false, false, false, false, false, false, false, false, false, false] rfl rfl (by kernel_rfl) (fun _ _ _ h => h) (Or.inl ⟨by rfl, ?_⟩) ?_ ?_
  rotate_left
  · intro w'
    go_simp
    with_reducible rfl
  rotate_left
  · simp only [Act.put, List.setIfInBounds_toArray, List.set_cons_zero, List.set_cons_succ, i64_w, i32_w]
    rfl
  refine pure_ (i := 13) (N := some 184) (v := ?_) (a' := ?_) #[true, true, true, true, true, true, true, true, true, true, true, true, true, true, false, false, false, false, false, false, false, false, false, false, false, false, false, false, false, false, false, false, false, false, false, false, false, false, false, false, false, false, false, false, false, false, false, false, false, false, false] rfl rfl (by kernel_rfl) (fun _ _ _ h => h) (Or.inl ⟨by rfl, ?_⟩) ?_ ?_
  rotate_left
  · intro w'
    go_simp
    with_reducible rfl
  rotate_left
  · simp only [Act.put, List.setIfInBounds_toArray, List.set_cons_zero, List.set_cons_succ, i64_w, i32_w]
    rfl
  refine pure_ (i := 14) (N := some 185) (v := ?_) (a' := ?_) #[true, true, true, true, true, true, true, true, true, true, true, true, true, true, true, false, false, false, false, false, false, false, false, false, false, false, false, false, false, false, false, false, false, false, false, false, false, false, false, false, false, false, false, false, false, false, false, false, false, false, false] rfl rfl (by kernel_rfl) (fun _ _ _ h => h) (Or.inl ⟨by rfl, ?_⟩) ?_ ?_
  rotate_left
  · intro w'
    go_simp
    with_reducible rfl
  rotate_left
  · simp only [Act.put, List.setIfInBounds_toArray, List.set_cons_zero, List.set_cons_succ, i64_w, i32_w]
    rfl
  refine pure_ (i := 15) (N := some 186) (v := ?_) (a' := ?_) #[true, true, true, true, true, true, true, true, true, true, true, true, true, true, true, true, false, false, false, false, false, false, false, false, false, false, false, false, false, false, false, false, false, false, false, false, false, false, false, false, false, false, false, false, false, false, false, false, false, false, false] rfl rfl (by kernel_rfl) (fun _ _ _ h => h) (Or.inl ⟨by rfl, ?_⟩) ?_ ?_
  rotate_left
  · intro w'
    go_simp
    with_reducible rfl
  rotate_left
  · simp only [Act.put, List.setIfInBounds_toArray, List.set_cons_zero, List.set_cons_succ, i64_w, i32_w]
    rfl
  refine pure_ (i := 16) (N := some 187) (v := ?_) (a' := ?_) #[true, true, true, true, true, true, true, true, true, true, true, true, true, true, true, true, true, false, false, false, false, false, false, false, false, false, false, false, false, false, false, false, false, false, false, false, false, false, false, false, false, false, false, false, false, false, false, false, false, false, false] rfl rfl (by kernel_rfl) (fun _ _ _ h => h) (Or.inl ⟨by rfl, ?_⟩) ?_ ?_
  rotate_left
  · intro w'
    go_simp
    with_reducible rfl
  rotate_left
  · simp only [Act.put, List.setIfInBounds_toArray, List.set_cons_zero, List.set_cons_succ, i64_w, i32_w]
    rfl
  refine pure_ (i := 17) (N := some 188) (v := ?_) (a' := ?_) #[true, true, true, true, true, true, true, true, true, true, true, true, true, true, true, true, true, true, false, false, false, false, false, false, false, false, false, false, false, false, false, false, false, false, false, false, false, false, false, false, false, false, false, false, false, false, false, false, false, false, false] rfl rfl (by kernel_rfl) (fun _ _ _ h => h) (Or.inl ⟨by rfl, ?_⟩) ?_ ?_
  rotate_left
  · intro w'
    go_simp
    with_reducible rfl
  rotate_left
  · simp only [Act.put, List.setIfInBounds_toArray, List.set_cons_zero, List.set_cons_succ, i64_w, i32_w]
    rfl
  refine pure_ (i := 18) (N := some 189) (v := ?_) (a' := ?_) #[true, true, true, true, true, true, true, true, true, true, true, true, true, true, true, true, true, true, true, false, false, false, false, false, false, false, false, false, false, false, false, false, false, false, false, false, false, false, false, false, false, false, false, false, false, false, false, false, false, false, false] rfl rfl (by kernel_rfl) (fun _ _ _ h => h) (Or.inl ⟨by rfl, ?_⟩) ?_ ?_
  rotate_left
  · intro w'
    go_simp
    with_reducible rfl
  rotate_left
  · simp only [Act.put, List.setIfInBounds_toArray, List.set_cons_zero, List.set_cons_succ, i64_w, i32_w]
    rfl
  refine pure_ (i := 19) (N := some 190) (v := ?_) (a' := ?_) #[true, true, true, true, true, true, true, true, true, true, true, true, true, true, true, true, true, true, true, true, false, false, false, false, false, false, false, false, false, false, false, false, false, false, false, false, false, false, false, false, false, false, false, false, false, false, false, false, false, false, false] rfl rfl (by kernel_rfl) (fun _ _ _ h => h) (Or.inl ⟨by rfl, ?_⟩) ?_ ?_
  rotate_left
  · intro w'
    go_simp
    with_reducible rfl
  rotate_left
  · simp only [Act.put, List.setIfInBounds_toArray, List.set_cons_zero, List.set_cons_succ, i64_w, i32_w]
    rfl
  refine pure_ (i := 20) (N := some 191) (v := ?_) (a' := ?_) #[true, true, true, true, true, true, true, true, true, true, true, true, true, true, true, true, true, true, true, true, true, false, false, false, false, false, false, false, false, false, false, false, false, false, false, false, false, false, false, false, false, false, false, false, false, false, false, false, false, false, false] rfl rfl (by kernel_rfl) (fun _ _ _ h => h) (Or.inl ⟨by rfl, ?_⟩) ?_ ?_
  rotate_left
  · intro w'
    go_simp
    with_reducible rfl
  rotate_left
  · simp only [Act.put, List.setIfInBounds_toArray, List.set_cons_zero, List.set_cons_succ, i64_w, i32_w]
    rfl
  refine pure_ (i := 21) (N := some 192) (v := ?_) (a' := ?_) #[true, true, true, true, true, true, true, true, true, true, true, true, true, true, true, true, true, true, true, true, true, true, false, false, false, false, false, false, false, false, false, false, false, false, false, false, false, false, false, false, false, false, false, false, false, false, false, false, false, false, false] rfl rfl (by kernel_rfl) (fun _ _ _ h => h) (Or.inl ⟨by rfl, ?_⟩) ?_ ?_
  rotate_left
  · intro w'
    go_simp
    with_reducible rfl
  rotate_left
  · simp only [Act.put, List.setIfInBounds_toArray, List.set_cons_zero, List.set_cons_succ, i64_w, i32_w]
    rfl
  refine pure_ (i := 22) (N := some 193) (v := ?_) (a' := ?_) #[true, true, true, true, true, true, true, true, true, true, true, true, true, true, true, true, true, true, true, true, true, true, true, false, false, false, false, false, false, false, false, false, false, false, false, false, false, false, false, false, false, false, false, false, false, false, false, false, false, false, false] rfl rfl (by kernel_rfl) (fun _ _ _ h => h) (Or.inl ⟨by rfl, ?_⟩) ?_ ?_
  rotate_left
  · intro w'
    go_simp
    with_reducible rfl
  rotate_left
  · simp only [Act.put, List.setIfInBounds_toArray, List.set_cons_zero, List.set_cons_succ, i64_w, i32_w]
    rfl
  refine pure_ (i := 23) (N := some 194) (v := ?_) (a' := ?_) #[true, true, true, true, true, true, true, true, true, true, true, true, true, true, true, true, true, true, true, true, true, true, true, true, false, false, false, false, false, false, false, false, false, false, false, false, false, false, false, false, false, false, false, false, false, false, false, false, false, false, false] rfl rfl (by kernel_rfl) (fun _ _ _ h => h) (Or.inl ⟨by rfl, ?_⟩) ?_ ?_
  rotate_left
  · intro w'
    go_simp
    with_reducible rfl
  rotate_left
  · simp only [Act.put, List.setIfInBounds_toArray, List.set_cons_zero, List.set_cons_succ, i64_w, i32_w]
    rfl
  refine one_ (i := 24) (N := some 195) #[true, true, true, true, true, true, true, true, true, true, true, true, true, true, true, true, true, true, true, true, true, true, true, true, true, false, false, false, false, false, false, false, false, false, false, false, false, false, false, false, false, false, false, false, false, false, false, false, false, false, false] rfl rfl (by kernel_rfl) (by decide) (fun K hK => ?_)
  refine goes_ Try.func52 (by kernel_rfl) rfl #[.slice Bt0 Lt.length et0, .slice Bt1 Lt.length et1] (by rfl) rfl rfl (by simp only [List.map_toArray, List.map_cons, List.map_nil]; rfl) ?_
  with_reducible refine (equal52 _ _ _ _ Lt Lt true (by simp) _ (Kd.C_below G0r30.out (bl_drew (bl_refl w18))) (Kd.C_below G1r30.out (bl_drew (bl_refl w18)))).mono ?_
  rintro e u1 ⟨rfl, hb⟩
  refine ⟨_, rfl, ?_⟩
  have E1 : Below w18.heap.size w18 u1 := bl_trans (bl_drew (bl_refl w18)) hb
  clear hb
  refine hK.out _ _ ⟨(rk2 _ 0 E1), (rk2 _ 1 E1), (rk2 _ 2 E1), (rk2 _ 3 E1), (rk2 _ 4 E1), (rk3 _ 0 E1), (rk3 _ 1 E1), (rk3 _ 2 E1), (rk3 _ 3 E1), (rk3 _ 4 E1)⟩ (fun hHeld => ?_)
  clear hK K
  refine norm_ (a' := ?_) ?_ ?_
  rotate_left
  · show Act.put _ (some 195) _ = _
    simp only [Act.put, List.setIfInBounds_toArray, List.set_cons_zero, List.set_cons_succ, i64_w, i32_w]
    rfl
  refine pure_ (i := 25) (N := some 196) (v := ?_) (a' := ?_) #[true, true, true, true, true, true, true, true, true, true, true, true, true, true, true, true, true, true, true, true, true, true, true, true, true, true, false, false, false, false, false, false, false, false, false, false, false, false, false, false, false, false, false, false, false, false, false, false, false, false, false] rfl rfl (by kernel_rfl) (fun _ _ _ h => h) (Or.inl ⟨by rfl, ?_⟩) ?_ ?_
  rotate_left
  · intro w'
    go_simp
    with_reducible rfl
  rotate_left
  · simp only [Act.put, List.setIfInBounds_toArray, List.set_cons_zero, List.set_cons_succ, i64_w, i32_w]
    rfl
  refine pure_ (i := 26) (N := some 197) (v := ?_) (a' := ?_) #[true, true, true, true, true, true, true, true, true, true, true, true, true, true, true, true, true, true, true, true, true, true, true, true, true, true, true, false, false, false, false, false, false, false, false, false, false, false, false, false, false, false, false, false, false, false, false, false, false, false, false] rfl rfl (by kernel_rfl) (fun _ _ _ h => h) (Or.inl ⟨by rfl, ?_⟩) ?_ ?_
  rotate_left
  · intro w'
    go_simp
    with_reducible rfl
  rotate_left
  · simp only [Act.put, List.setIfInBounds_toArray, List.set_cons_zero, List.set_cons_succ, i64_w, i32_w]
    rfl
  refine pure_ (i := 27) (N := some 198) (v := ?_) (a' := ?_) #[true, true, true, true, true, true, true, true, true, true, true, true, true, true, true, true, true, true, true, true, true, true, true, true, true, true, true, true, false, false, false, false, false, false, false, false, false, false, false, false, false, false, false, false, false, false, false, false, false, false, false] rfl rfl (by kernel_rfl) (fun _ _ _ h => h) (Or.inl ⟨by rfl, ?_⟩) ?_ ?_
  rotate_left
  · intro w'
    go_simp
    with_reducible rfl
  rotate_left
  · simp only [Act.put, List.setIfInBounds_toArray, List.set_cons_zero, List.set_cons_succ, i64_w, i32_w]
    rfl
  refine pure_ (i := 28) (N := some 199) (v := ?_) (a' := ?_) #[true, true, true, true, true, true, true, true, true, true, true, true, true, true, true, true, true, true, true, true, true, true, true, true, true, true, true, true, true, false, false, false, false, false, false, false, false, false, false, false, false, false, false, false, false, false, false, false, false, false, false] rfl rfl (by kernel_rfl) (fun _ _ _ h => h) (Or.inl ⟨by rfl, ?_⟩) ?_ ?_
  rotate_left
  · intro w'
    go_simp
    with_reducible rfl
  rotate_left
  · simp only [Act.put, List.setIfInBounds_toArray, List.set_cons_zero, List.set_cons_succ, i64_w, i32_w]
    rfl
  refine pure_ (i := 29) (N := some 200) (v := ?_) (a' := ?_) #[true, true, true, true, true, true, true, true, true, true, true, true, true, true, true, true, true, true, true, true, true, true, true, true, true, true, true, true, true, true, false, false, false, false, false, false, false, false, false, false, false, false, false, false, false, false, false, false, false, false, false] rfl rfl (by kernel_rfl) (fun _ _ _ h => h) (Or.inl ⟨by rfl, ?_⟩) ?_ ?_
  rotate_left
  · intro w'
    go_simp
    with_reducible rfl
  rotate_left
  · simp only [Act.put, List.setIfInBounds_toArray, List.set_cons_zero, List.set_cons_succ, i64_w, i32_w]
    rfl
  refine take_ (i := 30) (N := some 201) (v := ?_) (a' := ?_) #[true, true, true, true, true, true, true, true, true, true, true, true, true, true, true, true, true, true, true, true, true, true, true, true, true, true, true, true, true, true, true, false, false, false, false, false, false, false, false, false, false, false, false, false, false, false, false, false, false, false, false] rfl rfl (by kernel_rfl) (fun _ _ _ h => h) (Or.inl ⟨by rfl, ?_⟩) hHeld ?_ ?_
  rotate_left
  · rintro w' ⟨s0, s1, s2, s3, s4, s5, s6, s7, s8, s9⟩
    go_simp
    with_reducible rfl
  rotate_left
  · simp only [Act.put, List.setIfInBounds_toArray, List.set_cons_zero, List.set_cons_succ, i64_w, i32_w]
    rfl
  refine take_ (i := 31) (N := some 202) (v := ?_) (a' := ?_) #[true, true, true, true, true, true, true, true, true, true, true, true, true, true, true, true, true, true, true, true, true, true, true, true, true, true, true, true, true, true, true, true, false, false, false, false, false, false, false, false, false, false, false, false, false, false, false, false, false, false, false] rfl rfl (by kernel_rfl) (fun _ _ _ h => h) (Or.inl ⟨by rfl, ?_⟩) hHeld ?_ ?_
  rotate_left
  · rintro w' ⟨s0, s1, s2, s3, s4, s5, s6, s7, s8, s9⟩
    go_simp
    with_reducible rfl
  rotate_left
  · simp only [Act.put, List.setIfInBounds_toArray, List.set_cons_zero, List.set_cons_succ, i64_w, i32_w]
    rfl
  refine take_ (i := 33) (N := some 204) (v := ?_) (a' := ?_) #[true, true, true, true, true, true, true, true, true, true, true, true, true, true, true, true, true, true, true, true, true, true, true, true, true, true, true, true, true, true, true, true, false, true, false, false, false, false, false, false, false, false, false, false, false, false, false, false, false, false, false] rfl rfl (by kernel_rfl) (fun _ _ _ h => h) (Or.inl ⟨by rfl, ?_⟩) hHeld ?_ ?_
  rotate_left
  · rintro w' ⟨s0, s1, s2, s3, s4, s5, s6, s7, s8, s9⟩
    go_simp
    with_reducible rfl
  rotate_left
  · simp only [Act.put, List.setIfInBounds_toArray, List.set_cons_zero, List.set_cons_succ, i64_w, i32_w]
    rfl
  refine take_ (i := 34) (N := some 205) (v := ?_) (a' := ?_) #[true, true, true, true, true, true, true, true, true, true, true, true, true, true, true, true, true, true, true, true, true, true, true, true, true, true, true, true, true, true, true, true, false, true, true, false, false, false, false, false, false, false, false, false, false, false, false, false, false, false, false] rfl rfl (by kernel_rfl) (fun _ _ _ h => h) (Or.inl ⟨by rfl, ?_⟩) hHeld ?_ ?_
  rotate_left
  · rintro w' ⟨s0, s1, s2, s3, s4, s5, s6, s7, s8, s9⟩
    go_simp
    with_reducible rfl
  rotate_left
  · simp only [Act.put, List.setIfInBounds_toArray, List.set_cons_zero, List.set_cons_succ, i64_w, i32_w]
    rfl
  refine one_ (i := 32) (N := some 203) #[true, true, true, true, true, true, true, true, true, true, true, true, true, true, true, true, true, true, true, true, true, true, true, true, true, true, true, true, true, true, true, true, true, true, true, false, false, false, false, false, false, false, false, false, false, false, false, false, false, false, false] rfl rfl (by kernel_rfl) (by decide) (fun K hK => ?_)
  refine goes_ Try.func53 (by kernel_rfl) rfl #[.agg #[.int .i64 s.epoch, .slice A1 s.L.length c1, .slice A2 s.H.length c2, .int .i64 s.next, .int .u64 s.now], .agg #[.int .i64 o.epoch, .slice A3 o.L.length c3, .slice A4 o.H.length c4, .int .i64 o.next, .int .u64 o.now]] (by rfl) rfl rfl (by simp only [List.map_toArray, List.map_cons, List.map_nil]; rfl) ?_
  with_reducible refine (sames53 _ _ _ _ s o u1 (HS30.out.below E1) (HO30.out.below E1) bb HBB.out).mono ?_
  rintro e u2 ⟨rfl, hb⟩
  refine ⟨_, rfl, ?_⟩
  have E2 : Below w18.heap.size w18 u2 := bl_trans E1 hb
  clear hb
  refine hK.out _ _ ⟨(rk2 _ 0 E2), (rk2 _ 1 E2), (rk2 _ 2 E2), (rk2 _ 3 E2), (rk2 _ 4 E2), (rk3 _ 0 E2), (rk3 _ 1 E2), (rk3 _ 2 E2), (rk3 _ 3 E2), (rk3 _ 4 E2)⟩ (fun hHeld => ?_)
  clear hK K
  refine norm_ (a' := ?_) ?_ ?_
  rotate_left
  · show Act.put _ (some 203) _ = _
    simp only [Act.put, List.setIfInBounds_toArray, List.set_cons_zero, List.set_cons_succ, i64_w, i32_w]
    rfl
  refine one_ (i := 35) (N := some 206) #[true, true, true, true, true, true, true, true, true, true, true, true, true, true, true, true, true, true, true, true, true, true, true, true, true, true, true, true, true, true, true, true, true, true, true, true, false, false, false, false, false, false, false, false, false, false, false, false, false, false, false] rfl rfl (by kernel_rfl) (by decide) (fun K hK => ?_)
  refine goes_ Try.func27 (by kernel_rfl) rfl #[.agg #[.int .i64 s.epoch, .slice A1 s.L.length c1, .slice A2 s.H.length c2, .int .i64 s.next, .int .u64 s.now], .agg #[.int .i64 o.epoch, .slice A3 o.L.length c3, .slice A4 o.H.length c4, .int .i64 o.next, .int .u64 o.now]] (by rfl) rfl rfl (by simp only [List.map_toArray, List.map_cons, List.map_nil]; rfl) ?_
  with_reducible refine (sames27 _ _ _ _ s o u2 (HS30.out.below E2) (HO30.out.below E2) bb HBB.out).mono ?_
  rintro e u3 ⟨rfl, hb⟩
  refine ⟨_, rfl, ?_⟩
  have E3 : Below w18.heap.size w18 u3 := bl_trans E2 hb
  clear hb
  refine hK.out _ _ ⟨(rk2 _ 0 E3), (rk2 _ 1 E3), (rk2 _ 2 E3), (rk2 _ 3 E3), (rk2 _ 4 E3), (rk3 _ 0 E3), (rk3 _ 1 E3), (rk3 _ 2 E3), (rk3 _ 3 E3), (rk3 _ 4 E3)⟩ (fun hHeld => ?_)
  clear hK K
  refine norm_ (a' := ?_) ?_ ?_
  rotate_left
  · show Act.put _ (some 206) _ = _
    simp only [Act.put, List.setIfInBounds_toArray, List.set_cons_zero, List.set_cons_succ, i64_w, i32_w]
    rfl
  refine pure_ (i := 36) (N := some 207) (v := ?_) (a' := ?_) #[true, true, true, true, true, true, true, true, true, true, true, true, true, true, true, true, true, true, true, true, true, true, true, true, true, true, true, true, true, true, true, true, true, true, true, true, true, false, false, false, false, false, false, false, false, false, false, false, false, false, false] rfl rfl (by kernel_rfl) (fun _ _ _ h => h) (Or.inl ⟨by rfl, ?_⟩) ?_ ?_
  rotate_left
  · intro w'
    go_simp
    with_reducible rfl
  rotate_left
  · simp only [Act.put, List.setIfInBounds_toArray, List.set_cons_zero, List.set_cons_succ, i64_w, i32_w]
    rfl
  refine pure_ (i := 37) (N := some 208) (v := ?_) (a' := ?_) #[true, true, true, true, true, true, true, true, true, true, true, true, true, true, true, true, true, true, true, true, true, true, true, true, true, true, true, true, true, true, true, true, true, true, true, true, true, true, false, false, false, false, false, false, false, false, false, false, false, false, false] rfl rfl (by kernel_rfl) (fun _ _ _ h => h) (Or.inl ⟨by rfl, ?_⟩) ?_ ?_
  rotate_left
  · intro w'
    go_simp
    with_reducible rfl
  rotate_left
  · simp only [Act.put, List.setIfInBounds_toArray, List.set_cons_zero, List.set_cons_succ, i64_w, i32_w]
    rfl
  refine pure_ (i := 38) (N := some 209) (v := ?_) (a' := ?_) #[true, true, true, true, true, true, true, true, true, true, true, true, true, true, true, true, true, true, true, true, true, true, true, true, true, true, true, true, true, true, true, true, true, true, true, true, true, true, true, false, false, false, false, false, false, false, false, false, false, false, false] rfl rfl (by kernel_rfl) (fun _ _ _ h => h) (Or.inl ⟨by rfl, ?_⟩) ?_ ?_
  rotate_left
  · intro w'
    go_simp
    with_reducible rfl
  rotate_left
  · simp only [Act.put, List.setIfInBounds_toArray, List.set_cons_zero, List.set_cons_succ, i64_w, i32_w]
    rfl
  refine take_ (i := 39) (N := some 210) (v := ?_) (a' := ?_) #[true, true, true, true, true, true, true, true, true, true, true, true, true, true, true, true, true, true, true, true, true, true, true, true, true, true, true, true, true, true, true, true, true, true, true, true, true, true, true, true, false, false, false, false, false, false, false, false, false, false, false] rfl rfl (by kernel_rfl) (fun _ _ _ h => h) (Or.inl ⟨by rfl, ?_⟩) hHeld ?_ ?_
  rotate_left
  · rintro w' ⟨s0, s1, s2, s3, s4, s5, s6, s7, s8, s9⟩
    go_simp
    with_reducible rfl
  rotate_left
  · simp only [Act.put, List.setIfInBounds_toArray, List.set_cons_zero, List.set_cons_succ, i64_w, i32_w]
    rfl
  refine take_ (i := 40) (N := some 211) (v := ?_) (a' := ?_) #[true, true, true, true, true, true, true, true, true, true, true, true, true, true, true, true, true, true, true, true, true, true, true, true, true, true, true, true, true, true, true, true, true, true, true, true, true, true, true, true, true, false, false, false, false, false, false, false, false, false, false] rfl rfl (by kernel_rfl) (fun _ _ _ h => h) (Or.inl ⟨by rfl, ?_⟩) hHeld ?_ ?_
  rotate_left
  · rintro w' ⟨s0, s1, s2, s3, s4, s5, s6, s7, s8, s9⟩
    go_simp
    with_reducible rfl
  rotate_left
  · simp only [Act.put, List.setIfInBounds_toArray, List.set_cons_zero, List.set_cons_succ, i64_w, i32_w]
    rfl
  refine one_ (i := 41) (N := some 212) #[true, true, true, true, true, true, true, true, true, true, true, true, true, true, true, true, true, true, true, true, true, true, true, true, true, true, true, true, true, true, true, true, true, true, true, true, true, true, true, true, true, true, false, false, false, false, false, false, false, false, false] rfl rfl (by kernel_rfl) (by decide) (fun K hK => ?_)
  refine goes_ Try.func53 (by kernel_rfl) rfl #[.agg #[.int .i64 s.epoch, .slice A1 s.L.length c1, .slice A2 s.H.length c2, .int .i64 s.next, .int .u64 s.now], .agg #[.int .i64 s.epoch, .slice A1 s.L.length c1, .slice A2 s.H.length c2, .int .i64 s.next, .int .u64 s.now]] (by rfl) rfl rfl (by simp only [List.map_toArray, List.map_cons, List.map_nil]; rfl) ?_
  with_reducible refine (sames53 _ _ _ _ s s u3 (HS30.out.below E3) (HS30.out.below E3) true (by simp [SS.eqv])).mono ?_
  rintro e u4 ⟨rfl, hb⟩
  refine ⟨_, rfl, ?_⟩
  have E4 : Below w18.heap.size w18 u4 := bl_trans E3 hb
  clear hb
  refine hK.out _ _ ⟨(rk2 _ 0 E4), (rk2 _ 1 E4), (rk2 _ 2 E4), (rk2 _ 3 E4), (rk2 _ 4 E4), (rk3 _ 0 E4), (rk3 _ 1 E4), (rk3 _ 2 E4), (rk3 _ 3 E4), (rk3 _ 4 E4)⟩ (fun hHeld => ?_)
  clear hK K
  refine norm_ (a' := ?_) ?_ ?_
  rotate_left
  · show Act.put _ (some 212) _ = _
    simp only [Act.put, List.setIfInBounds_toArray, List.set_cons_zero, List.set_cons_succ, i64_w, i32_w]
    rfl
  refine pure_ (i := 42) (N := some 213) (v := ?_) (a' := ?_) #[true, true, true, true, true, true, true, true, true, true, true, true, true, true, true, true, true, true, true, true, true, true, true, true, true, true, true, true, true, true, true, true, true, true, true, true, true, true, true, true, true, true, true, false, false, false, false, false, false, false, false] rfl rfl (by kernel_rfl) (fun _ _ _ h => h) (Or.inl ⟨by rfl, ?_⟩) ?_ ?_
  rotate_left
  · intro w'
    go_simp
    with_reducible rfl
  rotate_left
  · simp only [Act.put, List.setIfInBounds_toArray, List.set_cons_zero, List.set_cons_succ, i64_w, i32_w]
    rfl
  refine pure_ (i := 43) (N := some 214) (v := ?_) (a' := ?_) #[true, true, true, true, true, true, true, true, true, true, true, true, true, true, true, true, true, true, true, true, true, true, true, true, true, true, true, true, true, true, true, true, true, true, true, true, true, true, true, true, true, true, true, true, false, false, false, false, false, false, false] rfl rfl (by kernel_rfl) (fun _ _ _ h => h) (Or.inl ⟨by rfl, ?_⟩) ?_ ?_
  rotate_left
  · intro w'
    go_simp
    with_reducible rfl
  rotate_left
  · simp only [Act.put, List.setIfInBounds_toArray, List.set_cons_zero, List.set_cons_succ, i64_w, i32_w]
    rfl
  refine pure_ (i := 44) (N := some 215) (v := ?_) (a' := ?_) #[true, true, true, true, true, true, true, true, true, true, true, true, true, true, true, true, true, true, true, true, true, true, true, true, true, true, true, true, true, true, true, true, true, true, true, true, true, true, true, true, true, true, true, true, true, false, false, false, false, false, false] rfl rfl (by kernel_rfl) (fun _ _ _ h => h) (Or.inl ⟨by rfl, ?_⟩) ?_ ?_
  rotate_left
  · intro w'
    go_simp
    with_reducible rfl
  rotate_left
  · simp only [Act.put, List.setIfInBounds_toArray, List.set_cons_zero, List.set_cons_succ, i64_w, i32_w]
    rfl
  refine pure_ (i := 46) (N := some 217) (v := ?_) (a' := ?_) #[true, true, true, true, true, true, true, true, true, true, true, true, true, true, true, true, true, true, true, true, true, true, true, true, true, true, true, true, true, true, true, true, true, true, true, true, true, true, true, true, true, true, true, true, true, false, true, false, false, false, false] rfl rfl (by kernel_rfl) (fun _ _ _ h => h) (Or.inl ⟨by rfl, ?_⟩) ?_ ?_
  rotate_left
  · intro w'
    go_simp
    with_reducible rfl
  rotate_left
  · simp only [Act.put, List.setIfInBounds_toArray, List.set_cons_zero, List.set_cons_succ, i64_w, i32_w]
    rfl
  refine one_ (i := 45) (N := some 216) #[true, true, true, true, true, true, true, true, true, true, true, true, true, true, true, true, true, true, true, true, true, true, true, true, true, true, true, true, true, true, true, true, true, true, true, true, true, true, true, true, true, true, true, true, true, true, true, false, false, false, false] rfl rfl (by kernel_rfl) (by decide) (fun K hK => ?_)
  refine goes_ Try.func54 (by kernel_rfl) rfl #[.int .i64 ep] (by rfl) rfl rfl (by simp only [List.map_toArray, List.map_cons, List.map_nil]; rfl) ?_
  with_reducible refine (new54 ep u4).mono ?_
  rintro e u5 ⟨vn, rfl, hN, hb⟩
  refine ⟨_, rfl, ?_⟩
  have E5 : Below w18.heap.size w18 u5 := bl_trans E4 hb
  clear hb
  have HNN := Lib.hid hN
  clear hN
  refine hK.out _ _ ⟨(rk2 _ 0 E5), (rk2 _ 1 E5), (rk2 _ 2 E5), (rk2 _ 3 E5), (rk2 _ 4 E5), (rk3 _ 0 E5), (rk3 _ 1 E5), (rk3 _ 2 E5), (rk3 _ 3 E5), (rk3 _ 4 E5)⟩ (fun hHeld => ?_)
  clear hK K
  refine norm_ (a' := ?_) ?_ ?_
  rotate_left
  · show Act.put _ (some 216) _ = _
    simp only [Act.put, List.setIfInBounds_toArray, List.set_cons_zero, List.set_cons_succ, i64_w, i32_w]
    rfl
  refine one_ (i := 47) (N := some 218) #[true, true, true, true, true, true, true, true, true, true, true, true, true, true, true, true, true, true, true, true, true, true, true, true, true, true, true, true, true, true, true, true, true, true, true, true, true, true, true, true, true, true, true, true, true, true, true, true, false, false, false] rfl rfl (by kernel_rfl) (by decide) (fun K hK => ?_)
  refine goes_ Try.func55 (by kernel_rfl) rfl #[.int .i64 ep] (by rfl) rfl rfl (by simp only [List.map_toArray, List.map_cons, List.map_nil]; rfl) ?_
  with_reducible refine (new55 ep u5).mono ?_
  rintro e u6 ⟨vm, rfl, hM, hb⟩
  refine ⟨_, rfl, ?_⟩
  have E6 : Below w18.heap.size w18 u6 := bl_trans E5 hb
  have hb_ := hb
  clear hb
  have HMM := Lib.hid hM
  have HNM := Lib.hid (HNN.out.below hb_)
  clear hM
  refine hK.out _ _ ⟨(rk2 _ 0 E6), (rk2 _ 1 E6), (rk2 _ 2 E6), (rk2 _ 3 E6), (rk2 _ 4 E6), (rk3 _ 0 E6), (rk3 _ 1 E6), (rk3 _ 2 E6), (rk3 _ 3 E6), (rk3 _ 4 E6)⟩ (fun hHeld => ?_)
  clear hK K
  refine norm_ (a' := ?_) ?_ ?_
  rotate_left
  · show Act.put _ (some 218) _ = _
    simp only [Act.put, List.setIfInBounds_toArray, List.set_cons_zero, List.set_cons_succ, i64_w, i32_w]
    rfl
  refine one_ (i := 48) (N := some 219) #[true, true, true, true, true, true, true, true, true, true, true, true, true, true, true, true, true, true, true, true, true, true, true, true, true, true, true, true, true, true, true, true, true, true, true, true, true, true, true, true, true, true, true, true, true, true, true, true, true, false, false] rfl rfl (by kernel_rfl) (by decide) (fun K hK => ?_)
  refine goes_ Try.func27 (by kernel_rfl) rfl #[vn, vm] (by rfl) rfl rfl (by simp only [List.map_toArray, List.map_cons, List.map_nil]; rfl) ?_
  with_reducible refine (same27 _ _ _ _ (SS.fresh ep) u6 HNM.out HMM.out).mono ?_
  rintro e u7 ⟨rfl, hb⟩
  refine ⟨_, rfl, ?_⟩
  have E7 : Below w18.heap.size w18 u7 := bl_trans E6 hb
  clear hb
  refine hK.out _ _ ⟨(rk2 _ 0 E7), (rk2 _ 1 E7), (rk2 _ 2 E7), (rk2 _ 3 E7), (rk2 _ 4 E7), (rk3 _ 0 E7), (rk3 _ 1 E7), (rk3 _ 2 E7), (rk3 _ 3 E7), (rk3 _ 4 E7)⟩ (fun hHeld => ?_)
  clear hK K
  refine norm_ (a' := ?_) ?_ ?_
  rotate_left
  · show Act.put _ (some 219) _ = _
    simp only [Act.put, List.setIfInBounds_toArray, List.set_cons_zero, List.set_cons_succ, i64_w, i32_w]
    rfl
  refine pure_ (i := 49) (N := some 220) (v := ?_) (a' := ?_) #[true, true, true, true, true, true, true, true, true, true, true, true, true, true, true, true, true, true, true, true, true, true, true, true, true, true, true, true, true, true, true, true, true, true, true, true, true, true, true, true, true, true, true, true, true, true, true, true, true, true, false] rfl rfl (by kernel_rfl) (fun _ _ _ h => h) (Or.inl ⟨by rfl, ?_⟩) ?_ ?_
  rotate_left
  · intro w'
    go_simp
    with_reducible rfl
  rotate_left
  · simp only [Act.put, List.setIfInBounds_toArray, List.set_cons_zero, List.set_cons_succ, i64_w, i32_w]
    rfl
  refine pure_ (i := 50) (N := some 2) (v := ?_) (a' := ?_) #[true, true, true, true, true, true, true, true, true, true, true, true, true, true, true, true, true, true, true, true, true, true, true, true, true, true, true, true, true, true, true, true, true, true, true, true, true, true, true, true, true, true, true, true, true, true, true, true, true, true, true] rfl rfl (by kernel_rfl) (fun _ _ _ h => h) (Or.inl ⟨by rfl, ?_⟩) ?_ ?_
  rotate_left
  · intro w'
    go_simp
    with_reducible rfl
  rotate_left
  · simp only [Act.put, List.setIfInBounds_toArray, List.set_cons_zero, List.set_cons_succ, i64_w, i32_w]
    rfl
  refine done_ (by kernel_rfl) ?_
  have HZ : Below w.heap.size w u7 := bl_trans HB30.out E7
  clear E1 E2 E3 E4 E5 E6 E7
  clear rk2 rk3 Bc
  go_wp2
  go_ret
  exact ⟨rfl, HZ⟩
end Go.Proofs.Ytkcebmamohimoaa
