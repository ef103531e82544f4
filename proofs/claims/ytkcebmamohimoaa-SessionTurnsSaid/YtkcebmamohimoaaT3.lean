/- The law SessionTurns, walked. -/
import Derived.Test.YtkcebmamohimoaaS11
import Derived.Test.YtkcebmamohimoaaR2
namespace Go.Proofs.Ytkcebmamohimoaa
open Go.RowKit Go.Proofs.YtkcebmamohimoaaW.PrintWords
set_option linter.unusedVariables false
set_option linter.unusedSimpArgs false
attribute [local go_sem] bl_refl bl_alloc bl_drew bl_drewN
set_option maxHeartbeats 40000000 in
set_option maxRecDepth 100000 in
theorem turns3 (A1 A2 : Option Addr) (c1 c2 : Nat) (s : SS) (q : Rq) (id conn : Int) (last : ByteArray) (txn : Int) (w : World) (h : InSS w #[.int .i64 s.epoch, .slice A1 s.L.length c1, .slice A2 s.H.length c2, .int .i64 s.next, .int .u64 s.now].toList s) :
    Calls Try.prog 3 #[.agg #[.int .i64 s.epoch, .slice A1 s.L.length c1, .slice A2 s.H.length c2, .int .i64 s.next, .int .u64 s.now, .int .i64 q.kind, .int .i64 q.ep, .int .i64 q.sess, .int .i64 q.seq, .string q.tok, .int .i64 q.okind, .string q.key, .string q.val, .string q.lo, .string q.hi, .int .i64 q.most, .int .i64 id, .int .i64 conn, .string last, .int .i64 txn]] w fun e w' => e = .returned (.bool true) ∧ Below w.heap.size w w' := by
  obtain ⟨hS, hn, hr, hnx⟩ := h
  obtain ⟨W, hW, K1, K2, K3, HW, hs⟩ := boxes3 w #[.int .i64 s.epoch, .slice A1 s.L.length c1, .slice A2 s.H.length c2, .int .i64 s.next, .int .u64 s.now, .int .i64 q.kind, .int .i64 q.ep, .int .i64 q.sess, .int .i64 q.seq, .string q.tok, .int .i64 q.okind, .string q.key, .string q.val, .string q.lo, .string q.hi, .int .i64 q.most, .int .i64 id, .int .i64 conn, .string last, .int .i64 txn] 32 #[.int .i64 s.epoch, .slice A1 s.L.length c1, .slice A2 s.H.length c2, .int .i64 s.next, .int .u64 s.now] 26 #[.int .i64 q.kind, .int .i64 q.ep, .int .i64 q.sess, .int .i64 q.seq, .string q.tok, .int .i64 q.okind, .string q.key, .string q.val, .string q.lo, .string q.hi, .int .i64 q.most] 30
  have HS0 := Lib.hid (hS.below HW)
  have r1 := blk_cells K1
  have k2_0 := Lib.hid K2
  have k3_0 := Lib.hid K3
  have HB0 := Lib.hid HW
  have B0 : Below W.heap.size W W := bl_refl W
  have HN := Lib.hid hn
  have HR := Lib.hid hr
  have HSZ := Lib.hid hs
  clear HW K1 K2 K3 hS hn hr hnx hs
  go_enter Try.func3, Try.ntmps3
  go_wp2_with fail
  clear hW
  refine (shown17 W).mono ?_
  rintro e w1 ⟨rfl, hb⟩
  have k2_1 := Lib.hid (blk_below k2_0.out hb)
  have k3_1 := Lib.hid (blk_below k3_0.out hb)
  have HS1 := Lib.hid (HS0.out.below hb)
  have HB1 := Lib.hid (HB0.out.trans (Below.mono hb HB0.out.size))
  clear k2_0 k3_0 HS0 HB0
  clear hb r1 B0
  have rk2 := blk_cells k2_1.out
  have rk3 := blk_cells k3_1.out
  have Bc := bl_refl w1
  go_wp2_with fail
  clear rk2 rk3 Bc
  by_cases hf : s.L.length ≤ 100 ∧ s.H.length ≤ 100
  rotate_left
  · refine (few18 _ _ s w1 HS1.out false (by rcases Decidable.not_and_iff_or_not.1 hf with h | h <;> simp [h])).mono ?_
    rintro e w2 ⟨rfl, hb⟩
    have HBf := Lib.hid (HB1.out.trans (Below.mono hb HB1.out.size))
    clear hb hf
    go_wp2
    go_ret
    exact ⟨rfl, HBf.out⟩
  have HF := Lib.hid hf
  refine (few18 _ _ s w1 HS1.out true (by simp [hf])).mono ?_
  rintro e w2 ⟨rfl, hb⟩
  clear hf
  have k2_2 := Lib.hid (blk_below k2_1.out hb)
  have k3_2 := Lib.hid (blk_below k3_1.out hb)
  have HS2 := Lib.hid (HS1.out.below hb)
  have HB2 := Lib.hid (HB1.out.trans (Below.mono hb HB1.out.size))
  clear k2_1 k3_1 HS1 HB1
  clear hb
  have rk2 := blk_cells k2_2.out
  have rk3 := blk_cells k3_2.out
  have Bc := bl_refl w2
  go_wp2_with fail
  clear rk2 rk3 Bc
  obtain ⟨j1, j2, hj⟩ : ∃ j1 j2, s.judge q = (j1, j2) := ⟨_, _, rfl⟩
  have hc := judge19 _ _ s q w2 HS2.out HR.out
  rw [hj] at hc
  have HJ := Lib.hid hj
  clear hj
  refine hc.mono ?_
  rintro e w3 ⟨rfl, hb⟩
  clear hc
  have k2_3 := Lib.hid (blk_below k2_2.out hb)
  have k3_3 := Lib.hid (blk_below k3_2.out hb)
  have HS3 := Lib.hid (HS2.out.below hb)
  have HB3 := Lib.hid (HB2.out.trans (Below.mono hb HB2.out.size))
  clear k2_2 k3_2 HS2 HB2
  clear hb
  have rk2 := blk_cells k2_3.out
  have rk3 := blk_cells k3_3.out
  have Bc := bl_refl w3
  go_wp2_with fail
  clear rk2 rk3 Bc
  have hj := HJ.out
  clear HJ
  have hc := judge20 _ _ s q w3 HS3.out
  rw [hj] at hc
  refine hc.mono ?_
  rintro e w4 ⟨rfl, hb⟩
  clear hc
  clear hj
  have k2_4 := Lib.hid (blk_below k2_3.out hb)
  have k3_4 := Lib.hid (blk_below k3_3.out hb)
  have HS4 := Lib.hid (HS3.out.below hb)
  have HB4 := Lib.hid (HB3.out.trans (Below.mono hb HB3.out.size))
  clear k2_3 k3_3 HS3 HB3
  clear hb
  have rk2 := blk_cells k2_4.out
  have rk3 := blk_cells k3_4.out
  have Bc := bl_refl w4
  go_wp2_with fail
  clear rk2 rk3 Bc
  obtain ⟨sx, ex, hx⟩ : ∃ sx ex, s.takeF id conn = (sx, ex) := ⟨_, _, rfl⟩
  have Hx := Lib.hid hx
  clear hx
  have hc := take21 _ _ s id conn w4 HS4.out HN.out (by have := HF.out; omega) (by have := HF.out; omega)
  rw [Hx.out] at hc
  refine hc.mono ?_
  rintro e w5 ⟨v, rfl, hS, hb⟩
  clear hc
  have k2_5 := Lib.hid (blk_below k2_4.out hb)
  have k3_5 := Lib.hid (blk_below k3_4.out hb)
  have HS5 := Lib.hid (HS4.out.below hb)
  have HB5 := Lib.hid (HB4.out.trans (Below.mono hb HB4.out.size))
  clear k2_4 k3_4 HS4 HB4
  have Tx0g5 := Lib.hid (hS.mono (fun _ _ _ => trivial) : IsSS (fun _ => True) w5 v sx)
  obtain ⟨Ax0, cx0, Dx0, dx0, rfl, _, _, _, _⟩ := hS
  clear hb
  have rk2 := blk_cells k2_5.out
  have rk3 := blk_cells k3_5.out
  have Bc := bl_refl w5
  go_wp2_with fail
  clear rk2 rk3 Bc
  have hnew := blk_new w5 (.cells #[.int .i64 sx.epoch, .slice Ax0 sx.L.length cx0, .slice Dx0 sx.H.length dx0, .int .i64 sx.next, .int .u64 sx.now] 26)
  have k2_6 := Lib.hid (blk_below k2_5.out (bl_alloc (.cells #[.int .i64 sx.epoch, .slice Ax0 sx.L.length cx0, .slice Dx0 sx.H.length dx0, .int .i64 sx.next, .int .u64 sx.now] 26) (bl_refl w5)))
  have k3_6 := Lib.hid (blk_below k3_5.out (bl_alloc (.cells #[.int .i64 sx.epoch, .slice Ax0 sx.L.length cx0, .slice Dx0 sx.H.length dx0, .int .i64 sx.next, .int .u64 sx.now] 26) (bl_refl w5)))
  have HS6 := Lib.hid (HS5.out.below (bl_alloc (.cells #[.int .i64 sx.epoch, .slice Ax0 sx.L.length cx0, .slice Dx0 sx.H.length dx0, .int .i64 sx.next, .int .u64 sx.now] 26) (bl_refl w5)))
  have Tx0g6 := Lib.hid (Tx0g5.out.below (bl_alloc (.cells #[.int .i64 sx.epoch, .slice Ax0 sx.L.length cx0, .slice Dx0 sx.H.length dx0, .int .i64 sx.next, .int .u64 sx.now] 26) (bl_refl w5)))
  have HB6 := Lib.hid (HB5.out.trans (Below.mono (bl_alloc (.cells #[.int .i64 sx.epoch, .slice Ax0 sx.L.length cx0, .slice Dx0 sx.H.length dx0, .int .i64 sx.next, .int .u64 sx.now] 26) (bl_refl w5)) HB5.out.size))
  clear k2_5 k3_5 HS5 Tx0g5 HB5
  have qx0_6 := Lib.hid hnew
  clear hnew
  generalize w5.alloc (.cells #[.int .i64 sx.epoch, .slice Ax0 sx.L.length cx0, .slice Dx0 sx.H.length dx0, .int .i64 sx.next, .int .u64 sx.now] 26) = V5 at k2_6 k3_6 qx0_6 HS6 Tx0g6 HB6 ⊢
  obtain ⟨bx0, hbb⟩ : ∃ b, w5.heap.size = b := ⟨_, rfl⟩
  rw [hbb] at qx0_6 ⊢
  clear hbb
  have hc := take22 _ _ s id conn V5 HS6.out HN.out (by have := HF.out; omega) (by have := HF.out; omega)
  rw [Hx.out] at hc
  refine hc.mono ?_
  rintro e w6 ⟨v, rfl, hS, hb⟩
  clear hc
  have k2_7 := Lib.hid (blk_below k2_6.out hb)
  have k3_7 := Lib.hid (blk_below k3_6.out hb)
  have qx0_7 := Lib.hid (blk_below qx0_6.out hb)
  have HS7 := Lib.hid (HS6.out.below hb)
  have Tx0g7 := Lib.hid (Tx0g6.out.below hb)
  have HB7 := Lib.hid (HB6.out.trans (Below.mono hb HB6.out.size))
  clear k2_6 k3_6 qx0_6 HS6 Tx0g6 HB6
  have Tx1g7 := Lib.hid (hS.mono (fun _ _ _ => trivial) : IsSS (fun _ => True) w6 v sx)
  obtain ⟨Ax1, cx1, Dx1, dx1, rfl, _, _, _, _⟩ := hS
  clear hb
  have rk2 := blk_cells k2_7.out
  have rk3 := blk_cells k3_7.out
  have Bc := bl_refl w6
  go_wp2_with fail
  clear rk2 rk3 Bc
  have hnew := blk_new w6 (.cells #[.int .i64 sx.epoch, .slice Ax1 sx.L.length cx1, .slice Dx1 sx.H.length dx1, .int .i64 sx.next, .int .u64 sx.now] 26)
  have k2_8 := Lib.hid (blk_below k2_7.out (bl_alloc (.cells #[.int .i64 sx.epoch, .slice Ax1 sx.L.length cx1, .slice Dx1 sx.H.length dx1, .int .i64 sx.next, .int .u64 sx.now] 26) (bl_refl w6)))
  have k3_8 := Lib.hid (blk_below k3_7.out (bl_alloc (.cells #[.int .i64 sx.epoch, .slice Ax1 sx.L.length cx1, .slice Dx1 sx.H.length dx1, .int .i64 sx.next, .int .u64 sx.now] 26) (bl_refl w6)))
  have qx0_8 := Lib.hid (blk_below qx0_7.out (bl_alloc (.cells #[.int .i64 sx.epoch, .slice Ax1 sx.L.length cx1, .slice Dx1 sx.H.length dx1, .int .i64 sx.next, .int .u64 sx.now] 26) (bl_refl w6)))
  have HS8 := Lib.hid (HS7.out.below (bl_alloc (.cells #[.int .i64 sx.epoch, .slice Ax1 sx.L.length cx1, .slice Dx1 sx.H.length dx1, .int .i64 sx.next, .int .u64 sx.now] 26) (bl_refl w6)))
  have Tx0g8 := Lib.hid (Tx0g7.out.below (bl_alloc (.cells #[.int .i64 sx.epoch, .slice Ax1 sx.L.length cx1, .slice Dx1 sx.H.length dx1, .int .i64 sx.next, .int .u64 sx.now] 26) (bl_refl w6)))
  have Tx1g8 := Lib.hid (Tx1g7.out.below (bl_alloc (.cells #[.int .i64 sx.epoch, .slice Ax1 sx.L.length cx1, .slice Dx1 sx.H.length dx1, .int .i64 sx.next, .int .u64 sx.now] 26) (bl_refl w6)))
  have HB8 := Lib.hid (HB7.out.trans (Below.mono (bl_alloc (.cells #[.int .i64 sx.epoch, .slice Ax1 sx.L.length cx1, .slice Dx1 sx.H.length dx1, .int .i64 sx.next, .int .u64 sx.now] 26) (bl_refl w6)) HB7.out.size))
  clear k2_7 k3_7 qx0_7 HS7 Tx0g7 Tx1g7 HB7
  have qx1_8 := Lib.hid hnew
  clear hnew
  generalize w6.alloc (.cells #[.int .i64 sx.epoch, .slice Ax1 sx.L.length cx1, .slice Dx1 sx.H.length dx1, .int .i64 sx.next, .int .u64 sx.now] 26) = V6 at k2_8 k3_8 qx0_8 qx1_8 HS8 Tx0g8 Tx1g8 HB8 ⊢
  obtain ⟨bx1, hbb⟩ : ∃ b, w6.heap.size = b := ⟨_, rfl⟩
  rw [hbb] at qx1_8 ⊢
  clear hbb
  obtain ⟨sy, ey, hy⟩ : ∃ sy ey, s.withF id (an last) = (sy, ey) := ⟨_, _, rfl⟩
  have Hy := Lib.hid hy
  clear hy
  have hc := answer23 _ _ s id last V6 HS8.out (by have := HF.out; omega)
  rw [Hy.out] at hc
  refine hc.mono ?_
  rintro e w7 ⟨v, rfl, hS, hb⟩
  clear hc
  have k2_9 := Lib.hid (blk_below k2_8.out hb)
  have k3_9 := Lib.hid (blk_below k3_8.out hb)
  have qx0_9 := Lib.hid (blk_below qx0_8.out hb)
  have qx1_9 := Lib.hid (blk_below qx1_8.out hb)
  have HS9 := Lib.hid (HS8.out.below hb)
  have Tx0g9 := Lib.hid (Tx0g8.out.below hb)
  have Tx1g9 := Lib.hid (Tx1g8.out.below hb)
  have HB9 := Lib.hid (HB8.out.trans (Below.mono hb HB8.out.size))
  clear k2_8 k3_8 qx0_8 qx1_8 HS8 Tx0g8 Tx1g8 HB8
  have Ty0g9 := Lib.hid (hS.mono (fun _ _ _ => trivial) : IsSS (fun _ => True) w7 v sy)
  obtain ⟨Ay0, cy0, Dy0, dy0, rfl, _, _, _, _⟩ := hS
  clear hb
  have rk2 := blk_cells k2_9.out
  have rk3 := blk_cells k3_9.out
  have Bc := bl_refl w7
  go_wp2_with fail
  clear rk2 rk3 Bc
  have hnew := blk_new w7 (.cells #[.int .i64 sy.epoch, .slice Ay0 sy.L.length cy0, .slice Dy0 sy.H.length dy0, .int .i64 sy.next, .int .u64 sy.now] 26)
  have k2_10 := Lib.hid (blk_below k2_9.out (bl_alloc (.cells #[.int .i64 sy.epoch, .slice Ay0 sy.L.length cy0, .slice Dy0 sy.H.length dy0, .int .i64 sy.next, .int .u64 sy.now] 26) (bl_refl w7)))
  have k3_10 := Lib.hid (blk_below k3_9.out (bl_alloc (.cells #[.int .i64 sy.epoch, .slice Ay0 sy.L.length cy0, .slice Dy0 sy.H.length dy0, .int .i64 sy.next, .int .u64 sy.now] 26) (bl_refl w7)))
  have qx0_10 := Lib.hid (blk_below qx0_9.out (bl_alloc (.cells #[.int .i64 sy.epoch, .slice Ay0 sy.L.length cy0, .slice Dy0 sy.H.length dy0, .int .i64 sy.next, .int .u64 sy.now] 26) (bl_refl w7)))
  have qx1_10 := Lib.hid (blk_below qx1_9.out (bl_alloc (.cells #[.int .i64 sy.epoch, .slice Ay0 sy.L.length cy0, .slice Dy0 sy.H.length dy0, .int .i64 sy.next, .int .u64 sy.now] 26) (bl_refl w7)))
  have HS10 := Lib.hid (HS9.out.below (bl_alloc (.cells #[.int .i64 sy.epoch, .slice Ay0 sy.L.length cy0, .slice Dy0 sy.H.length dy0, .int .i64 sy.next, .int .u64 sy.now] 26) (bl_refl w7)))
  have Tx0g10 := Lib.hid (Tx0g9.out.below (bl_alloc (.cells #[.int .i64 sy.epoch, .slice Ay0 sy.L.length cy0, .slice Dy0 sy.H.length dy0, .int .i64 sy.next, .int .u64 sy.now] 26) (bl_refl w7)))
  have Tx1g10 := Lib.hid (Tx1g9.out.below (bl_alloc (.cells #[.int .i64 sy.epoch, .slice Ay0 sy.L.length cy0, .slice Dy0 sy.H.length dy0, .int .i64 sy.next, .int .u64 sy.now] 26) (bl_refl w7)))
  have Ty0g10 := Lib.hid (Ty0g9.out.below (bl_alloc (.cells #[.int .i64 sy.epoch, .slice Ay0 sy.L.length cy0, .slice Dy0 sy.H.length dy0, .int .i64 sy.next, .int .u64 sy.now] 26) (bl_refl w7)))
  have HB10 := Lib.hid (HB9.out.trans (Below.mono (bl_alloc (.cells #[.int .i64 sy.epoch, .slice Ay0 sy.L.length cy0, .slice Dy0 sy.H.length dy0, .int .i64 sy.next, .int .u64 sy.now] 26) (bl_refl w7)) HB9.out.size))
  clear k2_9 k3_9 qx0_9 qx1_9 HS9 Tx0g9 Tx1g9 Ty0g9 HB9
  have qy0_10 := Lib.hid hnew
  clear hnew
  generalize w7.alloc (.cells #[.int .i64 sy.epoch, .slice Ay0 sy.L.length cy0, .slice Dy0 sy.H.length dy0, .int .i64 sy.next, .int .u64 sy.now] 26) = V7 at k2_10 k3_10 qx0_10 qx1_10 qy0_10 HS10 Tx0g10 Tx1g10 Ty0g10 HB10 ⊢
  obtain ⟨by0, hbb⟩ : ∃ b, w7.heap.size = b := ⟨_, rfl⟩
  rw [hbb] at qy0_10 ⊢
  clear hbb
  have hc := answer24 _ _ s id last V7 HS10.out (by have := HF.out; omega)
  rw [Hy.out] at hc
  refine hc.mono ?_
  rintro e w8 ⟨v, rfl, hS, hb⟩
  clear hc
  have k2_11 := Lib.hid (blk_below k2_10.out hb)
  have k3_11 := Lib.hid (blk_below k3_10.out hb)
  have qx0_11 := Lib.hid (blk_below qx0_10.out hb)
  have qx1_11 := Lib.hid (blk_below qx1_10.out hb)
  have qy0_11 := Lib.hid (blk_below qy0_10.out hb)
  have HS11 := Lib.hid (HS10.out.below hb)
  have Tx0g11 := Lib.hid (Tx0g10.out.below hb)
  have Tx1g11 := Lib.hid (Tx1g10.out.below hb)
  have Ty0g11 := Lib.hid (Ty0g10.out.below hb)
  have HB11 := Lib.hid (HB10.out.trans (Below.mono hb HB10.out.size))
  clear k2_10 k3_10 qx0_10 qx1_10 qy0_10 HS10 Tx0g10 Tx1g10 Ty0g10 HB10
  have Ty1g11 := Lib.hid (hS.mono (fun _ _ _ => trivial) : IsSS (fun _ => True) w8 v sy)
  obtain ⟨Ay1, cy1, Dy1, dy1, rfl, _, _, _, _⟩ := hS
  clear hb
  have rk2 := blk_cells k2_11.out
  have rk3 := blk_cells k3_11.out
  have Bc := bl_refl w8
  go_wp2_with fail
  clear rk2 rk3 Bc
  have hnew := blk_new w8 (.cells #[.int .i64 sy.epoch, .slice Ay1 sy.L.length cy1, .slice Dy1 sy.H.length dy1, .int .i64 sy.next, .int .u64 sy.now] 26)
  have k2_12 := Lib.hid (blk_below k2_11.out (bl_alloc (.cells #[.int .i64 sy.epoch, .slice Ay1 sy.L.length cy1, .slice Dy1 sy.H.length dy1, .int .i64 sy.next, .int .u64 sy.now] 26) (bl_refl w8)))
  have k3_12 := Lib.hid (blk_below k3_11.out (bl_alloc (.cells #[.int .i64 sy.epoch, .slice Ay1 sy.L.length cy1, .slice Dy1 sy.H.length dy1, .int .i64 sy.next, .int .u64 sy.now] 26) (bl_refl w8)))
  have qx0_12 := Lib.hid (blk_below qx0_11.out (bl_alloc (.cells #[.int .i64 sy.epoch, .slice Ay1 sy.L.length cy1, .slice Dy1 sy.H.length dy1, .int .i64 sy.next, .int .u64 sy.now] 26) (bl_refl w8)))
  have qx1_12 := Lib.hid (blk_below qx1_11.out (bl_alloc (.cells #[.int .i64 sy.epoch, .slice Ay1 sy.L.length cy1, .slice Dy1 sy.H.length dy1, .int .i64 sy.next, .int .u64 sy.now] 26) (bl_refl w8)))
  have qy0_12 := Lib.hid (blk_below qy0_11.out (bl_alloc (.cells #[.int .i64 sy.epoch, .slice Ay1 sy.L.length cy1, .slice Dy1 sy.H.length dy1, .int .i64 sy.next, .int .u64 sy.now] 26) (bl_refl w8)))
  have HS12 := Lib.hid (HS11.out.below (bl_alloc (.cells #[.int .i64 sy.epoch, .slice Ay1 sy.L.length cy1, .slice Dy1 sy.H.length dy1, .int .i64 sy.next, .int .u64 sy.now] 26) (bl_refl w8)))
  have Tx0g12 := Lib.hid (Tx0g11.out.below (bl_alloc (.cells #[.int .i64 sy.epoch, .slice Ay1 sy.L.length cy1, .slice Dy1 sy.H.length dy1, .int .i64 sy.next, .int .u64 sy.now] 26) (bl_refl w8)))
  have Tx1g12 := Lib.hid (Tx1g11.out.below (bl_alloc (.cells #[.int .i64 sy.epoch, .slice Ay1 sy.L.length cy1, .slice Dy1 sy.H.length dy1, .int .i64 sy.next, .int .u64 sy.now] 26) (bl_refl w8)))
  have Ty0g12 := Lib.hid (Ty0g11.out.below (bl_alloc (.cells #[.int .i64 sy.epoch, .slice Ay1 sy.L.length cy1, .slice Dy1 sy.H.length dy1, .int .i64 sy.next, .int .u64 sy.now] 26) (bl_refl w8)))
  have Ty1g12 := Lib.hid (Ty1g11.out.below (bl_alloc (.cells #[.int .i64 sy.epoch, .slice Ay1 sy.L.length cy1, .slice Dy1 sy.H.length dy1, .int .i64 sy.next, .int .u64 sy.now] 26) (bl_refl w8)))
  have HB12 := Lib.hid (HB11.out.trans (Below.mono (bl_alloc (.cells #[.int .i64 sy.epoch, .slice Ay1 sy.L.length cy1, .slice Dy1 sy.H.length dy1, .int .i64 sy.next, .int .u64 sy.now] 26) (bl_refl w8)) HB11.out.size))
  clear k2_11 k3_11 qx0_11 qx1_11 qy0_11 HS11 Tx0g11 Tx1g11 Ty0g11 Ty1g11 HB11
  have qy1_12 := Lib.hid hnew
  clear hnew
  generalize w8.alloc (.cells #[.int .i64 sy.epoch, .slice Ay1 sy.L.length cy1, .slice Dy1 sy.H.length dy1, .int .i64 sy.next, .int .u64 sy.now] 26) = V8 at k2_12 k3_12 qx0_12 qx1_12 qy0_12 qy1_12 HS12 Tx0g12 Tx1g12 Ty0g12 Ty1g12 HB12 ⊢
  obtain ⟨by1, hbb⟩ : ∃ b, w8.heap.size = b := ⟨_, rfl⟩
  rw [hbb] at qy1_12 ⊢
  clear hbb
  obtain ⟨sz, ez, hz⟩ : ∃ sz ez, s.withF id (bi txn) = (sz, ez) := ⟨_, _, rfl⟩
  have Hz := Lib.hid hz
  clear hz
  have hc := bind25 _ _ s id txn V8 HS12.out (by have := HF.out; omega)
  rw [Hz.out] at hc
  refine hc.mono ?_
  rintro e w9 ⟨v, rfl, hS, hb⟩
  clear hc
  have k2_13 := Lib.hid (blk_below k2_12.out hb)
  have k3_13 := Lib.hid (blk_below k3_12.out hb)
  have qx0_13 := Lib.hid (blk_below qx0_12.out hb)
  have qx1_13 := Lib.hid (blk_below qx1_12.out hb)
  have qy0_13 := Lib.hid (blk_below qy0_12.out hb)
  have qy1_13 := Lib.hid (blk_below qy1_12.out hb)
  have HS13 := Lib.hid (HS12.out.below hb)
  have Tx0g13 := Lib.hid (Tx0g12.out.below hb)
  have Tx1g13 := Lib.hid (Tx1g12.out.below hb)
  have Ty0g13 := Lib.hid (Ty0g12.out.below hb)
  have Ty1g13 := Lib.hid (Ty1g12.out.below hb)
  have HB13 := Lib.hid (HB12.out.trans (Below.mono hb HB12.out.size))
  clear k2_12 k3_12 qx0_12 qx1_12 qy0_12 qy1_12 HS12 Tx0g12 Tx1g12 Ty0g12 Ty1g12 HB12
  have Tz0g13 := Lib.hid (hS.mono (fun _ _ _ => trivial) : IsSS (fun _ => True) w9 v sz)
  obtain ⟨Az0, cz0, Dz0, dz0, rfl, _, _, _, _⟩ := hS
  clear hb
  have rk2 := blk_cells k2_13.out
  have rk3 := blk_cells k3_13.out
  have Bc := bl_refl w9
  go_wp2_with fail
  clear rk2 rk3 Bc
  have hnew := blk_new w9 (.cells #[.int .i64 sz.epoch, .slice Az0 sz.L.length cz0, .slice Dz0 sz.H.length dz0, .int .i64 sz.next, .int .u64 sz.now] 26)
  have k2_14 := Lib.hid (blk_below k2_13.out (bl_alloc (.cells #[.int .i64 sz.epoch, .slice Az0 sz.L.length cz0, .slice Dz0 sz.H.length dz0, .int .i64 sz.next, .int .u64 sz.now] 26) (bl_refl w9)))
  have k3_14 := Lib.hid (blk_below k3_13.out (bl_alloc (.cells #[.int .i64 sz.epoch, .slice Az0 sz.L.length cz0, .slice Dz0 sz.H.length dz0, .int .i64 sz.next, .int .u64 sz.now] 26) (bl_refl w9)))
  have qx0_14 := Lib.hid (blk_below qx0_13.out (bl_alloc (.cells #[.int .i64 sz.epoch, .slice Az0 sz.L.length cz0, .slice Dz0 sz.H.length dz0, .int .i64 sz.next, .int .u64 sz.now] 26) (bl_refl w9)))
  have qx1_14 := Lib.hid (blk_below qx1_13.out (bl_alloc (.cells #[.int .i64 sz.epoch, .slice Az0 sz.L.length cz0, .slice Dz0 sz.H.length dz0, .int .i64 sz.next, .int .u64 sz.now] 26) (bl_refl w9)))
  have qy0_14 := Lib.hid (blk_below qy0_13.out (bl_alloc (.cells #[.int .i64 sz.epoch, .slice Az0 sz.L.length cz0, .slice Dz0 sz.H.length dz0, .int .i64 sz.next, .int .u64 sz.now] 26) (bl_refl w9)))
  have qy1_14 := Lib.hid (blk_below qy1_13.out (bl_alloc (.cells #[.int .i64 sz.epoch, .slice Az0 sz.L.length cz0, .slice Dz0 sz.H.length dz0, .int .i64 sz.next, .int .u64 sz.now] 26) (bl_refl w9)))
  have HS14 := Lib.hid (HS13.out.below (bl_alloc (.cells #[.int .i64 sz.epoch, .slice Az0 sz.L.length cz0, .slice Dz0 sz.H.length dz0, .int .i64 sz.next, .int .u64 sz.now] 26) (bl_refl w9)))
  have Tx0g14 := Lib.hid (Tx0g13.out.below (bl_alloc (.cells #[.int .i64 sz.epoch, .slice Az0 sz.L.length cz0, .slice Dz0 sz.H.length dz0, .int .i64 sz.next, .int .u64 sz.now] 26) (bl_refl w9)))
  have Tx1g14 := Lib.hid (Tx1g13.out.below (bl_alloc (.cells #[.int .i64 sz.epoch, .slice Az0 sz.L.length cz0, .slice Dz0 sz.H.length dz0, .int .i64 sz.next, .int .u64 sz.now] 26) (bl_refl w9)))
  have Ty0g14 := Lib.hid (Ty0g13.out.below (bl_alloc (.cells #[.int .i64 sz.epoch, .slice Az0 sz.L.length cz0, .slice Dz0 sz.H.length dz0, .int .i64 sz.next, .int .u64 sz.now] 26) (bl_refl w9)))
  have Ty1g14 := Lib.hid (Ty1g13.out.below (bl_alloc (.cells #[.int .i64 sz.epoch, .slice Az0 sz.L.length cz0, .slice Dz0 sz.H.length dz0, .int .i64 sz.next, .int .u64 sz.now] 26) (bl_refl w9)))
  have Tz0g14 := Lib.hid (Tz0g13.out.below (bl_alloc (.cells #[.int .i64 sz.epoch, .slice Az0 sz.L.length cz0, .slice Dz0 sz.H.length dz0, .int .i64 sz.next, .int .u64 sz.now] 26) (bl_refl w9)))
  have HB14 := Lib.hid (HB13.out.trans (Below.mono (bl_alloc (.cells #[.int .i64 sz.epoch, .slice Az0 sz.L.length cz0, .slice Dz0 sz.H.length dz0, .int .i64 sz.next, .int .u64 sz.now] 26) (bl_refl w9)) HB13.out.size))
  clear k2_13 k3_13 qx0_13 qx1_13 qy0_13 qy1_13 HS13 Tx0g13 Tx1g13 Ty0g13 Ty1g13 Tz0g13 HB13
  have qz0_14 := Lib.hid hnew
  clear hnew
  generalize w9.alloc (.cells #[.int .i64 sz.epoch, .slice Az0 sz.L.length cz0, .slice Dz0 sz.H.length dz0, .int .i64 sz.next, .int .u64 sz.now] 26) = V9 at k2_14 k3_14 qx0_14 qx1_14 qy0_14 qy1_14 qz0_14 HS14 Tx0g14 Tx1g14 Ty0g14 Ty1g14 Tz0g14 HB14 ⊢
  obtain ⟨bz0, hbb⟩ : ∃ b, w9.heap.size = b := ⟨_, rfl⟩
  rw [hbb] at qz0_14 ⊢
  clear hbb
  have hc := bind26 _ _ s id txn V9 HS14.out (by have := HF.out; omega)
  rw [Hz.out] at hc
  refine hc.mono ?_
  rintro e w10 ⟨v, rfl, hS, hb⟩
  clear hc
  have k2_15 := Lib.hid (blk_below k2_14.out hb)
  have k3_15 := Lib.hid (blk_below k3_14.out hb)
  have qx0_15 := Lib.hid (blk_below qx0_14.out hb)
  have qx1_15 := Lib.hid (blk_below qx1_14.out hb)
  have qy0_15 := Lib.hid (blk_below qy0_14.out hb)
  have qy1_15 := Lib.hid (blk_below qy1_14.out hb)
  have qz0_15 := Lib.hid (blk_below qz0_14.out hb)
  have HS15 := Lib.hid (HS14.out.below hb)
  have Tx0g15 := Lib.hid (Tx0g14.out.below hb)
  have Tx1g15 := Lib.hid (Tx1g14.out.below hb)
  have Ty0g15 := Lib.hid (Ty0g14.out.below hb)
  have Ty1g15 := Lib.hid (Ty1g14.out.below hb)
  have Tz0g15 := Lib.hid (Tz0g14.out.below hb)
  have HB15 := Lib.hid (HB14.out.trans (Below.mono hb HB14.out.size))
  clear k2_14 k3_14 qx0_14 qx1_14 qy0_14 qy1_14 qz0_14 HS14 Tx0g14 Tx1g14 Ty0g14 Ty1g14 Tz0g14 HB14
  have Tz1g15 := Lib.hid (hS.mono (fun _ _ _ => trivial) : IsSS (fun _ => True) w10 v sz)
  obtain ⟨Az1, cz1, Dz1, dz1, rfl, _, _, _, _⟩ := hS
  clear hb
  have rk2 := blk_cells k2_15.out
  have rk3 := blk_cells k3_15.out
  have Bc := bl_refl w10
  go_wp2_with ((with_reducible refine gate_dst (N := 104) rfl ?_); refine Stop.go ?_)
  clear rk2 rk3 Bc
  have hnew := blk_new w10 (.cells #[.int .i64 sz.epoch, .slice Az1 sz.L.length cz1, .slice Dz1 sz.H.length dz1, .int .i64 sz.next, .int .u64 sz.now] 26)
  have k2_16 := Lib.hid (blk_below k2_15.out (bl_alloc (.cells #[.int .i64 sz.epoch, .slice Az1 sz.L.length cz1, .slice Dz1 sz.H.length dz1, .int .i64 sz.next, .int .u64 sz.now] 26) (bl_refl w10)))
  have k3_16 := Lib.hid (blk_below k3_15.out (bl_alloc (.cells #[.int .i64 sz.epoch, .slice Az1 sz.L.length cz1, .slice Dz1 sz.H.length dz1, .int .i64 sz.next, .int .u64 sz.now] 26) (bl_refl w10)))
  have qx0_16 := Lib.hid (blk_below qx0_15.out (bl_alloc (.cells #[.int .i64 sz.epoch, .slice Az1 sz.L.length cz1, .slice Dz1 sz.H.length dz1, .int .i64 sz.next, .int .u64 sz.now] 26) (bl_refl w10)))
  have qx1_16 := Lib.hid (blk_below qx1_15.out (bl_alloc (.cells #[.int .i64 sz.epoch, .slice Az1 sz.L.length cz1, .slice Dz1 sz.H.length dz1, .int .i64 sz.next, .int .u64 sz.now] 26) (bl_refl w10)))
  have qy0_16 := Lib.hid (blk_below qy0_15.out (bl_alloc (.cells #[.int .i64 sz.epoch, .slice Az1 sz.L.length cz1, .slice Dz1 sz.H.length dz1, .int .i64 sz.next, .int .u64 sz.now] 26) (bl_refl w10)))
  have qy1_16 := Lib.hid (blk_below qy1_15.out (bl_alloc (.cells #[.int .i64 sz.epoch, .slice Az1 sz.L.length cz1, .slice Dz1 sz.H.length dz1, .int .i64 sz.next, .int .u64 sz.now] 26) (bl_refl w10)))
  have qz0_16 := Lib.hid (blk_below qz0_15.out (bl_alloc (.cells #[.int .i64 sz.epoch, .slice Az1 sz.L.length cz1, .slice Dz1 sz.H.length dz1, .int .i64 sz.next, .int .u64 sz.now] 26) (bl_refl w10)))
  have HS16 := Lib.hid (HS15.out.below (bl_alloc (.cells #[.int .i64 sz.epoch, .slice Az1 sz.L.length cz1, .slice Dz1 sz.H.length dz1, .int .i64 sz.next, .int .u64 sz.now] 26) (bl_refl w10)))
  have Tx0g16 := Lib.hid (Tx0g15.out.below (bl_alloc (.cells #[.int .i64 sz.epoch, .slice Az1 sz.L.length cz1, .slice Dz1 sz.H.length dz1, .int .i64 sz.next, .int .u64 sz.now] 26) (bl_refl w10)))
  have Tx1g16 := Lib.hid (Tx1g15.out.below (bl_alloc (.cells #[.int .i64 sz.epoch, .slice Az1 sz.L.length cz1, .slice Dz1 sz.H.length dz1, .int .i64 sz.next, .int .u64 sz.now] 26) (bl_refl w10)))
  have Ty0g16 := Lib.hid (Ty0g15.out.below (bl_alloc (.cells #[.int .i64 sz.epoch, .slice Az1 sz.L.length cz1, .slice Dz1 sz.H.length dz1, .int .i64 sz.next, .int .u64 sz.now] 26) (bl_refl w10)))
  have Ty1g16 := Lib.hid (Ty1g15.out.below (bl_alloc (.cells #[.int .i64 sz.epoch, .slice Az1 sz.L.length cz1, .slice Dz1 sz.H.length dz1, .int .i64 sz.next, .int .u64 sz.now] 26) (bl_refl w10)))
  have Tz0g16 := Lib.hid (Tz0g15.out.below (bl_alloc (.cells #[.int .i64 sz.epoch, .slice Az1 sz.L.length cz1, .slice Dz1 sz.H.length dz1, .int .i64 sz.next, .int .u64 sz.now] 26) (bl_refl w10)))
  have Tz1g16 := Lib.hid (Tz1g15.out.below (bl_alloc (.cells #[.int .i64 sz.epoch, .slice Az1 sz.L.length cz1, .slice Dz1 sz.H.length dz1, .int .i64 sz.next, .int .u64 sz.now] 26) (bl_refl w10)))
  have HB16 := Lib.hid (HB15.out.trans (Below.mono (bl_alloc (.cells #[.int .i64 sz.epoch, .slice Az1 sz.L.length cz1, .slice Dz1 sz.H.length dz1, .int .i64 sz.next, .int .u64 sz.now] 26) (bl_refl w10)) HB15.out.size))
  clear k2_15 k3_15 qx0_15 qx1_15 qy0_15 qy1_15 qz0_15 HS15 Tx0g15 Tx1g15 Ty0g15 Ty1g15 Tz0g15 Tz1g15 HB15
  have qz1_16 := Lib.hid hnew
  clear hnew
  generalize w10.alloc (.cells #[.int .i64 sz.epoch, .slice Az1 sz.L.length cz1, .slice Dz1 sz.H.length dz1, .int .i64 sz.next, .int .u64 sz.now] 26) = V10 at k2_16 k3_16 qx0_16 qx1_16 qy0_16 qy1_16 qz0_16 qz1_16 HS16 Tx0g16 Tx1g16 Ty0g16 Ty1g16 Tz0g16 Tz1g16 HB16 ⊢
  obtain ⟨bz1, hbb⟩ : ∃ b, w10.heap.size = b := ⟨_, rfl⟩
  rw [hbb] at qz1_16 ⊢
  clear hbb
  refine ⟨?_⟩
  have rqx0 := blk_cells qx0_16.out
  have rqx1 := blk_cells qx1_16.out
  have rqy0 := blk_cells qy0_16.out
  have rqy1 := blk_cells qy1_16.out
  have rqz0 := blk_cells qz0_16.out
  have rqz1 := blk_cells qz1_16.out
  have Bc := bl_refl V10
  go_wp2_with fail
  clear rqx0 rqx1 rqy0 rqy1 rqz0 rqz1 Bc
  refine (same27 _ _ _ _ sx V10 Tx0g16.out Tx1g16.out).mono ?_
  rintro e w11 ⟨rfl, hb⟩
  have k2_17 := Lib.hid (blk_below k2_16.out hb)
  have k3_17 := Lib.hid (blk_below k3_16.out hb)
  have qx0_17 := Lib.hid (blk_below qx0_16.out hb)
  have qx1_17 := Lib.hid (blk_below qx1_16.out hb)
  have qy0_17 := Lib.hid (blk_below qy0_16.out hb)
  have qy1_17 := Lib.hid (blk_below qy1_16.out hb)
  have qz0_17 := Lib.hid (blk_below qz0_16.out hb)
  have qz1_17 := Lib.hid (blk_below qz1_16.out hb)
  have HS17 := Lib.hid (HS16.out.below hb)
  have Tx0g17 := Lib.hid (Tx0g16.out.below hb)
  have Tx1g17 := Lib.hid (Tx1g16.out.below hb)
  have Ty0g17 := Lib.hid (Ty0g16.out.below hb)
  have Ty1g17 := Lib.hid (Ty1g16.out.below hb)
  have Tz0g17 := Lib.hid (Tz0g16.out.below hb)
  have Tz1g17 := Lib.hid (Tz1g16.out.below hb)
  have HB17 := Lib.hid (HB16.out.trans (Below.mono hb HB16.out.size))
  clear k2_16 k3_16 qx0_16 qx1_16 qy0_16 qy1_16 qz0_16 qz1_16 HS16 Tx0g16 Tx1g16 Ty0g16 Ty1g16 Tz0g16 Tz1g16 HB16
  clear hb
  have rqx0 := blk_cells qx0_17.out
  have rqx1 := blk_cells qx1_17.out
  have rqy0 := blk_cells qy0_17.out
  have rqy1 := blk_cells qy1_17.out
  have rqz0 := blk_cells qz0_17.out
  have rqz1 := blk_cells qz1_17.out
  have Bc := bl_refl w11
  go_wp2_with fail
  clear rqx0 rqx1 rqy0 rqy1 rqz0 rqz1 Bc
  refine (same27 _ _ _ _ sy w11 Ty0g17.out Ty1g17.out).mono ?_
  rintro e w12 ⟨rfl, hb⟩
  have k2_18 := Lib.hid (blk_below k2_17.out hb)
  have k3_18 := Lib.hid (blk_below k3_17.out hb)
  have qx0_18 := Lib.hid (blk_below qx0_17.out hb)
  have qx1_18 := Lib.hid (blk_below qx1_17.out hb)
  have qy0_18 := Lib.hid (blk_below qy0_17.out hb)
  have qy1_18 := Lib.hid (blk_below qy1_17.out hb)
  have qz0_18 := Lib.hid (blk_below qz0_17.out hb)
  have qz1_18 := Lib.hid (blk_below qz1_17.out hb)
  have HS18 := Lib.hid (HS17.out.below hb)
  have Tx0g18 := Lib.hid (Tx0g17.out.below hb)
  have Tx1g18 := Lib.hid (Tx1g17.out.below hb)
  have Ty0g18 := Lib.hid (Ty0g17.out.below hb)
  have Ty1g18 := Lib.hid (Ty1g17.out.below hb)
  have Tz0g18 := Lib.hid (Tz0g17.out.below hb)
  have Tz1g18 := Lib.hid (Tz1g17.out.below hb)
  have HB18 := Lib.hid (HB17.out.trans (Below.mono hb HB17.out.size))
  clear k2_17 k3_17 qx0_17 qx1_17 qy0_17 qy1_17 qz0_17 qz1_17 HS17 Tx0g17 Tx1g17 Ty0g17 Ty1g17 Tz0g17 Tz1g17 HB17
  clear hb
  have rqx0 := blk_cells qx0_18.out
  have rqx1 := blk_cells qx1_18.out
  have rqy0 := blk_cells qy0_18.out
  have rqy1 := blk_cells qy1_18.out
  have rqz0 := blk_cells qz0_18.out
  have rqz1 := blk_cells qz1_18.out
  have Bc := bl_refl w12
  go_wp2_with fail
  clear rqx0 rqx1 rqy0 rqy1 rqz0 rqz1 Bc
  refine (same27 _ _ _ _ sz w12 Tz0g18.out Tz1g18.out).mono ?_
  rintro e w13 ⟨rfl, hb⟩
  have k2_19 := Lib.hid (blk_below k2_18.out hb)
  have k3_19 := Lib.hid (blk_below k3_18.out hb)
  have qx0_19 := Lib.hid (blk_below qx0_18.out hb)
  have qx1_19 := Lib.hid (blk_below qx1_18.out hb)
  have qy0_19 := Lib.hid (blk_below qy0_18.out hb)
  have qy1_19 := Lib.hid (blk_below qy1_18.out hb)
  have qz0_19 := Lib.hid (blk_below qz0_18.out hb)
  have qz1_19 := Lib.hid (blk_below qz1_18.out hb)
  have HS19 := Lib.hid (HS18.out.below hb)
  have Tx0g19 := Lib.hid (Tx0g18.out.below hb)
  have Tx1g19 := Lib.hid (Tx1g18.out.below hb)
  have Ty0g19 := Lib.hid (Ty0g18.out.below hb)
  have Ty1g19 := Lib.hid (Ty1g18.out.below hb)
  have Tz0g19 := Lib.hid (Tz0g18.out.below hb)
  have Tz1g19 := Lib.hid (Tz1g18.out.below hb)
  have HB19 := Lib.hid (HB18.out.trans (Below.mono hb HB18.out.size))
  clear k2_18 k3_18 qx0_18 qx1_18 qy0_18 qy1_18 qz0_18 qz1_18 HS18 Tx0g18 Tx1g18 Ty0g18 Ty1g18 Tz0g18 Tz1g18 HB18
  clear hb
  have rqx0 := blk_cells qx0_19.out
  have rqx1 := blk_cells qx1_19.out
  have rqy0 := blk_cells qy0_19.out
  have rqy1 := blk_cells qy1_19.out
  have rqz0 := blk_cells qz0_19.out
  have rqz1 := blk_cells qz1_19.out
  have Bc := bl_refl w13
  go_wp2
  go_ret
  exact ⟨rfl, HB19.out⟩
end Go.Proofs.Ytkcebmamohimoaa
