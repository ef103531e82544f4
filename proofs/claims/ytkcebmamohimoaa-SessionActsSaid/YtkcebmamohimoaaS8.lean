/- Sessions: Judge, the program's and the reference's. -/
import Derived.Test.YtkcebmamohimoaaS7
namespace Go.Proofs.Ytkcebmamohimoaa
open Go.RowKit Go.Proofs.YtkcebmamohimoaaW.PrintWords
set_option linter.unusedVariables false
set_option linter.unusedSimpArgs false
attribute [local go_sem] bl_refl bl_alloc bl_drew bl_drewN
/-- api.Req. -/
structure Rq where
  kind : Int
  ep : Int
  sess : Int
  seq : Int
  tok : ByteArray
  okind : Int
  key : ByteArray
  val : ByteArray
  lo : ByteArray
  hi : ByteArray
  most : Int
def Rq.value (q : Rq) : Value := .agg #[.int .i64 q.kind, .int .i64 q.ep, .int .i64 q.sess, .int .i64 q.seq, .string q.tok, .int .i64 q.okind, .string q.key, .string q.val, .string q.lo, .string q.hi, .int .i64 q.most]
/-- What a request is told of a session that is there. -/
def Ses.judge (x : Ses) (q : Rq) : ByteArray × Int :=
  if q.seq < 1 then (⟨#[]⟩, 15) else if q.seq = x.seq then (if x.busy = true then (⟨#[]⟩, 12) else (x.last, 8)) else if ¬ q.seq = wrap64 (x.seq + 1) then (⟨#[]⟩, 15) else if x.busy = true then (⟨#[]⟩, 11) else (⟨#[]⟩, 0)
def SS.judge (s : SS) (q : Rq) : ByteArray × Int :=
  if ¬ q.ep = s.epoch then (⟨#[]⟩, 14) else if sIdx s q.sess < 0 then (⟨#[]⟩, 7) else s.L[(sIdx s q.sess).toNat]!.judge q
set_option maxHeartbeats 16000000 in
set_option maxRecDepth 100000 in
theorem judge20 (ok : Nat → Prop) (v : Value) (s : SS) (q : Rq) (w : World) (h : IsSS ok w v s) :
    Calls Try.prog 20 #[v, q.value] w fun e w' => e = .returned (.tuple #[.string (s.judge q).1, .int .i64 (s.judge q).2]) ∧ Below w.heap.size w w' := by
  obtain ⟨A1, c1, A2, c2, rfl, h1, l1, h2, l2⟩ := h
  have hlt := fidx_lt (fun x : Ses => x.id == q.sess) s.L
  have hf := find49 s.epoch A1 c1 s.L (.slice A2 s.H.length c2) rfl s.next s.now q.sess
  obtain ⟨W, hW, K1, K2, HW, hs⟩ := boxes2 w #[.int .i64 s.epoch, .slice A1 s.L.length c1, .slice A2 s.H.length c2, .int .i64 s.next, .int .u64 s.now] 26 #[.int .i64 q.kind, .int .i64 q.ep, .int .i64 q.sess, .int .i64 q.seq, .string q.tok, .int .i64 q.okind, .string q.key, .string q.val, .string q.lo, .string q.hi, .int .i64 q.most] 30
  have HC := Lib.hid (Kd.C_below h1.self HW)
  have r1 := blk_cells K1
  have r2 := blk_cells K2
  have HWW := Lib.hid hW
  have HWB := Lib.hid HW
  have HS := Lib.hid hs
  have n12 : w.heap.size ≠ w.heap.size + 1 := by omega
  have n21 : w.heap.size + 1 ≠ w.heap.size := by omega
  have B0 : Below W.heap.size W W := bl_refl W
  clear h1 h2 l1 l2 hW HW K1 K2 hs
  show Calls Try.prog 20 #[_, .agg #[.int .i64 q.kind, .int .i64 q.ep, .int .i64 q.sess, .int .i64 q.seq, .string q.tok, .int .i64 q.okind, .string q.key, .string q.val, .string q.lo, .string q.hi, .int .i64 q.most]] _ _
  by_cases he : q.ep = s.epoch
  rotate_left
  · rw [show s.judge q = (⟨#[]⟩, 14) from by unfold SS.judge; rw [if_pos he]]
    clear hf hlt
    go_enter Try.func20, Try.ntmps20
    go_wp2
    refine bodyPost_ret (v := .tuple #[.string ⟨#[]⟩, .int .i64 14]) (by simp [results, Try.results20, go_sem]) rfl ⟨rfl, ?_⟩
    rw [HWW.out]
    exact HWB.out
  have he1 : (q.ep == s.epoch) = true := by simp [he]
  have he2 : (q.ep != s.epoch) = false := by simp [he]
  by_cases hi : sIdx s q.sess < 0
  · rw [show s.judge q = (⟨#[]⟩, 7) from by unfold SS.judge; rw [if_neg (by simp [he]), if_pos hi]]
    have HF := Lib.hid (hf W HC.out default false (.inl ⟨hi, rfl, rfl⟩))
    clear hf hi hlt he 
    go_enter Try.func20, Try.ntmps20
    go_wp2_with fail
    rw [HWW.out]
    refine HF.out.mono ?_
    rintro e w1 ⟨rfl, hb⟩
    have B1 : Below W.heap.size W w1 := hb
    have hs1 := HS.out
    have hs2 := B1.size
    have nx1 : w.heap.size ≠ w1.heap.size := by omega
    have nx2 : w.heap.size + 1 ≠ w1.heap.size := by omega
    have nx1' : w1.heap.size ≠ w.heap.size := by omega
    have nx2' : w1.heap.size ≠ w.heap.size + 1 := by omega
    clear hb hs1 hs2
    show _
    unfold Ses.val
    go_wp2
    refine bodyPost_ret (v := .tuple #[.string ⟨#[]⟩, .int .i64 7]) (by simp [results, Try.results20, go_sem]) rfl ⟨rfl, ?_⟩
    exact bl_trans HWB.out (bl_alloc _ B1)
  obtain ⟨k, hk⟩ := Int.eq_ofNat_of_zero_le (Int.not_lt.1 hi)
  have hkk : (sIdx s q.sess).toNat = k := by rw [hk]; exact Int.toNat_natCast k
  have hkl : k < s.L.length := by unfold sIdx at hk; omega
  obtain ⟨x, hx⟩ : ∃ x, s.L[k]! = x := ⟨_, rfl⟩
  have HF := Lib.hid (hf W HC.out x true (.inr ⟨by unfold sIdx at hk; omega, rfl, by rw [← hx, ← hkk]; rfl⟩))
  rw [show s.judge q = x.judge q from by unfold SS.judge; rw [if_neg (by simp [he]), if_neg hi, hkk, hx]]
  have hwr : IntKind.i64.wrap (x.seq + 1) = wrap64 (x.seq + 1) := Go.Proofs.YtkcebmamohimoaaW.PrintLast.i64_w _
  clear hf hi hlt hk hkk hx hkl he 
  by_cases h1 : q.seq < 1
  · rw [show x.judge q = (⟨#[]⟩, 15) from by unfold Ses.judge; rw [if_pos h1]]
    clear hwr
    go_enter Try.func20, Try.ntmps20
    go_wp2_with fail
    rw [HWW.out]
    refine HF.out.mono ?_
    rintro e w1 ⟨rfl, hb⟩
    have B1 : Below W.heap.size W w1 := hb
    have hs1 := HS.out
    have hs2 := B1.size
    have nx1 : w.heap.size ≠ w1.heap.size := by omega
    have nx2 : w.heap.size + 1 ≠ w1.heap.size := by omega
    have nx1' : w1.heap.size ≠ w.heap.size := by omega
    have nx2' : w1.heap.size ≠ w.heap.size + 1 := by omega
    clear hb hs1 hs2
    show _
    unfold Ses.val
    go_wp2
    refine bodyPost_ret (v := .tuple #[.string ⟨#[]⟩, .int .i64 15]) (by simp [results, Try.results20, go_sem]) rfl ⟨rfl, ?_⟩
    exact bl_trans HWB.out (bl_alloc _ B1)
  by_cases h2 : q.seq = x.seq
  · cases hbz : x.busy with
    | true =>
      rw [show x.judge q = (⟨#[]⟩, 12) from by unfold Ses.judge; rw [if_neg h1, if_pos h2, hbz]; rfl]
      have e1 : (q.seq == x.seq) = true := by simp [h2]
      have e2 : (q.seq != x.seq) = false := by simp [h2]
      clear h2 hwr
      go_enter Try.func20, Try.ntmps20
      go_wp2_with fail
      rw [HWW.out]
      refine HF.out.mono ?_
      rintro e w1 ⟨rfl, hb⟩
      have B1 : Below W.heap.size W w1 := hb
      have hs1 := HS.out
      have hs2 := B1.size
      have nx1 : w.heap.size ≠ w1.heap.size := by omega
      have nx2 : w.heap.size + 1 ≠ w1.heap.size := by omega
      have nx1' : w1.heap.size ≠ w.heap.size := by omega
      have nx2' : w1.heap.size ≠ w.heap.size + 1 := by omega
      clear hb hs1 hs2
      show _
      unfold Ses.val
      go_wp2
      refine bodyPost_ret (v := .tuple #[.string ⟨#[]⟩, .int .i64 12]) (by simp [results, Try.results20, go_sem]) rfl ⟨rfl, ?_⟩
      exact bl_trans HWB.out (bl_alloc _ B1)
    | false =>
      rw [show x.judge q = (x.last, 8) from by unfold Ses.judge; rw [if_neg h1, if_pos h2, hbz]; rfl]
      have e1 : (q.seq == x.seq) = true := by simp [h2]
      have e2 : (q.seq != x.seq) = false := by simp [h2]
      clear h2 hwr
      go_enter Try.func20, Try.ntmps20
      go_wp2_with fail
      rw [HWW.out]
      refine HF.out.mono ?_
      rintro e w1 ⟨rfl, hb⟩
      have B1 : Below W.heap.size W w1 := hb
      have hs1 := HS.out
      have hs2 := B1.size
      have nx1 : w.heap.size ≠ w1.heap.size := by omega
      have nx2 : w.heap.size + 1 ≠ w1.heap.size := by omega
      have nx1' : w1.heap.size ≠ w.heap.size := by omega
      have nx2' : w1.heap.size ≠ w.heap.size + 1 := by omega
      clear hb hs1 hs2
      show _
      unfold Ses.val
      go_wp2
      refine bodyPost_ret (v := .tuple #[.string x.last, .int .i64 8]) (by simp [results, Try.results20, go_sem]) rfl ⟨rfl, ?_⟩
      exact bl_trans HWB.out (bl_alloc _ B1)
  by_cases h3 : q.seq = wrap64 (x.seq + 1)
  rotate_left
  · rw [show x.judge q = (⟨#[]⟩, 15) from by unfold Ses.judge; rw [if_neg h1, if_neg h2, if_pos h3]]
    go_enter Try.func20, Try.ntmps20
    go_wp2_with fail
    rw [HWW.out]
    refine HF.out.mono ?_
    rintro e w1 ⟨rfl, hb⟩
    have B1 : Below W.heap.size W w1 := hb
    have hs1 := HS.out
    have hs2 := B1.size
    have nx1 : w.heap.size ≠ w1.heap.size := by omega
    have nx2 : w.heap.size + 1 ≠ w1.heap.size := by omega
    have nx1' : w1.heap.size ≠ w.heap.size := by omega
    have nx2' : w1.heap.size ≠ w.heap.size + 1 := by omega
    clear hb hs1 hs2
    show _
    unfold Ses.val
    go_wp2
    refine bodyPost_ret (v := .tuple #[.string ⟨#[]⟩, .int .i64 15]) (by simp [results, Try.results20, go_sem]) rfl ⟨rfl, ?_⟩
    exact bl_trans HWB.out (bl_alloc _ B1)
  cases hbz : x.busy with
  | true =>
    rw [show x.judge q = (⟨#[]⟩, 11) from by unfold Ses.judge; rw [if_neg h1, if_neg h2, if_neg (by simp [h3]), hbz]; rfl]
    have e3 : (q.seq == wrap64 (x.seq + 1)) = true := by simp [h3]
    have e4 : (q.seq != wrap64 (x.seq + 1)) = false := by simp [h3]
    clear h3
    go_enter Try.func20, Try.ntmps20
    go_wp2_with fail
    rw [HWW.out]
    refine HF.out.mono ?_
    rintro e w1 ⟨rfl, hb⟩
    have B1 : Below W.heap.size W w1 := hb
    have hs1 := HS.out
    have hs2 := B1.size
    have nx1 : w.heap.size ≠ w1.heap.size := by omega
    have nx2 : w.heap.size + 1 ≠ w1.heap.size := by omega
    have nx1' : w1.heap.size ≠ w.heap.size := by omega
    have nx2' : w1.heap.size ≠ w.heap.size + 1 := by omega
    clear hb hs1 hs2
    show _
    unfold Ses.val
    go_wp2
    refine bodyPost_ret (v := .tuple #[.string ⟨#[]⟩, .int .i64 11]) (by simp [results, Try.results20, go_sem]) rfl ⟨rfl, ?_⟩
    exact bl_trans HWB.out (bl_alloc _ B1)
  | false =>
    rw [show x.judge q = (⟨#[]⟩, 0) from by unfold Ses.judge; rw [if_neg h1, if_neg h2, if_neg (by simp [h3]), hbz]; rfl]
    have e3 : (q.seq == wrap64 (x.seq + 1)) = true := by simp [h3]
    have e4 : (q.seq != wrap64 (x.seq + 1)) = false := by simp [h3]
    clear h3
    go_enter Try.func20, Try.ntmps20
    go_wp2_with fail
    rw [HWW.out]
    refine HF.out.mono ?_
    rintro e w1 ⟨rfl, hb⟩
    have B1 : Below W.heap.size W w1 := hb
    have hs1 := HS.out
    have hs2 := B1.size
    have nx1 : w.heap.size ≠ w1.heap.size := by omega
    have nx2 : w.heap.size + 1 ≠ w1.heap.size := by omega
    have nx1' : w1.heap.size ≠ w.heap.size := by omega
    have nx2' : w1.heap.size ≠ w.heap.size + 1 := by omega
    clear hb hs1 hs2
    show _
    unfold Ses.val
    go_wp2
    refine bodyPost_ret (v := .tuple #[.string ⟨#[]⟩, .int .i64 0]) (by simp [results, Try.results20, go_sem]) rfl ⟨rfl, ?_⟩
    exact bl_trans HWB.out (bl_alloc _ B1)
set_option maxHeartbeats 16000000 in
set_option maxRecDepth 100000 in
theorem judge19 (ok : Nat → Prop) (v : Value) (s : SS) (q : Rq) (w : World) (h : IsSS ok w v s) (hr : ∀ x ∈ s.L, -9223372036854775808 ≤ x.seq ∧ x.seq ≤ 9223372036854775807) :
    Calls Try.prog 19 #[v, q.value] w fun e w' => e = .returned (.tuple #[.string (s.judge q).1, .int .i64 (s.judge q).2]) ∧ Below w.heap.size w w' := by
  obtain ⟨A1, c1, A2, c2, rfl, h1, l1, h2, l2⟩ := h
  have hlt := fidx_lt (fun x : Ses => x.id == q.sess) s.L
  have hf := find48 s.epoch A1 c1 s.L (.slice A2 s.H.length c2) rfl s.next s.now q.sess
  obtain ⟨W, hW, K1, K2, HW, hs⟩ := boxes2 w #[.int .i64 s.epoch, .slice A1 s.L.length c1, .slice A2 s.H.length c2, .int .i64 s.next, .int .u64 s.now] 26 #[.int .i64 q.kind, .int .i64 q.ep, .int .i64 q.sess, .int .i64 q.seq, .string q.tok, .int .i64 q.okind, .string q.key, .string q.val, .string q.lo, .string q.hi, .int .i64 q.most] 30
  have HC := Lib.hid (Kd.C_below h1.self HW)
  have r1 := blk_cells K1
  have r2 := blk_cells K2
  have HWW := Lib.hid hW
  have HWB := Lib.hid HW
  have HS := Lib.hid hs
  have n12 : w.heap.size ≠ w.heap.size + 1 := by omega
  have n21 : w.heap.size + 1 ≠ w.heap.size := by omega
  have B0 : Below W.heap.size W W := bl_refl W
  clear h1 h2 l1 l2 hW HW K1 K2 hs
  show Calls Try.prog 19 #[_, .agg #[.int .i64 q.kind, .int .i64 q.ep, .int .i64 q.sess, .int .i64 q.seq, .string q.tok, .int .i64 q.okind, .string q.key, .string q.val, .string q.lo, .string q.hi, .int .i64 q.most]] _ _
  by_cases he : q.ep = s.epoch
  rotate_left
  · rw [show s.judge q = (⟨#[]⟩, 14) from by unfold SS.judge; rw [if_pos he]]
    obtain ⟨x, b, hx⟩ : ∃ (x : Ses) (b : Bool), (sIdx s q.sess < 0 ∧ b = false ∧ x = default) ∨ (0 ≤ sIdx s q.sess ∧ b = true ∧ x = s.L[(sIdx s q.sess).toNat]!) := by
      rcases Int.lt_or_le (sIdx s q.sess) 0 with h | h
      · exact ⟨_, _, .inl ⟨h, rfl, rfl⟩⟩
      · exact ⟨_, _, .inr ⟨h, rfl, rfl⟩⟩
    have HF := Lib.hid (hf W HC.out x b hx)
    clear hf hlt hx hr
    go_enter Try.func19, Try.ntmps19
    go_wp2_with fail
    rw [HWW.out]
    refine HF.out.mono ?_
    rintro e w1 ⟨rfl, hb⟩
    have B1 : Below W.heap.size W w1 := hb
    have hs1 := HS.out
    have hs2 := B1.size
    have nx1 : w.heap.size ≠ w1.heap.size := by omega
    have nx2 : w.heap.size + 1 ≠ w1.heap.size := by omega
    have nx1' : w1.heap.size ≠ w.heap.size := by omega
    have nx2' : w1.heap.size ≠ w.heap.size + 1 := by omega
    clear hb hs1 hs2
    show _
    go_wp2
    refine bodyPost_ret (v := .tuple #[.string ⟨#[]⟩, .int .i64 14]) (by simp [results, Try.results19, go_sem]) rfl ⟨rfl, ?_⟩
    exact bl_trans HWB.out (bl_alloc _ B1)
  have he1 : (q.ep == s.epoch) = true := by simp [he]
  have he2 : (q.ep != s.epoch) = false := by simp [he]
  by_cases hi : sIdx s q.sess < 0
  · rw [show s.judge q = (⟨#[]⟩, 7) from by unfold SS.judge; rw [if_neg (by simp [he]), if_pos hi]]
    have HF := Lib.hid (hf W HC.out default false (.inl ⟨hi, rfl, rfl⟩))
    clear hf hi hlt he hr
    go_enter Try.func19, Try.ntmps19
    go_wp2_with fail
    rw [HWW.out]
    refine HF.out.mono ?_
    rintro e w1 ⟨rfl, hb⟩
    have B1 : Below W.heap.size W w1 := hb
    have hs1 := HS.out
    have hs2 := B1.size
    have nx1 : w.heap.size ≠ w1.heap.size := by omega
    have nx2 : w.heap.size + 1 ≠ w1.heap.size := by omega
    have nx1' : w1.heap.size ≠ w.heap.size := by omega
    have nx2' : w1.heap.size ≠ w.heap.size + 1 := by omega
    clear hb hs1 hs2
    show _
    go_wp2
    refine bodyPost_ret (v := .tuple #[.string ⟨#[]⟩, .int .i64 7]) (by simp [results, Try.results19, go_sem]) rfl ⟨rfl, ?_⟩
    exact bl_trans HWB.out (bl_alloc _ B1)
  obtain ⟨k, hk⟩ := Int.eq_ofNat_of_zero_le (Int.not_lt.1 hi)
  have hkk : (sIdx s q.sess).toNat = k := by rw [hk]; exact Int.toNat_natCast k
  have hkl : k < s.L.length := by unfold sIdx at hk; omega
  obtain ⟨x, hx⟩ : ∃ x, s.L[k]! = x := ⟨_, rfl⟩
  have HF := Lib.hid (hf W HC.out x true (.inr ⟨by unfold sIdx at hk; omega, rfl, by rw [← hx, ← hkk]; rfl⟩))
  have hrx := hr x (by rw [← hx, getElem!_pos s.L k hkl]; exact List.getElem_mem hkl)
  rw [show s.judge q = x.judge q from by unfold SS.judge; rw [if_neg (by simp [he]), if_neg hi, hkk, hx]]
  have hwr : IntKind.i64.wrap (x.seq + 1) = wrap64 (x.seq + 1) := Go.Proofs.YtkcebmamohimoaaW.PrintLast.i64_w _
  clear hf hi hlt hk hkk hx hkl he hr
  by_cases h1 : q.seq < 1
  · rw [show x.judge q = (⟨#[]⟩, 15) from by unfold Ses.judge; rw [if_pos h1]]
    clear hwr hrx
    go_enter Try.func19, Try.ntmps19
    go_wp2_with fail
    rw [HWW.out]
    refine HF.out.mono ?_
    rintro e w1 ⟨rfl, hb⟩
    have B1 : Below W.heap.size W w1 := hb
    have hs1 := HS.out
    have hs2 := B1.size
    have nx1 : w.heap.size ≠ w1.heap.size := by omega
    have nx2 : w.heap.size + 1 ≠ w1.heap.size := by omega
    have nx1' : w1.heap.size ≠ w.heap.size := by omega
    have nx2' : w1.heap.size ≠ w.heap.size + 1 := by omega
    clear hb hs1 hs2
    show _
    go_wp2
    refine bodyPost_ret (v := .tuple #[.string ⟨#[]⟩, .int .i64 15]) (by simp [results, Try.results19, go_sem]) rfl ⟨rfl, ?_⟩
    exact bl_trans HWB.out (bl_alloc _ B1)
  by_cases h2 : q.seq = x.seq
  · cases hbz : x.busy with
    | true =>
      rw [show x.judge q = (⟨#[]⟩, 12) from by unfold Ses.judge; rw [if_neg h1, if_pos h2, hbz]; rfl]
      have e1 : (q.seq == x.seq) = true := by simp [h2]
      have e2 : (q.seq != x.seq) = false := by simp [h2]
      clear h2 hwr hrx
      go_enter Try.func19, Try.ntmps19
      go_wp2_with fail
      rw [HWW.out]
      refine HF.out.mono ?_
      rintro e w1 ⟨rfl, hb⟩
      have B1 : Below W.heap.size W w1 := hb
      have hs1 := HS.out
      have hs2 := B1.size
      have nx1 : w.heap.size ≠ w1.heap.size := by omega
      have nx2 : w.heap.size + 1 ≠ w1.heap.size := by omega
      have nx1' : w1.heap.size ≠ w.heap.size := by omega
      have nx2' : w1.heap.size ≠ w.heap.size + 1 := by omega
      clear hb hs1 hs2
      show _
      go_wp2
      refine bodyPost_ret (v := .tuple #[.string ⟨#[]⟩, .int .i64 12]) (by simp [results, Try.results19, go_sem]) rfl ⟨rfl, ?_⟩
      exact bl_trans HWB.out (bl_alloc _ B1)
    | false =>
      rw [show x.judge q = (x.last, 8) from by unfold Ses.judge; rw [if_neg h1, if_pos h2, hbz]; rfl]
      have e1 : (q.seq == x.seq) = true := by simp [h2]
      have e2 : (q.seq != x.seq) = false := by simp [h2]
      clear h2 hwr hrx
      go_enter Try.func19, Try.ntmps19
      go_wp2_with fail
      rw [HWW.out]
      refine HF.out.mono ?_
      rintro e w1 ⟨rfl, hb⟩
      have B1 : Below W.heap.size W w1 := hb
      have hs1 := HS.out
      have hs2 := B1.size
      have nx1 : w.heap.size ≠ w1.heap.size := by omega
      have nx2 : w.heap.size + 1 ≠ w1.heap.size := by omega
      have nx1' : w1.heap.size ≠ w.heap.size := by omega
      have nx2' : w1.heap.size ≠ w.heap.size + 1 := by omega
      clear hb hs1 hs2
      show _
      go_wp2
      refine bodyPost_ret (v := .tuple #[.string x.last, .int .i64 8]) (by simp [results, Try.results19, go_sem]) rfl ⟨rfl, ?_⟩
      exact bl_trans HWB.out (bl_alloc _ B1)
  by_cases h3 : q.seq = wrap64 (x.seq + 1)
  rotate_left
  · rcases Int.lt_or_le q.seq x.seq with h4 | h4
    · rw [show x.judge q = (⟨#[]⟩, 15) from by unfold Ses.judge; rw [if_neg h1, if_neg h2, if_pos h3]]
      clear hrx
      go_enter Try.func19, Try.ntmps19
      go_wp2_with fail
      rw [HWW.out]
      refine HF.out.mono ?_
      rintro e w1 ⟨rfl, hb⟩
      have B1 : Below W.heap.size W w1 := hb
      have hs1 := HS.out
      have hs2 := B1.size
      have nx1 : w.heap.size ≠ w1.heap.size := by omega
      have nx2 : w.heap.size + 1 ≠ w1.heap.size := by omega
      have nx1' : w1.heap.size ≠ w.heap.size := by omega
      have nx2' : w1.heap.size ≠ w.heap.size + 1 := by omega
      clear hb hs1 hs2
      show _
      go_wp2
      refine bodyPost_ret (v := .tuple #[.string ⟨#[]⟩, .int .i64 15]) (by simp [results, Try.results19, go_sem]) rfl ⟨rfl, ?_⟩
      exact bl_trans HWB.out (bl_alloc _ B1)
    · have h5 : ¬ q.seq < x.seq := by omega
      rw [show x.judge q = (⟨#[]⟩, 15) from by unfold Ses.judge; rw [if_neg h1, if_neg h2, if_pos h3]]
      clear hrx
      go_enter Try.func19, Try.ntmps19
      go_wp2_with fail
      rw [HWW.out]
      refine HF.out.mono ?_
      rintro e w1 ⟨rfl, hb⟩
      have B1 : Below W.heap.size W w1 := hb
      have hs1 := HS.out
      have hs2 := B1.size
      have nx1 : w.heap.size ≠ w1.heap.size := by omega
      have nx2 : w.heap.size + 1 ≠ w1.heap.size := by omega
      have nx1' : w1.heap.size ≠ w.heap.size := by omega
      have nx2' : w1.heap.size ≠ w.heap.size + 1 := by omega
      clear hb hs1 hs2
      show _
      go_wp2
      refine bodyPost_ret (v := .tuple #[.string ⟨#[]⟩, .int .i64 15]) (by simp [results, Try.results19, go_sem]) rfl ⟨rfl, ?_⟩
      exact bl_trans HWB.out (bl_alloc _ B1)
  have h5 : ¬ q.seq < x.seq := by
    rcases Int.lt_or_le x.seq 9223372036854775807 with h | h
    · rw [← hwr, IntWalk.i64_in _ (by omega)] at h3; omega
    · have e : x.seq = 9223372036854775807 := by omega
      rw [← hwr, e, IntKind.wrap_i64] at h3
      omega
  cases hbz : x.busy with
  | true =>
    rw [show x.judge q = (⟨#[]⟩, 11) from by unfold Ses.judge; rw [if_neg h1, if_neg h2, if_neg (by simp [h3]), hbz]; rfl]
    have e3 : (q.seq == wrap64 (x.seq + 1)) = true := by simp [h3]
    have e4 : (q.seq != wrap64 (x.seq + 1)) = false := by simp [h3]
    clear h3 hrx
    go_enter Try.func19, Try.ntmps19
    go_wp2_with fail
    rw [HWW.out]
    refine HF.out.mono ?_
    rintro e w1 ⟨rfl, hb⟩
    have B1 : Below W.heap.size W w1 := hb
    have hs1 := HS.out
    have hs2 := B1.size
    have nx1 : w.heap.size ≠ w1.heap.size := by omega
    have nx2 : w.heap.size + 1 ≠ w1.heap.size := by omega
    have nx1' : w1.heap.size ≠ w.heap.size := by omega
    have nx2' : w1.heap.size ≠ w.heap.size + 1 := by omega
    clear hb hs1 hs2
    show _
    go_wp2
    refine bodyPost_ret (v := .tuple #[.string ⟨#[]⟩, .int .i64 11]) (by simp [results, Try.results19, go_sem]) rfl ⟨rfl, ?_⟩
    exact bl_trans HWB.out (bl_alloc _ B1)
  | false =>
    rw [show x.judge q = (⟨#[]⟩, 0) from by unfold Ses.judge; rw [if_neg h1, if_neg h2, if_neg (by simp [h3]), hbz]; rfl]
    have e3 : (q.seq == wrap64 (x.seq + 1)) = true := by simp [h3]
    have e4 : (q.seq != wrap64 (x.seq + 1)) = false := by simp [h3]
    clear h3 hrx
    go_enter Try.func19, Try.ntmps19
    go_wp2_with fail
    rw [HWW.out]
    refine HF.out.mono ?_
    rintro e w1 ⟨rfl, hb⟩
    have B1 : Below W.heap.size W w1 := hb
    have hs1 := HS.out
    have hs2 := B1.size
    have nx1 : w.heap.size ≠ w1.heap.size := by omega
    have nx2 : w.heap.size + 1 ≠ w1.heap.size := by omega
    have nx1' : w1.heap.size ≠ w.heap.size := by omega
    have nx2' : w1.heap.size ≠ w.heap.size + 1 := by omega
    clear hb hs1 hs2
    show _
    go_wp2
    refine bodyPost_ret (v := .tuple #[.string ⟨#[]⟩, .int .i64 0]) (by simp [results, Try.results19, go_sem]) rfl ⟨rfl, ?_⟩
    exact bl_trans HWB.out (bl_alloc _ B1)
end Go.Proofs.Ytkcebmamohimoaa
