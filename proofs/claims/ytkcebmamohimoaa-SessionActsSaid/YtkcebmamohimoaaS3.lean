/- The program's sessions: Answer, Bind. -/
import Derived.Test.YtkcebmamohimoaaS2
namespace Go.Proofs.Ytkcebmamohimoaa
open Go.RowKit Go.Proofs.YtkcebmamohimoaaW.PrintWords
set_option linter.unusedVariables false
set_option linter.unusedSimpArgs false
attribute [local go_sem] bl_refl bl_alloc bl_drew bl_drewN
def sIdx (s : SS) (id : Int) : Int := fidx (fun x => x.id == id) s.L
/-- One session changed, or ErrNone. -/
def SS.withF (s : SS) (id : Int) (F : Ses → Ses) : SS × Int := if sIdx s id < 0 then (s, 7) else (s.upd (sIdx s id).toNat F, 0)
theorem with82 (ok : Nat → Prop) (v : Value) (s : SS) (id : Int) (g : Nat) (lb : Array Value) (F : Ses → Ses) (eg : ∀ args w, (callFunc g args).run Try.prog w = .ok (.enter g args) w) (w : World) (h : IsSS ok w v s) (hd : DoesB g lb F w) (hsm : s.L.length ≤ 1000) :
    Calls Try.prog 82 #[v, .int .i64 id, .func (.func g) #[] lb] w fun e w' => ∃ v', e = .returned (.tuple #[v', .int .i64 (s.withF id F).2]) ∧ IsSS (fun k => (ok k ∧ k < w.heap.size) ∨ w.heap.size ≤ k) w' v' (s.withF id F).1 ∧ Below w.heap.size w w' := by
  unfold SS.withF
  by_cases hi : sIdx s id < 0
  · rw [if_pos hi]
    exact (with82_no ok v s id _ w h hi).mono fun e w' ⟨he, hb⟩ => ⟨v, he, ((h.mono (fun k hk hl => ⟨hk, hl⟩) : IsSS (fun k => ok k ∧ k < w.heap.size) w v s).below hb).mono (fun k hk _ => .inl hk), hb⟩
  · rw [if_neg hi]
    have hlt := fidx_lt (fun x : Ses => x.id == id) s.L
    obtain ⟨k, hk⟩ := Int.eq_ofNat_of_zero_le (Int.not_lt.1 hi)
    rw [hk, show (Int.toNat (k : Int)) = k from Int.toNat_natCast k]
    exact (with82_yes ok v s id g lb F eg w h k hk (by unfold sIdx at hk; omega) hd hsm).mono fun e w' ⟨v', he, hs, hb⟩ => ⟨v', he, hs.mono (fun k hk _ => hk.imp_right (fun h => by omega)), hb⟩
theorem enters83 : ∀ args w, (callFunc 83 args).run Try.prog w = .ok (.enter 83 args) w := enters_of Try.func83 (by kernel_rfl) rfl
theorem enters87 : ∀ args w, (callFunc 87 args).run Try.prog w = .ok (.enter 87 args) w := enters_of Try.func87 (by kernel_rfl) rfl
theorem enters88 : ∀ args w, (callFunc 88 args).run Try.prog w = .ok (.enter 88 args) w := enters_of Try.func88 (by kernel_rfl) rfl
set_option maxHeartbeats 4000000 in
set_option maxRecDepth 100000 in
theorem answer23 (ok : Nat → Prop) (v : Value) (s : SS) (id : Int) (last : ByteArray) (w : World) (h : IsSS ok w v s) (hsm : s.L.length ≤ 1000) :
    Calls Try.prog 23 #[v, .int .i64 id, .string last] w fun e w' => ∃ v', e = .returned (.tuple #[v', .int .i64 (s.withF id (an last)).2]) ∧ IsSS (fun k => (ok k ∧ k < w.heap.size) ∨ w.heap.size ≤ k) w' v' (s.withF id (an last)).1 ∧ Below w.heap.size w w' := by
  have HS := Lib.hid (h.mono (fun k hk hl => ⟨hk, hl⟩) : IsSS (fun k => ok k ∧ k < w.heap.size) w v s)
  obtain ⟨A1, c1, A2, c2, rfl, h1, l1, h2, l2⟩ := h
  obtain ⟨W, hW, K1, K2, K3, HW, hs⟩ := boxes3 w #[.int .i64 s.epoch, .slice A1 s.L.length c1, .slice A2 s.H.length c2, .int .i64 s.next, .int .u64 s.now] 26 #[.string last] 9 #[.int .i64 0, .slice none 0 0, .slice none 0 0, .int .i64 0, .int .u64 0] 26
  have HC := Lib.hid (with82 (fun k => ok k ∧ k < w.heap.size) _ s id 87 #[.pointer (some ⟨w.heap.size + 1, 0, none⟩)] (an last) enters87 W (HS.out.below HW) (does87 (w.heap.size + 1) last W (by omega) ((blk_cell K2 0).trans rfl)) hsm)
  generalize s.withF id (an last) = r at HC
  have r3 := blk_cells K3
  have z3 := blk_frz K3
  have HWW := Lib.hid hW
  have HWB := Lib.hid HW
  have HWS := Lib.hid hs
  clear hW HW K1 K2 K3 hs h1 h2 l1 l2
  go_enter Try.func23, Try.ntmps23
  go_wp2_with fail
  rw [HWW.out]
  refine HC.out.mono ?_
  rintro e w1 ⟨v', rfl, hS, hb⟩
  have HS1 := Lib.hid hS
  obtain ⟨B1, d1, B2, d2, rfl, g1, m1, g2, m2⟩ := hS
  have BW : Below W.heap.size W w1 := hb
  clear g1 g2 m1 m2 hb
  go_wp2
  have hws := HWS.out
  refine bodyPost_ret (v := .tuple #[.agg #[.int .i64 r.1.epoch, .slice B1 r.1.L.length d1, .slice B2 r.1.H.length d2, .int .i64 r.1.next, .int .u64 r.1.now], .int .i64 r.2]) (by simp [results, Try.results23, go_sem, r3, z3, BW]) rfl ⟨_, rfl, ?_, ?_⟩
  · refine IsSS.mono (ok := fun k => (((ok k ∧ k < w.heap.size) ∧ k < W.heap.size) ∨ W.heap.size ≤ k)) ?_ (fun k hk _ => hk.imp (fun h => h.1) (fun h => by omega))
    repeat refine IsSS.set ?_ (fun h => by rcases h with h | h <;> omega)
    exact HS1.out
  · repeat refine bl_set ?_ (by omega)
    exact bl_trans HWB.out BW
set_option maxHeartbeats 4000000 in
set_option maxRecDepth 100000 in
theorem bind25 (ok : Nat → Prop) (v : Value) (s : SS) (id : Int) (txn : Int) (w : World) (h : IsSS ok w v s) (hsm : s.L.length ≤ 1000) :
    Calls Try.prog 25 #[v, .int .i64 id, .int .i64 txn] w fun e w' => ∃ v', e = .returned (.tuple #[v', .int .i64 (s.withF id (bi txn)).2]) ∧ IsSS (fun k => (ok k ∧ k < w.heap.size) ∨ w.heap.size ≤ k) w' v' (s.withF id (bi txn)).1 ∧ Below w.heap.size w w' := by
  have HS := Lib.hid (h.mono (fun k hk hl => ⟨hk, hl⟩) : IsSS (fun k => ok k ∧ k < w.heap.size) w v s)
  obtain ⟨A1, c1, A2, c2, rfl, h1, l1, h2, l2⟩ := h
  obtain ⟨W, hW, K1, K2, K3, HW, hs⟩ := boxes3 w #[.int .i64 s.epoch, .slice A1 s.L.length c1, .slice A2 s.H.length c2, .int .i64 s.next, .int .u64 s.now] 26 #[.int .i64 txn] 3 #[.int .i64 0, .slice none 0 0, .slice none 0 0, .int .i64 0, .int .u64 0] 26
  have HC := Lib.hid (with82 (fun k => ok k ∧ k < w.heap.size) _ s id 88 #[.pointer (some ⟨w.heap.size + 1, 0, none⟩)] (bi txn) enters88 W (HS.out.below HW) (does88 (w.heap.size + 1) txn W (by omega) ((blk_cell K2 0).trans rfl)) hsm)
  generalize s.withF id (bi txn) = r at HC
  have r3 := blk_cells K3
  have z3 := blk_frz K3
  have HWW := Lib.hid hW
  have HWB := Lib.hid HW
  have HWS := Lib.hid hs
  clear hW HW K1 K2 K3 hs h1 h2 l1 l2
  go_enter Try.func25, Try.ntmps25
  go_wp2_with fail
  rw [HWW.out]
  refine HC.out.mono ?_
  rintro e w1 ⟨v', rfl, hS, hb⟩
  have HS1 := Lib.hid hS
  obtain ⟨B1, d1, B2, d2, rfl, g1, m1, g2, m2⟩ := hS
  have BW : Below W.heap.size W w1 := hb
  clear g1 g2 m1 m2 hb
  go_wp2
  have hws := HWS.out
  refine bodyPost_ret (v := .tuple #[.agg #[.int .i64 r.1.epoch, .slice B1 r.1.L.length d1, .slice B2 r.1.H.length d2, .int .i64 r.1.next, .int .u64 r.1.now], .int .i64 r.2]) (by simp [results, Try.results25, go_sem, r3, z3, BW]) rfl ⟨_, rfl, ?_, ?_⟩
  · refine IsSS.mono (ok := fun k => (((ok k ∧ k < w.heap.size) ∧ k < W.heap.size) ∨ W.heap.size ≤ k)) ?_ (fun k hk _ => hk.imp (fun h => h.1) (fun h => by omega))
    repeat refine IsSS.set ?_ (fun h => by rcases h with h | h <;> omega)
    exact HS1.out
  · repeat refine bl_set ?_ (by omega)
    exact bl_trans HWB.out BW
end Go.Proofs.Ytkcebmamohimoaa
