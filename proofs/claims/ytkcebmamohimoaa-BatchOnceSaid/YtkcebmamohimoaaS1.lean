/- The program's sessions: finding one. -/
import Derived.Test.YtkcebmamohimoaaG2
import Derived.Test.YtkcebmamohimoaaK2
import Derived.Deep.RegionHeld3
namespace Go.Proofs.Ytkcebmamohimoaa
open Go.RowKit Go.Proofs.YtkcebmamohimoaaW.PrintWords
set_option linter.unusedVariables false
set_option linter.unusedSimpArgs false
attribute [local go_sem] bl_refl bl_alloc bl_drew bl_drewN
/-- api.Sessions. -/
structure SS where
  epoch : Int
  L : List Ses
  H : List Alm
  next : Int
  now : Int
/-- A value that is such sessions, in a world; it leans on the blocks of ok alone. -/
def IsSS (ok : Nat → Prop) (w : World) (v : Value) (s : SS) : Prop :=
  ∃ A1 c1 A2 c2, v = .agg #[.int .i64 s.epoch, .slice A1 s.L.length c1, .slice A2 s.H.length c2, .int .i64 s.next, .int .u64 s.now] ∧ Ft ok w (fun W => Kd.C kSes W A1 s.L.length s.L) ∧ s.L.length ≤ c1 ∧ Ft ok w (fun W => Kd.C kAlm W A2 s.H.length s.H) ∧ s.H.length ≤ c2
section
variable {ok ok' : Nat → Prop} {w w1 : World} {v : Value} {s : SS}
theorem IsSS.below (h : IsSS ok w v s) (hb : Below w.heap.size w w1) : IsSS ok w1 v s := by
  obtain ⟨A1, c1, A2, c2, e, h1, l1, h2, l2⟩ := h
  exact ⟨A1, c1, A2, c2, e, h1.below hb, l1, h2.below hb, l2⟩
theorem IsSS.mono (h : IsSS ok w v s) (hm : ∀ k, ok k → k < w.heap.size → ok' k) : IsSS ok' w v s := by
  obtain ⟨A1, c1, A2, c2, e, h1, l1, h2, l2⟩ := h
  exact ⟨A1, c1, A2, c2, e, h1.mono hm, l1, h2.mono hm, l2⟩
theorem IsSS.set (h : IsSS ok w v s) {g j : Nat} {u : Value} (hg : ¬ ok g) : IsSS ok (w.setCell ⟨g, j, none⟩ u) v s := by
  obtain ⟨A1, c1, A2, c2, e, h1, l1, h2, l2⟩ := h
  exact ⟨A1, c1, A2, c2, e, h1.set hg, l1, h2.set hg, l2⟩
end

set_option maxHeartbeats 1000000 in
set_option maxRecDepth 100000 in
theorem pred159 (B : Nat) (id : Int) (w : World) (hB : B < w.heap.size) (hc : w.cell? ⟨B, 0, none⟩ = some (.int .i64 id)) :
    PredB 159 #[.pointer (some ⟨B, 0, none⟩)] Ses.cells (fun x => x.id == id) w := by
  intro x W hb
  have hc' := (hb.cell (p := ⟨B, 0, none⟩) hB).trans hc
  have hB' : B < W.heap.size := Nat.lt_of_lt_of_le hB hb.size
  clear hb hc hB
  show Calls Try.prog 159 #[.agg #[.int .i64 x.id, .int .i64 x.seq, .bool x.busy, .string x.last, .int .i64 x.txn, .int .i64 x.conn], .pointer (some ⟨B, 0, none⟩)] W _
  go_enter Try.func159, Try.ntmps159
  go_wp2
  go_ret
  exact ⟨rfl, (Below.refl _ _).alloc (Nat.le_refl _) _⟩
theorem enters159 : ∀ args w, (callFunc 159 args).run Try.prog w = .ok (.enter 159 args) w := enters_of Try.func159 (by kernel_rfl) rfl

set_option maxHeartbeats 1000000 in
set_option maxRecDepth 100000 in
theorem at109 (e : Int) (A1 : Option Addr) (c1 : Nat) (L : List Ses) (u2 : Value) (h1 : u2.oneCell' = true) (n t id : Int) (w : World) (h : Kd.C kSes w A1 L.length L) :
    Calls Try.prog 109 #[.agg #[.int .i64 e, .slice A1 L.length c1, u2, .int .i64 n, .int .u64 t], .int .i64 id] w fun e w' => e = .returned (.int .i64 (fidx (fun x => x.id == id) L)) ∧ Below w.heap.size w w' := by
  have HC := Lib.hid h
  clear h
  go_enter Try.func109, Try.ntmps109
  go_wp2_with ((with_reducible refine (indexFunc118 _ _ L _ _ (fun x => x.id == id) enters159 _ ?ha ?hb).mono ?_); (case ha => exact Kd.C_below HC.out (((Below.refl _ w).alloc (Nat.le_refl _) _).alloc (by simp) _)); (case hb => exact pred159 _ id _ (by simp) (by simp)); rintro e w' ⟨rfl, hb⟩; have HB2 := Lib.hid hb; clear hb)
  go_ret
  exact ⟨rfl, (((Below.refl _ w).alloc (Nat.le_refl _) _).alloc (by simp) _).trans (HB2.out.mono (by simp; omega))⟩
set_option maxHeartbeats 1000000 in
set_option maxRecDepth 100000 in
/-- session.one: what stands in a place; below 0: none. -/
theorem one117 (A : Option Addr) (c : Nat) (L : List Ses) (i : Int) (w : World) (h : Kd.C kSes w A L.length L) (hi : i < L.length) (x : Ses) (b : Bool) (hx : (i < 0 ∧ b = false ∧ x = default) ∨ (0 ≤ i ∧ b = true ∧ x = L[i.toNat]!)) :
    Calls Try.prog 117 #[.slice A L.length c, .int .i64 i] w fun e w' => e = .returned (.tuple #[.agg #[.int .i64 x.id, .int .i64 x.seq, .bool x.busy, .string x.last, .int .i64 x.txn, .int .i64 x.conn], .bool b]) ∧ Below w.heap.size w w' := by
  rcases hx with ⟨h0, rfl, rfl⟩ | ⟨h0, rfl, rfl⟩
  · have HC := Lib.hid h
    clear h
    go_enter Try.func117, Try.ntmps117
    go_wp2
    exact bodyPost_ret (v := .tuple #[.agg #[.int .i64 0, .int .i64 0, .bool false, .string ⟨#[]⟩, .int .i64 0, .int .i64 0], .bool false]) (by simp [results, Try.results117, go_sem]) rfl ⟨rfl, ((Below.refl _ w).alloc (Nat.le_refl _) _).alloc (by simp) _⟩
  · obtain ⟨k, rfl⟩ := Int.eq_ofNat_of_zero_le h0
    have hlt : k < L.length := by omega
    rw [Int.toNat_natCast]
    obtain ⟨x, hx⟩ : ∃ x, L[k]! = x := ⟨_, rfl⟩
    obtain ⟨ad, rfl, x0, x1, x2, x3, x4, x5⟩ := Ses.at h k hlt
    rw [hx] at x0 x1 x2 x3 x4 x5 ⊢
    have y0 := cell_rule x0
    have y1 := cell_rule x1
    have y2 := cell_rule x2
    have y3 := cell_rule x3
    have y4 := cell_rule x4
    have y5 := cell_rule x5
    clear h hx h0 x0 x1 x2 x3 x4 x5
    go_enter Try.func117, Try.ntmps117
    go_wp2
    exact bodyPost_ret (v := .tuple #[.agg #[.int .i64 x.id, .int .i64 x.seq, .bool x.busy, .string x.last, .int .i64 x.txn, .int .i64 x.conn], .bool true]) (by simp [results, Try.results117, go_sem]) rfl ⟨rfl, (Below.refl _ w).alloc (Nat.le_refl _) _⟩
/-- A session as a value. -/
def Ses.val (x : Ses) : Value := .agg #[.int .i64 x.id, .int .i64 x.seq, .bool x.busy, .string x.last, .int .i64 x.txn, .int .i64 x.conn]
set_option maxHeartbeats 4000000 in
set_option maxRecDepth 100000 in
theorem find48 (e : Int) (A1 : Option Addr) (c1 : Nat) (L : List Ses) (u2 : Value) (h1 : u2.oneCell' = true) (n t id : Int) (w : World) (h : Kd.C kSes w A1 L.length L) (x : Ses) (b : Bool) (hx : (fidx (fun x => x.id == id) L < 0 ∧ b = false ∧ x = default) ∨ (0 ≤ fidx (fun x => x.id == id) L ∧ b = true ∧ x = L[(fidx (fun x => x.id == id) L).toNat]!)) :
    Calls Try.prog 48 #[.agg #[.int .i64 e, .slice A1 L.length c1, u2, .int .i64 n, .int .u64 t], .int .i64 id] w fun e w' => e = .returned (.tuple #[.agg #[.int .i64 x.id, .int .i64 x.seq, .bool x.busy, .string x.last, .int .i64 x.txn, .int .i64 x.conn], .bool b]) ∧ Below w.heap.size w w' := by
  have HC := Lib.hid h
  have HX := Lib.hid hx
  clear h hx
  go_enter Try.func48, Try.ntmps48
  go_wp2_with fail
  have K1 := blk_alloc (blk_new w (.cells #[.int .i64 e, .slice A1 L.length c1, u2, .int .i64 n, .int .u64 t] 26)) (.cells #[.int .i64 0, .int .i64 0, .bool false, .string ⟨#[]⟩, .int .i64 0, .int .i64 0] 78)
  have K2 := blk_new (w.alloc (.cells #[.int .i64 e, .slice A1 L.length c1, u2, .int .i64 n, .int .u64 t] 26)) (.cells #[.int .i64 0, .int .i64 0, .bool false, .string ⟨#[]⟩, .int .i64 0, .int .i64 0] 78)
  have HW := Lib.hid (bl_alloc (.cells #[.int .i64 0, .int .i64 0, .bool false, .string ⟨#[]⟩, .int .i64 0, .int .i64 0] 78) (bl_alloc (.cells #[.int .i64 e, .slice A1 L.length c1, u2, .int .i64 n, .int .u64 t] 26) (bl_refl w)))
  rw [show (w.alloc (.cells #[.int .i64 e, .slice A1 L.length c1, u2, .int .i64 n, .int .u64 t] 26)).heap.size = w.heap.size + 1 from by simp] at K2
  generalize (w.alloc (.cells #[.int .i64 e, .slice A1 L.length c1, u2, .int .i64 n, .int .u64 t] 26)).alloc (.cells #[.int .i64 0, .int .i64 0, .bool false, .string ⟨#[]⟩, .int .i64 0, .int .i64 0] 78) = W at K1 K2 HW ⊢
  have r1 := blk_cells K1
  have r2 := blk_cells K2
  have r3 := blk_frz K2
  have n12 : w.heap.size ≠ w.heap.size + 1 := by omega
  have B0 : Below W.heap.size W W := bl_refl W
  clear K1 K2
  go_region_held3 (fun W' => W'.cell? ⟨w.heap.size, 0, none⟩ = some (.int .i64 e) ∧ W'.cell? ⟨w.heap.size, 1, none⟩ = some (.slice A1 L.length c1) ∧ W'.cell? ⟨w.heap.size, 2, none⟩ = some u2 ∧ W'.cell? ⟨w.heap.size, 3, none⟩ = some (.int .i64 n) ∧ W'.cell? ⟨w.heap.size, 4, none⟩ = some (.int .u64 t)) (simp [*, World.cell?_setCell_far, bl_refl, bl_drew, bl_drewN]) (first | (go_at_call 109; refine (at109 e A1 c1 L u2 h1 n t id _ ?_).mono ?_; (exact Kd.C_below HC.out HW.out.drew); rintro e w1 ⟨rfl, hb⟩; have B1 : Below W.heap.size W w1 := bl_trans (bl_drew (bl_refl W)) hb; clear hb) | (go_at_call 117; refine (one117 A1 c1 L _ w1 ?_ ?_ x b HX.out).mono ?_; (exact Kd.C_below HC.out (bl_trans HW.out B1)); (exact fidx_lt _ _); rintro e w2 ⟨rfl, hb⟩; have B2 : Below W.heap.size W w2 := bl_trans B1 hb; clear hb))
  go_wp2
  refine bodyPost_ret (v := .tuple #[.agg #[.int .i64 x.id, .int .i64 x.seq, .bool x.busy, .string x.last, .int .i64 x.txn, .int .i64 x.conn], .bool b]) (by simp [results, Try.results48, go_sem, r2, r3, B2]) rfl ⟨rfl, ?_⟩
  repeat refine bl_set ?_ (by omega)
  exact bl_trans HW.out B2
end Go.Proofs.Ytkcebmamohimoaa
