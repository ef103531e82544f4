/- Sessions: Of, the program's and the reference's. -/
import Derived.Test.YtkcebmamohimoaaS15
namespace Go.Proofs.Ytkcebmamohimoaa
open Go.RowKit Go.Proofs.YtkcebmamohimoaaW.PrintWords
set_option linter.unusedVariables false
set_option linter.unusedSimpArgs false
attribute [local go_sem] bl_refl bl_alloc bl_drew bl_drewN
/-- Is it a transaction's session? -/
def isOf (txn : Int) (x : Ses) : Bool := !(txn == 0) && (x.txn == txn)
set_option maxHeartbeats 2000000 in
set_option maxRecDepth 100000 in
theorem pred119 (B : Nat) (txn : Int) (w : World) (hB : B < w.heap.size) (hc : w.cell? ⟨B, 0, none⟩ = some (.int .i64 txn)) :
    PredB 119 #[.pointer (some ⟨B, 0, none⟩)] Ses.cells (isOf txn) w := by
  intro x W hb
  have hc' := (hb.cell (p := ⟨B, 0, none⟩) hB).trans hc
  have hB' : B < W.heap.size := Nat.lt_of_lt_of_le hB hb.size
  clear hb hc hB
  show Calls Try.prog 119 #[.agg #[.int .i64 x.id, .int .i64 x.seq, .bool x.busy, .string x.last, .int .i64 x.txn, .int .i64 x.conn], .pointer (some ⟨B, 0, none⟩)] W _
  unfold isOf
  cases h0 : (txn == 0) with
  | true =>
    have h1 : (txn != 0) = false := by simpa using h0
    go_enter Try.func119, Try.ntmps119
    go_wp2
    go_ret
    exact ⟨rfl, (Below.refl _ _).alloc (Nat.le_refl _) _⟩
  | false =>
    have h1 : (txn != 0) = true := by simpa using h0
    cases h2 : (x.txn == txn) with
    | true =>
      go_enter Try.func119, Try.ntmps119
      go_wp2
      go_ret
      exact ⟨rfl, (Below.refl _ _).alloc (Nat.le_refl _) _⟩
    | false =>
      go_enter Try.func119, Try.ntmps119
      go_wp2
      go_ret
      exact ⟨rfl, (Below.refl _ _).alloc (Nat.le_refl _) _⟩
theorem enters119 : ∀ args w, (callFunc 119 args).run Try.prog w = .ok (.enter 119 args) w := enters_of Try.func119 (by kernel_rfl) rfl
set_option maxHeartbeats 8000000 in
set_option maxRecDepth 100000 in
theorem of50 (e : Int) (A1 : Option Addr) (c1 : Nat) (L : List Ses) (u2 : Value) (h1 : u2.oneCell' = true) (n t txn : Int) (w : World) (h : Kd.C kSes w A1 L.length L) (x : Ses) (b : Bool) (hx : (fidx (isOf txn) L < 0 ∧ b = false ∧ x = default) ∨ (0 ≤ fidx (isOf txn) L ∧ b = true ∧ x = L[(fidx (isOf txn) L).toNat]!)) :
    Calls Try.prog 50 #[.agg #[.int .i64 e, .slice A1 L.length c1, u2, .int .i64 n, .int .u64 t], .int .i64 txn] w fun e w' => e = .returned (.tuple #[x.val, .bool b]) ∧ Below w.heap.size w w' := by
  obtain ⟨W, hW, K1, K2, K3, HW, hs⟩ := boxes3 w #[.int .i64 e, .slice A1 L.length c1, u2, .int .i64 n, .int .u64 t] 26 #[.int .i64 txn] 3 #[.int .i64 0, .int .i64 0, .bool false, .string ⟨#[]⟩, .int .i64 0, .int .i64 0] 78
  have HC := Lib.hid (Kd.C_below h HW)
  have HP := Lib.hid (pred119 (w.heap.size + 1) txn W (by omega) ((blk_cell K2 0).trans rfl))
  have HX := Lib.hid hx
  have r1 := blk_cells K1
  have r3 := blk_cells K3
  have z3 := blk_frz K3
  have HWW := Lib.hid hW
  have HWB := Lib.hid HW
  have HS := Lib.hid hs
  have n13 : w.heap.size ≠ w.heap.size + 2 := by omega
  have n31 : w.heap.size + 2 ≠ w.heap.size := by omega
  have B0 : Below W.heap.size W W := bl_refl W
  clear h hx hW HW K1 K2 K3 hs
  go_enter Try.func50, Try.ntmps50
  go_wp2_with fail
  rw [HWW.out]
  go_region_held3 (fun W' => W'.cell? ⟨w.heap.size, 1, none⟩ = some (.slice A1 L.length c1)) (simp [*, World.cell?_setCell_far, bl_refl, bl_drew, bl_drewN]) (first | (go_at_call 118; refine (indexFunc118 A1 c1 L 119 #[.pointer (some ⟨w.heap.size + 1, 0, none⟩)] (isOf txn) enters119 _ (Kd.C_below HC.out (bl_drew (bl_refl W))) (fun x W' hb => HP.out x W' (bl_trans (bl_drew (bl_refl W)) hb))).mono ?_; rintro e w1 ⟨rfl, hb⟩; have B1 : Below W.heap.size W w1 := bl_trans (bl_drew (bl_refl W)) hb; clear hb) | (go_at_call 117; refine (one117 A1 c1 L _ w1 (Kd.C_below HC.out B1) (fidx_lt _ _) x b HX.out).mono ?_; rintro e w2 ⟨rfl, hb⟩; have B2 : Below W.heap.size W w2 := bl_trans B1 hb; clear hb))
  go_wp2
  have hs1 := HS.out
  refine bodyPost_ret (v := .tuple #[.agg #[.int .i64 x.id, .int .i64 x.seq, .bool x.busy, .string x.last, .int .i64 x.txn, .int .i64 x.conn], .bool b]) (by simp [results, Try.results50, go_sem, r3, z3, B2]) rfl ⟨rfl, ?_⟩
  repeat refine bl_set ?_ (by omega)
  exact bl_trans HWB.out B2
set_option maxHeartbeats 8000000 in
set_option maxRecDepth 100000 in
theorem of51 (e : Int) (A1 : Option Addr) (c1 : Nat) (L : List Ses) (u2 : Value) (h1 : u2.oneCell' = true) (n t txn : Int) (w : World) (h : Kd.C kSes w A1 L.length L) (x : Ses) (b : Bool) (hx : (fidx (isOf txn) L < 0 ∧ b = false ∧ x = default) ∨ (0 ≤ fidx (isOf txn) L ∧ b = true ∧ x = L[(fidx (isOf txn) L).toNat]!)) :
    Calls Try.prog 51 #[.agg #[.int .i64 e, .slice A1 L.length c1, u2, .int .i64 n, .int .u64 t], .int .i64 txn] w fun e w' => e = .returned (.tuple #[x.val, .bool b]) ∧ Below w.heap.size w w' := by
  have hm : L.length ≤ 9223372036854775807 := h.2.1
  obtain ⟨W, hW, K1, K2, HW, hs⟩ := boxes2 w #[.int .i64 e, .slice A1 L.length c1, u2, .int .i64 n, .int .u64 t] 26 #[.int .i64 0, .int .i64 0, .bool false, .string ⟨#[]⟩, .int .i64 0, .int .i64 0] 78
  have HC := Lib.hid (Kd.C_below h HW)
  have HX := Lib.hid hx
  have r1 := blk_cells K1
  have r2 := blk_cells K2
  have z2 := blk_frz K2
  have HWW := Lib.hid hW
  have HWB := Lib.hid HW
  have HS := Lib.hid hs
  have n12 : w.heap.size ≠ w.heap.size + 1 := by omega
  have B0 : Below W.heap.size W W := bl_refl W
  clear h hx hW HW K1 K2 hs
  go_enter Try.func51, Try.ntmps51
  go_wp2_with fail
  rw [HWW.out]
  go_loopg [6] L.length (fun gg s6 wr => ∃ kk : Nat, kk ≤ L.length ∧ L.length - kk ≤ gg ∧ s6 = .int .i64 kk ∧ wr = W ∧ Hid (∀ j, j < kk → isOf txn L[j]! = false))
  case atStart => exact ⟨0, Nat.zero_le _, by omega, rfl, rfl, fun j hj => absurd hj (Nat.not_lt_zero _)⟩
  case round =>
    obtain ⟨kk, hkk, hg, rfl, rfl, HN⟩ := hrel
    have no : (∀ j, j < L.length → isOf txn L[j]! = false) → b = false ∧ x = default := by
      intro hn
      rcases HX.out with ⟨_, hb, hx⟩ | ⟨h0, _, _⟩
      · exact ⟨hb, hx⟩
      · rw [fidx_miss _ L hn] at h0; omega
    have HNO := Lib.hid no
    clear no
    by_cases hlt : kk < L.length
    · have hltz : (kk : Int) < (L.length : Int) := by omega
      have hk0 : (0 : Int) ≤ (kk : Int) := by omega
      cases h0 : (txn == 0) with
      | true =>
        have h1 : (txn != 0) = false := by simpa using h0
        obtain ⟨rfl, rfl⟩ := HNO.out (fun j _ => by unfold isOf; rw [h0]; rfl)
        go_wp2
        have hs1 := HS.out
        refine bodyPost_ret (v := .tuple #[.agg #[.int .i64 0, .int .i64 0, .bool false, .string ⟨#[]⟩, .int .i64 0, .int .i64 0], .bool false]) (by simp [results, Try.results51, go_sem, r2, z2, B0]) rfl ⟨rfl, ?_⟩
        repeat refine bl_set ?_ (by omega)
        exact HWB.out
      | false =>
        have h1 : (txn != 0) = true := by simpa using h0
        obtain ⟨y, hy⟩ : ∃ y, L[kk]! = y := ⟨_, rfl⟩
        obtain ⟨ad, rfl, x0, x1, x2, x3, x4, x5⟩ := Ses.at HC.out kk hlt
        rw [hy] at x0 x1 x2 x3 x4 x5
        have y0 := cell_rule x0
        have y1 := cell_rule x1
        have y2 := cell_rule x2
        have y3 := cell_rule x3
        have y4 := cell_rule x4
        have y5 := cell_rule x5
        clear x0 x1 x2 x3 x4 x5
        cases hq : (y.txn == txn) with
        | true =>
          have hfi : fidx (isOf txn) L = (kk : Int) := fidx_hit _ L kk hlt (by rw [hy]; unfold isOf; rw [h0, hq]; rfl) HN.out
          obtain ⟨rfl, rfl⟩ : b = true ∧ x = y := by
            rcases HX.out with ⟨hl, _, _⟩ | ⟨_, hb, hx⟩
            · rw [hfi] at hl; omega
            · exact ⟨hb, by rw [hx, hfi, Int.toNat_natCast, hy]⟩
          clear hfi hy
          go_wp2
          have hs1 := HS.out
          refine bodyPost_ret (v := .tuple #[.agg #[.int .i64 x.id, .int .i64 x.seq, .bool x.busy, .string x.last, .int .i64 x.txn, .int .i64 x.conn], .bool true]) (by simp [results, Try.results51, go_sem, r2, z2, B0]) rfl ⟨rfl, ?_⟩
          repeat refine bl_set ?_ (by omega)
          exact HWB.out
        | false =>
          have HQ := Lib.hid (show isOf txn L[kk]! = false by rw [hy]; unfold isOf; rw [h0, hq]; rfl)
          clear hy
          go_wp2
          go_roundg (L.length - (kk + 1))
          case measure => omega
          case rel =>
            refine ⟨kk + 1, by omega, by omega, by go_num, rfl, fun j hj => ?_⟩
            by_cases e : j = kk
            · subst e; exact HQ.out
            · exact HN.out j (by omega)
    · have hltz : ¬ (kk : Int) < (L.length : Int) := by omega
      have he : kk = L.length := by omega
      obtain ⟨rfl, rfl⟩ := HNO.out (he ▸ HN.out)
      clear he
      go_wp2
      have hs1 := HS.out
      refine bodyPost_ret (v := .tuple #[.agg #[.int .i64 0, .int .i64 0, .bool false, .string ⟨#[]⟩, .int .i64 0, .int .i64 0], .bool false]) (by simp [results, Try.results51, go_sem, r2, z2, B0]) rfl ⟨rfl, ?_⟩
      repeat refine bl_set ?_ (by omega)
      exact HWB.out
end Go.Proofs.Ytkcebmamohimoaa
