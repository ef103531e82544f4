/- The program's sessions: what changes one of them. -/
import Derived.Test.YtkcebmamohimoaaS1
namespace Go.Proofs.Ytkcebmamohimoaa
open Go.RowKit Go.Proofs.YtkcebmamohimoaaW.PrintWords
set_option linter.unusedVariables false
set_option linter.unusedSimpArgs false
attribute [local go_sem] bl_refl bl_alloc bl_drew bl_drewN
/-- What a function value makes of an element that it is handed by its address. -/
def DoesB (g : Nat) (lb : Array Value) (F : Ses → Ses) (w : World) : Prop :=
  ∀ (W : World) (b c base k : Nat) (L : List Ses), Below w.heap.size w W → w.heap.size ≤ b → Kd.R kSes 78 W base (fun _ => True) (.slice (some ⟨b, 0, none⟩) L.length c) L → k < L.length →
    Calls Try.prog g (#[.pointer (some ⟨b, k * 6, none⟩)] ++ lb) W fun e W' => e = .returned (.tuple #[]) ∧ Kd.R kSes 78 W' base (fun _ => True) (.slice (some ⟨b, 0, none⟩) L.length c) (L.set k (F L[k]!)) ∧ W.grownBy W' (some b)
def tk (conn : Int) (x : Ses) : Ses := { x with seq := wrap64 (x.seq + 1), busy := true, last := ⟨#[]⟩, conn := conn }
def an (last : ByteArray) (x : Ses) : Ses := { x with busy := false, last := last }
def bi (txn : Int) (x : Ses) : Ses := { x with txn := txn }
theorem grown_trans {w w1 w2 : World} {r : Option Nat} (h : w.grownBy w1 r) (h2 : w1.grownBy w2 r) : w.grownBy w2 r := ⟨h2.os.trans h.os, h2.tape.trans h.tape, h2.output.trans h.output, Nat.le_trans h.size h2.size, fun k hk hne => (h2.block k (Nat.lt_of_lt_of_le hk h.size) hne).trans (h.block k hk hne)⟩
set_option maxHeartbeats 2000000 in
set_option maxRecDepth 100000 in
theorem does88 (B : Nat) (txn : Int) (w : World) (hB : B < w.heap.size) (hc : w.cell? ⟨B, 0, none⟩ = some (.int .i64 txn)) : DoesB 88 #[.pointer (some ⟨B, 0, none⟩)] (bi txn) w := by
  intro W b c base k L hb hge hR hk
  have hc' := (hb.cell (p := ⟨B, 0, none⟩) hB).trans hc
  obtain ⟨x, hx⟩ : ∃ x, L[k]! = x := ⟨_, rfl⟩
  obtain ⟨hcs, hfs⟩ := flat_own hR k hk
  rw [hx] at hcs ⊢
  have p4 := flat_put1 hR k hk 4 (by omega) (.int .i64 txn) (bi txn x) (by rw [hx]; rfl)
  have c4 := hcs 4 _ rfl
  have f4 := hfs 4
  have P4 := Lib.hid p4
  clear p4 hcs hfs hR hx hb hc
  have hne : B ≠ b := by omega
  have hne' : b ≠ B := by omega
  show Calls Try.prog 88 #[.pointer (some ⟨b, k * 6, none⟩), .pointer (some ⟨B, 0, none⟩)] W _
  go_enter Try.func88, Try.ntmps88
  go_wp2
  go_end0
  exact ⟨rfl, P4.out⟩
set_option maxHeartbeats 2000000 in
set_option maxRecDepth 100000 in
theorem does87 (B : Nat) (last : ByteArray) (w : World) (hB : B < w.heap.size) (hc : w.cell? ⟨B, 0, none⟩ = some (.string last)) : DoesB 87 #[.pointer (some ⟨B, 0, none⟩)] (an last) w := by
  intro W b c base k L hb hge hR hk
  have hc' := (hb.cell (p := ⟨B, 0, none⟩) hB).trans hc
  obtain ⟨x, hx⟩ : ∃ x, L[k]! = x := ⟨_, rfl⟩
  obtain ⟨hcs, hfs⟩ := flat_own hR k hk
  rw [hx] at hcs ⊢
  have c2 := hcs 2 _ rfl
  have c3 := hcs 3 _ rfl
  have f2 := hfs 2
  have f3 := hfs 3
  have HR := Lib.hid hR
  have HX := Lib.hid hx
  clear hcs hfs hR hx hb hc
  have hne : B ≠ b := by omega
  have hne' : b ≠ B := by omega
  show Calls Try.prog 87 #[.pointer (some ⟨b, k * 6, none⟩), .pointer (some ⟨B, 0, none⟩)] W _
  go_enter Try.func87, Try.ntmps87
  go_wp2
  go_region_held3 (fun W' => W'.cell? ⟨B, 0, none⟩ = some (.string last)) (go_simp) (fail)
  go_end0
  have p := flat_putm (flat_put1 HR.out k hk 2 (by omega) (.bool false) { x with busy := false } (by rw [HX.out]; rfl)) hk 3 (by omega) (.string last) (an last x) rfl
  exact ⟨rfl, flat_drew p⟩
set_option maxHeartbeats 2000000 in
set_option maxRecDepth 100000 in
theorem does83 (B : Nat) (conn : Int) (w : World) (hB : B < w.heap.size) (hc : w.cell? ⟨B, 0, none⟩ = some (.int .i64 conn)) : DoesB 83 #[.pointer (some ⟨B, 0, none⟩)] (tk conn) w := by
  intro W b c base k L hb hge hR hk
  have hc' := (hb.cell (p := ⟨B, 0, none⟩) hB).trans hc
  obtain ⟨x, hx⟩ : ∃ x, L[k]! = x := ⟨_, rfl⟩
  obtain ⟨hcs, hfs⟩ := flat_own hR k hk
  rw [hx] at hcs ⊢
  have c1 := hcs 1 _ rfl
  have c2 := hcs 2 _ rfl
  have c3 := hcs 3 _ rfl
  have c5 := hcs 5 _ rfl
  have f1 := hfs 1
  have f2 := hfs 2
  have f3 := hfs 3
  have f5 := hfs 5
  have HR := Lib.hid hR
  have HX := Lib.hid hx
  clear hcs hfs hR hx hb hc
  have hne : B ≠ b := by omega
  have hne' : b ≠ B := by omega
  show Calls Try.prog 83 #[.pointer (some ⟨b, k * 6, none⟩), .pointer (some ⟨B, 0, none⟩)] W _
  go_enter Try.func83, Try.ntmps83
  go_wp2
  go_region_held3 (fun W' => W'.cell? ⟨B, 0, none⟩ = some (.int .i64 conn)) (go_simp) (fail)
  go_end0
  have p := flat_putm (flat_putm (flat_putm (flat_put1 HR.out k hk 1 (by omega) (.int .i64 (wrap64 (x.seq + 1))) { x with seq := wrap64 (x.seq + 1) } (by rw [HX.out]; rfl)) hk 2 (by omega) (.bool true) { x with seq := wrap64 (x.seq + 1), busy := true } rfl) hk 3 (by omega) (.string ⟨#[]⟩) { x with seq := wrap64 (x.seq + 1), busy := true, last := ⟨#[]⟩ } rfl) hk 5 (by omega) (.int .i64 conn) (tk conn x) rfl
  exact ⟨rfl, flat_drew p⟩
/-- Sessions with one of them changed. -/
def SS.upd (s : SS) (k : Nat) (F : Ses → Ses) : SS := { s with L := s.L.set k (F s.L[k]!) }
set_option maxHeartbeats 4000000 in
set_option maxRecDepth 100000 in
theorem with82_no (ok : Nat → Prop) (v : Value) (s : SS) (id : Int) (f : Value) (w : World) (h : IsSS ok w v s) (hi : fidx (fun x => x.id == id) s.L < 0) :
    Calls Try.prog 82 #[v, .int .i64 id, f] w fun e w' => e = .returned (.tuple #[v, .int .i64 7]) ∧ Below w.heap.size w w' := by
  obtain ⟨A1, c1, A2, c2, rfl, h1, l1, h2, l2⟩ := h
  have HC := Lib.hid h1.self
  have ha := at109 s.epoch A1 c1 s.L (.slice A2 s.H.length c2) rfl s.next s.now id
  generalize fidx (fun x => x.id == id) s.L = i at hi ha
  have HA := Lib.hid ha
  clear h1 h2 l1 l2 ha
  obtain ⟨W, hW, K1, K2, HW, hs⟩ := boxes2 w #[.int .i64 s.epoch, .slice A1 s.L.length c1, .slice A2 s.H.length c2, .int .i64 s.next, .int .u64 s.now] 26 #[.int .i64 0, .slice none 0 0, .slice none 0 0, .int .i64 0, .int .u64 0] 26
  have HC1 := Lib.hid (Kd.C_below HC.out HW)
  have r1 := blk_cells K1
  have r2 := blk_cells K2
  have z2 := blk_frz K2
  have HWW := Lib.hid hW
  have HWB := Lib.hid HW
  have n12 : w.heap.size ≠ w.heap.size + 1 := by omega
  clear hW HW K1 K2 hs
  go_enter Try.func82, Try.ntmps82
  go_wp2_with (go_at_call 109; rw [HWW.out]; refine (HA.out W HC1.out).mono ?_; rintro e w1 ⟨rfl, hb⟩; have B1 : Below W.heap.size W w1 := hb; clear hb)
  refine bodyPost_ret (v := .tuple #[.agg #[.int .i64 s.epoch, .slice A1 s.L.length c1, .slice A2 s.H.length c2, .int .i64 s.next, .int .u64 s.now], .int .i64 7]) (by simp [results, Try.results82, go_sem, r2, z2, B1]) rfl ⟨rfl, ?_⟩
  repeat refine bl_set ?_ (by omega)
  exact bl_trans HWB.out B1
set_option maxHeartbeats 8000000 in
set_option maxRecDepth 100000 in
theorem with82_yes (ok : Nat → Prop) (v : Value) (s : SS) (id : Int) (g : Nat) (lb : Array Value) (F : Ses → Ses) (eg : ∀ args w, (callFunc g args).run Try.prog w = .ok (.enter g args) w) (w : World) (h : IsSS ok w v s) (k : Nat) (hi : fidx (fun x => x.id == id) s.L = (k : Int)) (hk : k < s.L.length) (hd : DoesB g lb F w) (hsm : s.L.length ≤ 1000) :
    Calls Try.prog 82 #[v, .int .i64 id, .func (.func g) #[] lb] w fun e w' => ∃ v', e = .returned (.tuple #[v', .int .i64 0]) ∧ IsSS (fun k => (ok k ∧ k < w.heap.size) ∨ w.heap.size + 2 ≤ k) w' v' (s.upd k F) ∧ Below w.heap.size w w' := by
  obtain ⟨A1, c1, A2, c2, rfl, h1, l1, h2, l2⟩ := h
  have HC := Lib.hid h1.self
  have HC2 := Lib.hid h2
  have HL1 := Lib.hid l1
  have HL2 := Lib.hid l2
  have ha := at109 s.epoch A1 c1 s.L (.slice A2 s.H.length c2) rfl s.next s.now id
  rw [hi] at ha
  have HA := Lib.hid ha
  have HD := Lib.hid hd
  clear h1 h2 l1 l2 ha hi hd
  obtain ⟨W, hW, K1, K2, HW, hs⟩ := boxes2 w #[.int .i64 s.epoch, .slice A1 s.L.length c1, .slice A2 s.H.length c2, .int .i64 s.next, .int .u64 s.now] 26 #[.int .i64 0, .slice none 0 0, .slice none 0 0, .int .i64 0, .int .u64 0] 26
  have HC1 := Lib.hid (Kd.C_below HC.out HW)
  have r1 := blk_cells K1
  have z1 := blk_frz K1
  have r2 := blk_cells K2
  have z2 := blk_frz K2
  have HK1 := Lib.hid K1
  have HK2 := Lib.hid K2
  have HWW := Lib.hid hW
  have HWB := Lib.hid HW
  have HS := Lib.hid hs
  have n12 : w.heap.size ≠ w.heap.size + 1 := by omega
  clear hW HW K1 K2 hs
  have hk0 : (0 : Int) ≤ (k : Int) := Int.natCast_nonneg _
  have hk1 : (k : Int) < (s.L.length : Int) := by omega
  go_enter Try.func82, Try.ntmps82
  go_wp2_with (first | (go_at_call 109; rw [HWW.out]; refine (HA.out W HC1.out).mono ?_; rintro e w1 ⟨rfl, hb⟩; have B1 : Below W.heap.size W w1 := hb; clear hb) | (go_at_call 108; refine (clone108 A1 c1 s.L _ (Kd.C_below HC1.out B1) HL1.out (by omega)).mono ?_; rintro e w2 ⟨v2, rfl, hR, hb⟩; obtain ⟨b, cap, rfl, hge, hlt, hq_⟩ := Kd.R_form hR (by omega); clear hq_; have HR := Lib.hid hR; have HGE := Lib.hid hge; have B2 : Below W.heap.size W w2 := bl_trans B1 hb; clear hb hR hge hlt))
  have hs1 := HS.out
  have hs2 := B1.size
  have hs3 := HGE.out
  refine (HD.out _ b cap w1.heap.size k s.L (bl_set (bl_trans HWB.out B2) (Nat.le_refl _)) (by omega) (R_farB HR.out (by omega) _ _) hk).mono ?_
  rintro e w3 ⟨rfl, hR3, hg3⟩
  have K1' := blk_grown (blk_put (blk_below HK1.out B2) 1 (.slice (some ⟨b, 0, none⟩) s.L.length cap) rfl) hg3 (by intro he; injection he with he; omega)
  have K2' := blk_grown (blk_far (p := ⟨w.heap.size, 1, none⟩) (blk_below HK2.out B2) (by show w.heap.size + 1 ≠ w.heap.size; omega) (.slice (some ⟨b, 0, none⟩) s.L.length cap)) hg3 (by intro he; injection he with he; omega)
  have r3 := blk_cells K1'
  have r4 := blk_cells K2'
  have z4 := blk_frz K2'
  have HR3 := Lib.hid hR3
  have HG3 := Lib.hid hg3
  have B3 := bl_refl w3
  clear hR3 hg3 K1' K2' hs1 hs2 hs3
  go_wp2
  have hs1 := HS.out
  have hs2 := B1.size
  have hs3 := HGE.out
  have hs4 := B2.size
  have HB3 : Below w.heap.size w w3 := bl_grown (bl_set (bl_trans HWB.out B2) (Nat.le_refl _)) HG3.out (by omega) (by simp; omega)
  refine bodyPost_ret (v := .tuple #[.agg #[.int .i64 s.epoch, .slice (some ⟨b, 0, none⟩) s.L.length cap, .slice A2 s.H.length c2, .int .i64 s.next, .int .u64 s.now], .int .i64 0]) (by simp [results, Try.results82, go_sem, r4, z4, B3]) rfl ⟨_, rfl, ⟨some ⟨b, 0, none⟩, cap, A2, c2, by simp [SS.upd], ?_, ?_, ?_, HL2.out⟩, ?_⟩
  · refine (R_ft (e := 78) (base := w1.heap.size) (ok := fun _ => True) (m := s.L.length) (c := cap) ?_).mono (fun k hk _ => .inr (by omega))
    repeat refine R_farB ?_ (by omega) _ _
    exact HR3.out
  · have := (Kd.R_reads' HR3.out).2.1
    simpa [SS.upd] using this
  · have hf : Ft (fun k => ok k ∧ k < w.heap.size) w3 (fun W => Kd.C kAlm W A2 s.H.length s.H) := HC2.out.cut.belowB HB3 (fun k hk _ => hk.2)
    refine Ft.mono (ok := fun k => ok k ∧ k < w.heap.size) ?_ (fun k hk _ => .inl hk)
    repeat refine Ft.set ?_ (fun h => by have := h.2; omega)
    exact hf
  · repeat refine bl_set ?_ (by omega)
    exact HB3
end Go.Proofs.Ytkcebmamohimoaa
