/- What came in: sessions, requests, and what the laws of sessions are asked of. -/
import Derived.Test.YtkcebmamohimoaaR1
import Derived.Test.YtkcebmamohimoaaS8
namespace Go.Proofs.Ytkcebmamohimoaa
open Go.RowKit Go.Proofs.YtkcebmamohimoaaW.PrintWords
set_option linter.unusedVariables false
set_option linter.unusedSimpArgs false
theorem cells3 : Try.prog.cellsOf 3 = 1 := by kernel_rfl
theorem cells4 : Try.prog.cellsOf 4 = 1 := by kernel_rfl
theorem cells9 : Try.prog.cellsOf 9 = 1 := by kernel_rfl
theorem cells24 : Try.prog.cellsOf 24 = 1 := by kernel_rfl
theorem cells22 : Try.prog.cellsOf 22 = 1 := by kernel_rfl
theorem cells23 : Try.prog.cellsOf 23 = 1 := by kernel_rfl
theorem cells78 : Try.prog.cellsOf 78 = 6 := by kernel_rfl
theorem cells175 : Try.prog.cellsOf 175 = 2 := by kernel_rfl
theorem cells26 : Try.prog.cellsOf 26 = 5 := by kernel_rfl
theorem cells28 : Try.prog.cellsOf 28 = 6 := by kernel_rfl
theorem cells30 : Try.prog.cellsOf 30 = 11 := by kernel_rfl
theorem cells32 : Try.prog.cellsOf 32 = 20 := by kernel_rfl
theorem rd78 {H : Type} {enc : TypeId × Value → H} {w : World} {cs : List Value} (h : Rd enc w 78 cs) : ∃ x : Ses, cs = x.cells ∧ (-9223372036854775808 ≤ x.seq ∧ x.seq ≤ 9223372036854775807) := by
  have hl := Rd.len Try.underlying78 h
  rw [cells78] at hl
  match cs, hl with
  | [c0, c1, c2, c3, c4, c5], _ =>
    obtain ⟨n0, e0, w0⟩ := Rd.int Try.underlying3 (Rd.fld Try.underlying78 h 0 _ rfl [c0] (by simp [cells3]))
    simp only [List.cons.injEq, and_true] at e0
    subst e0
    obtain ⟨n1, e1, w1⟩ := Rd.int Try.underlying3 (Rd.fld Try.underlying78 h 1 _ rfl [c1] (by simp [cells3]))
    simp only [List.cons.injEq, and_true] at e1
    subst e1
    obtain ⟨n2, e2⟩ := Rd.bool Try.underlying4 (Rd.fld Try.underlying78 h 2 _ rfl [c2] (by simp [cells4]))
    simp only [List.cons.injEq, and_true] at e2
    subst e2
    obtain ⟨n3, e3, w3⟩ := Rd.string Try.underlying9 (Rd.fld Try.underlying78 h 3 _ rfl [c3] (by simp [cells9]))
    simp only [List.cons.injEq, and_true] at e3
    subst e3
    obtain ⟨n4, e4, w4⟩ := Rd.int Try.underlying3 (Rd.fld Try.underlying78 h 4 _ rfl [c4] (by simp [cells3]))
    simp only [List.cons.injEq, and_true] at e4
    subst e4
    obtain ⟨n5, e5, w5⟩ := Rd.int Try.underlying3 (Rd.fld Try.underlying78 h 5 _ rfl [c5] (by simp [cells3]))
    simp only [List.cons.injEq, and_true] at e5
    subst e5
    exact ⟨⟨n0, n1, n2, n3, n4, n5⟩, rfl, bounds_i64 w1⟩
theorem rd175 {H : Type} {enc : TypeId × Value → H} {w : World} {cs : List Value} (h : Rd enc w 175 cs) : ∃ x : Alm, cs = x.cells ∧ True := by
  have hl := Rd.len Try.underlying175 h
  rw [cells175] at hl
  match cs, hl with
  | [c0, c1], _ =>
    obtain ⟨n0, e0, w0⟩ := Rd.int Try.underlying24 (Rd.fld Try.underlying175 h 0 _ rfl [c0] (by simp [cells24]))
    simp only [List.cons.injEq, and_true] at e0
    subst e0
    obtain ⟨n1, e1, w1⟩ := Rd.int Try.underlying3 (Rd.fld Try.underlying175 h 1 _ rfl [c1] (by simp [cells3]))
    simp only [List.cons.injEq, and_true] at e1
    subst e1
    exact ⟨⟨n0, n1⟩, rfl, trivial⟩
theorem rd22 {H : Type} {enc : TypeId × Value → H} {w : World} {cs : List Value} (h : Rd enc w 22 cs) : ∃ (A : Option Addr) (L : List Ses) (cap : Nat), cs = [.slice A L.length cap] ∧ Kd.C kSes w A L.length L ∧ L.length ≤ cap ∧ ∀ x ∈ L, -9223372036854775808 ≤ x.seq ∧ x.seq ≤ 9223372036854775807 :=
  Rd.row Try.underlying22 cells78 (fun x : Ses => -9223372036854775808 ≤ x.seq ∧ x.seq ≤ 9223372036854775807) (fun _ h => rd78 h) h
theorem rd23 {H : Type} {enc : TypeId × Value → H} {w : World} {cs : List Value} (h : Rd enc w 23 cs) : ∃ (A : Option Addr) (L : List Alm) (cap : Nat), cs = [.slice A L.length cap] ∧ Kd.C kAlm w A L.length L ∧ L.length ≤ cap ∧ ∀ x ∈ L, True :=
  Rd.row Try.underlying23 cells175 (fun x : Alm => True) (fun _ h => rd175 h) h
theorem bounds_u64' {n : Int} (h : (Lit.int .u64 n).wf = true) : 0 ≤ n ∧ n < 18446744073709551616 := by have := bounds_u64 h; omega
/-- Sessions that came in. -/
def InSS (w : World) (cs : List Value) (s : SS) : Prop := IsSS (fun _ => True) w (.agg cs.toArray) s ∧ (0 ≤ s.now ∧ s.now < 18446744073709551616) ∧ (∀ x ∈ s.L, -9223372036854775808 ≤ x.seq ∧ x.seq ≤ 9223372036854775807) ∧ (-9223372036854775808 ≤ s.next ∧ s.next ≤ 9223372036854775807)
theorem rd26 {H : Type} {enc : TypeId × Value → H} {w : World} {cs : List Value} (h : Rd enc w 26 cs) : ∃ (e : Int) (A1 : Option Addr) (c1 : Nat) (L : List Ses) (A2 : Option Addr) (c2 : Nat) (M : List Alm) (n t : Int), cs = [.int .i64 e, .slice A1 L.length c1, .slice A2 M.length c2, .int .i64 n, .int .u64 t] ∧ InSS w cs ⟨e, L, M, n, t⟩ := by
  have hl := Rd.len Try.underlying26 h
  rw [cells26] at hl
  match cs, hl with
  | [c0, c1, c2, c3, c4], _ =>
    obtain ⟨n0, e0, w0⟩ := Rd.int Try.underlying3 (Rd.fld Try.underlying26 h 0 _ rfl [c0] (by simp [cells3]))
    simp only [List.cons.injEq, and_true] at e0
    subst e0
    obtain ⟨A1, L1, p1, e1, g1, l1, q1⟩ := rd22 (Rd.fld Try.underlying26 h 1 _ rfl [c1] (by simp [cells22]))
    simp only [List.cons.injEq, and_true] at e1
    subst e1
    obtain ⟨A2, L2, p2, e2, g2, l2, q2⟩ := rd23 (Rd.fld Try.underlying26 h 2 _ rfl [c2] (by simp [cells23]))
    simp only [List.cons.injEq, and_true] at e2
    subst e2
    obtain ⟨n3, e3, w3⟩ := Rd.int Try.underlying3 (Rd.fld Try.underlying26 h 3 _ rfl [c3] (by simp [cells3]))
    simp only [List.cons.injEq, and_true] at e3
    subst e3
    obtain ⟨n4, e4, w4⟩ := Rd.int Try.underlying24 (Rd.fld Try.underlying26 h 4 _ rfl [c4] (by simp [cells24]))
    simp only [List.cons.injEq, and_true] at e4
    subst e4
    exact ⟨n0, A1, p1, L1, A2, p2, L2, n3, n4, rfl, ⟨A1, p1, A2, p2, rfl, C_ft g1, l1, C_ft g2, l2⟩, bounds_u64' w4, q1, bounds_i64 w3⟩
theorem rd28 {H : Type} {enc : TypeId × Value → H} {w : World} {cs : List Value} (h : Rd enc w 28 cs) : ∃ (a : Int) (b c d e : ByteArray) (m : Int), cs = [.int .i64 a, .string b, .string c, .string d, .string e, .int .i64 m] := by
  have hl := Rd.len Try.underlying28 h
  rw [cells28] at hl
  match cs, hl with
  | [c0, c1, c2, c3, c4, c5], _ =>
    obtain ⟨n0, e0, w0⟩ := Rd.int Try.underlying3 (Rd.fld Try.underlying28 h 0 _ rfl [c0] (by simp [cells3]))
    simp only [List.cons.injEq, and_true] at e0
    subst e0
    obtain ⟨n1, e1, w1⟩ := Rd.string Try.underlying9 (Rd.fld Try.underlying28 h 1 _ rfl [c1] (by simp [cells9]))
    simp only [List.cons.injEq, and_true] at e1
    subst e1
    obtain ⟨n2, e2, w2⟩ := Rd.string Try.underlying9 (Rd.fld Try.underlying28 h 2 _ rfl [c2] (by simp [cells9]))
    simp only [List.cons.injEq, and_true] at e2
    subst e2
    obtain ⟨n3, e3, w3⟩ := Rd.string Try.underlying9 (Rd.fld Try.underlying28 h 3 _ rfl [c3] (by simp [cells9]))
    simp only [List.cons.injEq, and_true] at e3
    subst e3
    obtain ⟨n4, e4, w4⟩ := Rd.string Try.underlying9 (Rd.fld Try.underlying28 h 4 _ rfl [c4] (by simp [cells9]))
    simp only [List.cons.injEq, and_true] at e4
    subst e4
    obtain ⟨n5, e5, w5⟩ := Rd.int Try.underlying3 (Rd.fld Try.underlying28 h 5 _ rfl [c5] (by simp [cells3]))
    simp only [List.cons.injEq, and_true] at e5
    subst e5
    exact ⟨n0, n1, n2, n3, n4, n5, rfl⟩
theorem rd30 {H : Type} {enc : TypeId × Value → H} {w : World} {cs : List Value} (h : Rd enc w 30 cs) : ∃ q : Rq, q.value = .agg cs.toArray := by
  have hl := Rd.len Try.underlying30 h
  rw [cells30] at hl
  match cs, hl with
  | [c0, c1, c2, c3, c4, c5, c6, c7, c8, c9, c10], _ =>
    obtain ⟨n0, e0, w0⟩ := Rd.int Try.underlying3 (Rd.fld Try.underlying30 h 0 _ rfl [c0] (by simp [cells3]))
    simp only [List.cons.injEq, and_true] at e0
    subst e0
    obtain ⟨n1, e1, w1⟩ := Rd.int Try.underlying3 (Rd.fld Try.underlying30 h 1 _ rfl [c1] (by simp [cells3]))
    simp only [List.cons.injEq, and_true] at e1
    subst e1
    obtain ⟨n2, e2, w2⟩ := Rd.int Try.underlying3 (Rd.fld Try.underlying30 h 2 _ rfl [c2] (by simp [cells3]))
    simp only [List.cons.injEq, and_true] at e2
    subst e2
    obtain ⟨n3, e3, w3⟩ := Rd.int Try.underlying3 (Rd.fld Try.underlying30 h 3 _ rfl [c3] (by simp [cells3]))
    simp only [List.cons.injEq, and_true] at e3
    subst e3
    obtain ⟨n4, e4, w4⟩ := Rd.string Try.underlying9 (Rd.fld Try.underlying30 h 4 _ rfl [c4] (by simp [cells9]))
    simp only [List.cons.injEq, and_true] at e4
    subst e4
    obtain ⟨k5, b5, v5, lo5, hi5, m5, e5⟩ := rd28 (Rd.fld Try.underlying30 h 5 _ rfl [c5, c6, c7, c8, c9, c10] (by simp [cells28]))
    simp only [List.cons.injEq, and_true] at e5
    obtain ⟨rfl, rfl, rfl, rfl, rfl, rfl⟩ := e5
    exact ⟨⟨n0, n1, n2, n3, n4, k5, b5, v5, lo5, hi5, m5⟩, rfl⟩
theorem rd32 {H : Type} {enc : TypeId × Value → H} {w : World} {cs : List Value} (h : Rd enc w 32 cs) : ∃ (ep : Int) (A1 : Option Addr) (k1 : Nat) (L : List Ses) (A2 : Option Addr) (k2 : Nat) (M : List Alm) (nx nw : Int) (q : Rq) (id conn : Int) (last : ByteArray) (txn : Int), cs = [.int .i64 ep, .slice A1 L.length k1, .slice A2 M.length k2, .int .i64 nx, .int .u64 nw, .int .i64 q.kind, .int .i64 q.ep, .int .i64 q.sess, .int .i64 q.seq, .string q.tok, .int .i64 q.okind, .string q.key, .string q.val, .string q.lo, .string q.hi, .int .i64 q.most, .int .i64 id, .int .i64 conn, .string last, .int .i64 txn] ∧ InSS w [.int .i64 ep, .slice A1 L.length k1, .slice A2 M.length k2, .int .i64 nx, .int .u64 nw] ⟨ep, L, M, nx, nw⟩ := by
  have hl := Rd.len Try.underlying32 h
  rw [cells32] at hl
  match cs, hl with
  | [c0, c1, c2, c3, c4, c5, c6, c7, c8, c9, c10, c11, c12, c13, c14, c15, c16, c17, c18, c19], _ =>
    obtain ⟨ep, A1, k1, L, A2, k2, M, nx, nw, e0, hin⟩ := rd26 (Rd.fld Try.underlying32 h 0 _ rfl [c0, c1, c2, c3, c4] (by simp [cells26]))
    obtain ⟨q, hq⟩ := rd30 (Rd.fld Try.underlying32 h 1 _ rfl [c5, c6, c7, c8, c9, c10, c11, c12, c13, c14, c15] (by simp [cells30]))
    obtain ⟨n2, e2, w2⟩ := Rd.int Try.underlying3 (Rd.fld Try.underlying32 h 2 _ rfl [c16] (by simp [cells3]))
    simp only [List.cons.injEq, and_true] at e2
    subst e2
    obtain ⟨n3, e3, w3⟩ := Rd.int Try.underlying3 (Rd.fld Try.underlying32 h 3 _ rfl [c17] (by simp [cells3]))
    simp only [List.cons.injEq, and_true] at e3
    subst e3
    obtain ⟨n4, e4, w4⟩ := Rd.string Try.underlying9 (Rd.fld Try.underlying32 h 4 _ rfl [c18] (by simp [cells9]))
    simp only [List.cons.injEq, and_true] at e4
    subst e4
    obtain ⟨n5, e5, w5⟩ := Rd.int Try.underlying3 (Rd.fld Try.underlying32 h 5 _ rfl [c19] (by simp [cells3]))
    simp only [List.cons.injEq, and_true] at e5
    subst e5
    rw [e0] at hin
    simp only [List.cons.injEq, and_true] at e0
    obtain ⟨rfl, rfl, rfl, rfl, rfl⟩ := e0
    simp only [Rq.value, Value.agg.injEq, Array.mk.injEq, List.cons.injEq, and_true] at hq
    obtain ⟨rfl, rfl, rfl, rfl, rfl, rfl, rfl, rfl, rfl, rfl, rfl⟩ := hq
    exact ⟨ep, A1, k1, L, A2, k2, M, nx, nw, q, n2, n3, n4, n5, rfl, hin⟩
end Go.Proofs.Ytkcebmamohimoaa
