/- Equality of records, as one Bool. -/
import Derived.Test.YtkcebmamohimoaaK
import Derived.Test.YtkcebmamohimoaaWEqStruct
namespace Go.Proofs.Ytkcebmamohimoaa
open Go.RowKit Go.Proofs.YtkcebmamohimoaaW.PrintWords
set_option linter.unusedVariables false
set_option linter.unusedSimpArgs false
theorem eqA78 (d : Nat) (w : World) (x0 y0 : Int) (x1 y1 : Int) (x2 y2 : Bool) (x3 y3 : ByteArray) (x4 y4 : Int) (x5 y5 : Int) :
    (Op.equalIn (d + 2) 78 (.agg #[.int .i64 x0, .int .i64 x1, .bool x2, .string x3, .int .i64 x4, .int .i64 x5]) (.agg #[.int .i64 y0, .int .i64 y1, .bool y2, .string y3, .int .i64 y4, .int .i64 y5])).run Try.prog w = .ok (x0 == y0 && (x1 == y1 && (x2 == y2 && (x3.toList == y3.toList && (x4 == y4 && (x5 == y5)))))) w := by
  refine eqA_of Try.underlying78 (by kernel_rfl) ?_
  refine eqf_cons (by rfl) (by go_simp; rfl) (by go_simp; rfl) (by go_simp) ?_
  refine eqf_cons (by rfl) (by go_simp; rfl) (by go_simp; rfl) (by go_simp) ?_
  refine eqf_cons (by rfl) (by go_simp; rfl) (by go_simp; rfl) (by go_simp) ?_
  refine eqf_cons (by rfl) (by go_simp; rfl) (by go_simp; rfl) (by go_simp) ?_
  refine eqf_cons (by rfl) (by go_simp; rfl) (by go_simp; rfl) (by go_simp) ?_
  exact eqf_last (by rfl) (by go_simp; rfl) (by go_simp; rfl) (by go_simp)
theorem eqA175 (d : Nat) (w : World) (x0 y0 : Int) (x1 y1 : Int) :
    (Op.equalIn (d + 2) 175 (.agg #[.int .u64 x0, .int .i64 x1]) (.agg #[.int .u64 y0, .int .i64 y1])).run Try.prog w = .ok (x0 == y0 && (x1 == y1)) w := by
  refine eqA_of Try.underlying175 (by kernel_rfl) ?_
  refine eqf_cons (by rfl) (by go_simp; rfl) (by go_simp; rfl) (by go_simp) ?_
  exact eqf_last (by rfl) (by go_simp; rfl) (by go_simp; rfl) (by go_simp)
theorem eqA161 (d : Nat) (w : World) (x0 y0 : ByteArray) (x1 y1 : ByteArray) :
    (Op.equalIn (d + 2) 161 (.agg #[.string x0, .string x1]) (.agg #[.string y0, .string y1])).run Try.prog w = .ok (x0.toList == y0.toList && (x1.toList == y1.toList)) w := by
  refine eqA_of Try.underlying161 (by kernel_rfl) ?_
  refine eqf_cons (by rfl) (by go_simp; rfl) (by go_simp; rfl) (by go_simp) ?_
  exact eqf_last (by rfl) (by go_simp; rfl) (by go_simp; rfl) (by go_simp)
theorem eqA127 (d : Nat) (w : World) (x0 y0 : ByteArray) (x1 y1 : ByteArray) (x2 y2 : Bool) :
    (Op.equalIn (d + 2) 127 (.agg #[.string x0, .string x1, .bool x2]) (.agg #[.string y0, .string y1, .bool y2])).run Try.prog w = .ok (x0.toList == y0.toList && (x1.toList == y1.toList && (x2 == y2))) w := by
  refine eqA_of Try.underlying127 (by kernel_rfl) ?_
  refine eqf_cons (by rfl) (by go_simp; rfl) (by go_simp; rfl) (by go_simp) ?_
  refine eqf_cons (by rfl) (by go_simp; rfl) (by go_simp; rfl) (by go_simp) ?_
  exact eqf_last (by rfl) (by go_simp; rfl) (by go_simp; rfl) (by go_simp)
theorem eqA110 (d : Nat) (w : World) (x0 y0 : ByteArray) (x1 y1 : ByteArray) (x2 y2 : ByteArray) :
    (Op.equalIn (d + 2) 110 (.agg #[.string x0, .string x1, .string x2]) (.agg #[.string y0, .string y1, .string y2])).run Try.prog w = .ok (x0.toList == y0.toList && (x1.toList == y1.toList && (x2.toList == y2.toList))) w := by
  refine eqA_of Try.underlying110 (by kernel_rfl) ?_
  refine eqf_cons (by rfl) (by go_simp; rfl) (by go_simp; rfl) (by go_simp) ?_
  refine eqf_cons (by rfl) (by go_simp; rfl) (by go_simp; rfl) (by go_simp) ?_
  exact eqf_last (by rfl) (by go_simp; rfl) (by go_simp; rfl) (by go_simp)
theorem bytes_inj {a b : ByteArray} (h : a.toList = b.toList) : a = b := by
  have h' : a.data.toList = b.data.toList := by simpa [ByteArray.toList_eq] using h
  exact ByteArray.ext (Array.toList_inj.1 h')
def eqSes (x y : Ses) : Bool := x.id == y.id && (x.seq == y.seq && (x.busy == y.busy && (x.last.toList == y.last.toList && (x.txn == y.txn && (x.conn == y.conn)))))
theorem eqSes_iff (x y : Ses) : eqSes x y = true ↔ x = y := by
  constructor
  · intro h
    unfold eqSes at h
    simp only [Bool.and_eq_true, beq_iff_eq] at h
    obtain ⟨h0, h1, h2, h3, h4, h5⟩ := h
    cases x; cases y
    simp only [] at h0
    simp only [] at h1
    simp only [] at h2
    simp only [] at h3
    simp only [] at h4
    simp only [] at h5
    simp only [Ses.mk.injEq]
    exact ⟨h0, h1, h2, bytes_inj h3, h4, h5⟩
  · rintro rfl
    unfold eqSes
    simp
def eqAlm (x y : Alm) : Bool := x.due == y.due && (x.id == y.id)
theorem eqAlm_iff (x y : Alm) : eqAlm x y = true ↔ x = y := by
  constructor
  · intro h
    unfold eqAlm at h
    simp only [Bool.and_eq_true, beq_iff_eq] at h
    obtain ⟨h0, h1⟩ := h
    cases x; cases y
    simp only [] at h0
    simp only [] at h1
    simp only [Alm.mk.injEq]
    exact ⟨h0, h1⟩
  · rintro rfl
    unfold eqAlm
    simp
def eqPr (x y : Pr) : Bool := x.key.toList == y.key.toList && (x.val.toList == y.val.toList)
theorem eqPr_iff (x y : Pr) : eqPr x y = true ↔ x = y := by
  constructor
  · intro h
    unfold eqPr at h
    simp only [Bool.and_eq_true, beq_iff_eq] at h
    obtain ⟨h0, h1⟩ := h
    cases x; cases y
    simp only [] at h0
    simp only [] at h1
    simp only [Pr.mk.injEq]
    exact ⟨bytes_inj h0, bytes_inj h1⟩
  · rintro rfl
    unfold eqPr
    simp
def eqWr (x y : Wr) : Bool := x.key.toList == y.key.toList && (x.val.toList == y.val.toList && (x.del == y.del))
theorem eqWr_iff (x y : Wr) : eqWr x y = true ↔ x = y := by
  constructor
  · intro h
    unfold eqWr at h
    simp only [Bool.and_eq_true, beq_iff_eq] at h
    obtain ⟨h0, h1, h2⟩ := h
    cases x; cases y
    simp only [] at h0
    simp only [] at h1
    simp only [] at h2
    simp only [Wr.mk.injEq]
    exact ⟨bytes_inj h0, bytes_inj h1, h2⟩
  · rintro rfl
    unfold eqWr
    simp
def eqFl (x y : Fl) : Bool := x.name.toList == y.name.toList && (x.safe.toList == y.safe.toList && (x.wait.toList == y.wait.toList))
theorem eqFl_iff (x y : Fl) : eqFl x y = true ↔ x = y := by
  constructor
  · intro h
    unfold eqFl at h
    simp only [Bool.and_eq_true, beq_iff_eq] at h
    obtain ⟨h0, h1, h2⟩ := h
    cases x; cases y
    simp only [] at h0
    simp only [] at h1
    simp only [] at h2
    simp only [Fl.mk.injEq]
    exact ⟨bytes_inj h0, bytes_inj h1, bytes_inj h2⟩
  · rintro rfl
    unfold eqFl
    simp
end Go.Proofs.Ytkcebmamohimoaa
