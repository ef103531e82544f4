/- The library's slices.Clone, IndexFunc and ContainsFunc at this program's element types: what they answer, in memory that is new. -/
import Derived.Test.YtkcebmamohimoaaK
import Derived.Deep.LoopGhost
namespace Go.Proofs.Ytkcebmamohimoaa
open Go.RowKit Go.Proofs.YtkcebmamohimoaaW.PrintWords
set_option linter.unusedVariables false
set_option linter.unusedSimpArgs false
theorem Ses.at {w : World} {A : Option Addr} {m : Nat} {xs : List Ses} (h : Kd.C kSes w A m xs) (k : Nat) (hk : k < m) : ∃ ad, A = some ad ∧ w.cell? (ad.add (k * 6)) = some (.int .i64 xs[k]!.id) ∧ w.cell? ⟨(ad.add (k * 6)).block, (ad.add (k * 6)).off + 1, none⟩ = some (.int .i64 xs[k]!.seq) ∧ w.cell? ⟨(ad.add (k * 6)).block, (ad.add (k * 6)).off + 2, none⟩ = some (.bool xs[k]!.busy) ∧ w.cell? ⟨(ad.add (k * 6)).block, (ad.add (k * 6)).off + 3, none⟩ = some (.string xs[k]!.last) ∧ w.cell? ⟨(ad.add (k * 6)).block, (ad.add (k * 6)).off + 4, none⟩ = some (.int .i64 xs[k]!.txn) ∧ w.cell? ⟨(ad.add (k * 6)).block, (ad.add (k * 6)).off + 5, none⟩ = some (.int .i64 xs[k]!.conn) := by
  obtain ⟨ad, e, hc⟩ := flat_get h k hk
  exact ⟨ad, e, hc 0 _ rfl, by rw [← add_field _ _ 1 (by omega)]; exact hc 1 _ rfl, by rw [← add_field _ _ 2 (by omega)]; exact hc 2 _ rfl, by rw [← add_field _ _ 3 (by omega)]; exact hc 3 _ rfl, by rw [← add_field _ _ 4 (by omega)]; exact hc 4 _ rfl, by rw [← add_field _ _ 5 (by omega)]; exact hc 5 _ rfl⟩
theorem Alm.at {w : World} {A : Option Addr} {m : Nat} {xs : List Alm} (h : Kd.C kAlm w A m xs) (k : Nat) (hk : k < m) : ∃ ad, A = some ad ∧ w.cell? (ad.add (k * 2)) = some (.int .u64 xs[k]!.due) ∧ w.cell? ⟨(ad.add (k * 2)).block, (ad.add (k * 2)).off + 1, none⟩ = some (.int .i64 xs[k]!.id) := by
  obtain ⟨ad, e, hc⟩ := flat_get h k hk
  exact ⟨ad, e, hc 0 _ rfl, by rw [← add_field _ _ 1 (by omega)]; exact hc 1 _ rfl⟩
theorem Pr.at {w : World} {A : Option Addr} {m : Nat} {xs : List Pr} (h : Kd.C kPr w A m xs) (k : Nat) (hk : k < m) : ∃ ad, A = some ad ∧ w.cell? (ad.add (k * 2)) = some (.string xs[k]!.key) ∧ w.cell? ⟨(ad.add (k * 2)).block, (ad.add (k * 2)).off + 1, none⟩ = some (.string xs[k]!.val) := by
  obtain ⟨ad, e, hc⟩ := flat_get h k hk
  exact ⟨ad, e, hc 0 _ rfl, by rw [← add_field _ _ 1 (by omega)]; exact hc 1 _ rfl⟩
theorem Wr.at {w : World} {A : Option Addr} {m : Nat} {xs : List Wr} (h : Kd.C kWr w A m xs) (k : Nat) (hk : k < m) : ∃ ad, A = some ad ∧ w.cell? (ad.add (k * 3)) = some (.string xs[k]!.key) ∧ w.cell? ⟨(ad.add (k * 3)).block, (ad.add (k * 3)).off + 1, none⟩ = some (.string xs[k]!.val) ∧ w.cell? ⟨(ad.add (k * 3)).block, (ad.add (k * 3)).off + 2, none⟩ = some (.bool xs[k]!.del) := by
  obtain ⟨ad, e, hc⟩ := flat_get h k hk
  exact ⟨ad, e, hc 0 _ rfl, by rw [← add_field _ _ 1 (by omega)]; exact hc 1 _ rfl, by rw [← add_field _ _ 2 (by omega)]; exact hc 2 _ rfl⟩
theorem Fl.at {w : World} {A : Option Addr} {m : Nat} {xs : List Fl} (h : Kd.C kFl w A m xs) (k : Nat) (hk : k < m) : ∃ ad, A = some ad ∧ w.cell? (ad.add (k * 3)) = some (.string xs[k]!.name) ∧ w.cell? ⟨(ad.add (k * 3)).block, (ad.add (k * 3)).off + 1, none⟩ = some (.string xs[k]!.safe) ∧ w.cell? ⟨(ad.add (k * 3)).block, (ad.add (k * 3)).off + 2, none⟩ = some (.string xs[k]!.wait) := by
  obtain ⟨ad, e, hc⟩ := flat_get h k hk
  exact ⟨ad, e, hc 0 _ rfl, by rw [← add_field _ _ 1 (by omega)]; exact hc 1 _ rfl, by rw [← add_field _ _ 2 (by omega)]; exact hc 2 _ rfl⟩
set_option maxHeartbeats 2000000 in
set_option maxRecDepth 100000 in
theorem clone108 (A : Option Addr) (c : Nat) (L : List Ses) (w : World) (h : Kd.C kSes w A L.length L) (hc : L.length ≤ c) (hlim : L.length * 56 ≤ 140737488355328) :
    Calls Try.prog 108 #[.slice A L.length c] w fun e w' => ∃ v, e = .returned v ∧ Kd.R kSes 78 w' w.heap.size (fun _ => True) v L ∧ Below w.heap.size w w' := by
  have qn := slice_eqnil 22 78 Try.underlying22
  cases A with
  | none =>
    obtain rfl := C_none h
    go_enter Try.func108, Try.ntmps108
    go_wp2
    go_ret
    exact ⟨_, rfl, Kd.R_nil .., Below.refl _ _⟩
  | some ad =>
    have HC := Lib.hid h
    have HL := Lib.hid hlim
    clear h hlim hc
    go_enter Try.func108, Try.ntmps108
    go_wp2_with (first | ((with_reducible refine gate_dst (N := 5) rfl ?_); refine Kd.R_lit kSes w.heap.size 78 ?hg (N := 5) ?hd (xs := ([] : List Ses)) (inner := []) (ok := fun _ => True) (okp := fun _ => True) ?hr ?hp (fun _ hk => hk) trivial (Below.refl _ _) (Nat.le_refl _) (by simp) ?_; (case hd => rfl); (case hg => rfl); (case hr => first | (go_simp; done) | (go_simp; rfl)); (case hp => exact (Reps.none _ _)); intro v1 w1 ho1 hb1 hg_ hnew_; have HO1 := Lib.hid ho1; have HB1 := Lib.hid hb1; clear ho1 hb1 hg_ hnew_) | ((with_reducible refine g_bi (b := .append) (xs := #[.tmp 5, .tmp 6]) rfl ?_); at_builtin; refine Kd.R_append_rows kSes (w0 := w) w.heap.size rfl (.tmp 5) (.tmp 6) 22 78 _ 56 rfl Try.underlying22 info78 rfl (by decide) (by omega) v1 ([] : List Ses) L _ _ _ (fun _ => True) (fun _ => False) rfl rfl ?aO ?aR (fun _ _ h => h) (fun _ h => h.elim) (fun _ _ => trivial) ?aB ?aS ?aL ?_; (case aR => exact Kd.C_below HC.out HB1.out); (case aB => exact HB1.out); (case aO => exact HO1.out); (case aS => exact HB1.out.size); (case aL => have := HL.out; simp; omega); intro v2 w2 ho2 hb2 hg_ hat_))
    go_ret
    exact ⟨_, rfl, ho2, hb2⟩
set_option maxHeartbeats 2000000 in
set_option maxRecDepth 100000 in
theorem clone191 (A : Option Addr) (c : Nat) (L : List Alm) (w : World) (h : Kd.C kAlm w A L.length L) (hc : L.length ≤ c) (hlim : L.length * 16 ≤ 140737488355328) :
    Calls Try.prog 191 #[.slice A L.length c] w fun e w' => ∃ v, e = .returned v ∧ Kd.R kAlm 175 w' w.heap.size (fun _ => True) v L ∧ Below w.heap.size w w' := by
  have qn := slice_eqnil 23 175 Try.underlying23
  cases A with
  | none =>
    obtain rfl := C_none h
    go_enter Try.func191, Try.ntmps191
    go_wp2
    go_ret
    exact ⟨_, rfl, Kd.R_nil .., Below.refl _ _⟩
  | some ad =>
    have HC := Lib.hid h
    have HL := Lib.hid hlim
    clear h hlim hc
    go_enter Try.func191, Try.ntmps191
    go_wp2_with (first | ((with_reducible refine gate_dst (N := 5) rfl ?_); refine Kd.R_lit kAlm w.heap.size 175 ?hg (N := 5) ?hd (xs := ([] : List Alm)) (inner := []) (ok := fun _ => True) (okp := fun _ => True) ?hr ?hp (fun _ hk => hk) trivial (Below.refl _ _) (Nat.le_refl _) (by simp) ?_; (case hd => rfl); (case hg => rfl); (case hr => first | (go_simp; done) | (go_simp; rfl)); (case hp => exact (Reps.none _ _)); intro v1 w1 ho1 hb1 hg_ hnew_; have HO1 := Lib.hid ho1; have HB1 := Lib.hid hb1; clear ho1 hb1 hg_ hnew_) | ((with_reducible refine g_bi (b := .append) (xs := #[.tmp 5, .tmp 6]) rfl ?_); at_builtin; refine Kd.R_append_rows kAlm (w0 := w) w.heap.size rfl (.tmp 5) (.tmp 6) 23 175 _ 16 rfl Try.underlying23 info175 rfl (by decide) (by omega) v1 ([] : List Alm) L _ _ _ (fun _ => True) (fun _ => False) rfl rfl ?aO ?aR (fun _ _ h => h) (fun _ h => h.elim) (fun _ _ => trivial) ?aB ?aS ?aL ?_; (case aR => exact Kd.C_below HC.out HB1.out); (case aB => exact HB1.out); (case aO => exact HO1.out); (case aS => exact HB1.out.size); (case aL => have := HL.out; simp; omega); intro v2 w2 ho2 hb2 hg_ hat_))
    go_ret
    exact ⟨_, rfl, ho2, hb2⟩
set_option maxHeartbeats 2000000 in
set_option maxRecDepth 100000 in
theorem clone165 (A : Option Addr) (c : Nat) (L : List Pr) (w : World) (h : Kd.C kPr w A L.length L) (hc : L.length ≤ c) (hlim : L.length * 32 ≤ 140737488355328) :
    Calls Try.prog 165 #[.slice A L.length c] w fun e w' => ∃ v, e = .returned v ∧ Kd.R kPr 161 w' w.heap.size (fun _ => True) v L ∧ Below w.heap.size w w' := by
  have qn := slice_eqnil 61 161 Try.underlying61
  cases A with
  | none =>
    obtain rfl := C_none h
    go_enter Try.func165, Try.ntmps165
    go_wp2
    go_ret
    exact ⟨_, rfl, Kd.R_nil .., Below.refl _ _⟩
  | some ad =>
    have HC := Lib.hid h
    have HL := Lib.hid hlim
    clear h hlim hc
    go_enter Try.func165, Try.ntmps165
    go_wp2_with (first | ((with_reducible refine gate_dst (N := 5) rfl ?_); refine Kd.R_lit kPr w.heap.size 161 ?hg (N := 5) ?hd (xs := ([] : List Pr)) (inner := []) (ok := fun _ => True) (okp := fun _ => True) ?hr ?hp (fun _ hk => hk) trivial (Below.refl _ _) (Nat.le_refl _) (by simp) ?_; (case hd => rfl); (case hg => rfl); (case hr => first | (go_simp; done) | (go_simp; rfl)); (case hp => exact (Reps.none _ _)); intro v1 w1 ho1 hb1 hg_ hnew_; have HO1 := Lib.hid ho1; have HB1 := Lib.hid hb1; clear ho1 hb1 hg_ hnew_) | ((with_reducible refine g_bi (b := .append) (xs := #[.tmp 5, .tmp 6]) rfl ?_); at_builtin; refine Kd.R_append_rows kPr (w0 := w) w.heap.size rfl (.tmp 5) (.tmp 6) 61 161 _ 32 rfl Try.underlying61 info161 rfl (by decide) (by omega) v1 ([] : List Pr) L _ _ _ (fun _ => True) (fun _ => False) rfl rfl ?aO ?aR (fun _ _ h => h) (fun _ h => h.elim) (fun _ _ => trivial) ?aB ?aS ?aL ?_; (case aR => exact Kd.C_below HC.out HB1.out); (case aB => exact HB1.out); (case aO => exact HO1.out); (case aS => exact HB1.out.size); (case aL => have := HL.out; simp; omega); intro v2 w2 ho2 hb2 hg_ hat_))
    go_ret
    exact ⟨_, rfl, ho2, hb2⟩
set_option maxHeartbeats 2000000 in
set_option maxRecDepth 100000 in
theorem clone179 (A : Option Addr) (c : Nat) (L : List Fl) (w : World) (h : Kd.C kFl w A L.length L) (hc : L.length ≤ c) (hlim : L.length * 48 ≤ 140737488355328) :
    Calls Try.prog 179 #[.slice A L.length c] w fun e w' => ∃ v, e = .returned v ∧ Kd.R kFl 110 w' w.heap.size (fun _ => True) v L ∧ Below w.heap.size w w' := by
  have qn := slice_eqnil 103 110 Try.underlying103
  cases A with
  | none =>
    obtain rfl := C_none h
    go_enter Try.func179, Try.ntmps179
    go_wp2
    go_ret
    exact ⟨_, rfl, Kd.R_nil .., Below.refl _ _⟩
  | some ad =>
    have HC := Lib.hid h
    have HL := Lib.hid hlim
    clear h hlim hc
    go_enter Try.func179, Try.ntmps179
    go_wp2_with (first | ((with_reducible refine gate_dst (N := 5) rfl ?_); refine Kd.R_lit kFl w.heap.size 110 ?hg (N := 5) ?hd (xs := ([] : List Fl)) (inner := []) (ok := fun _ => True) (okp := fun _ => True) ?hr ?hp (fun _ hk => hk) trivial (Below.refl _ _) (Nat.le_refl _) (by simp) ?_; (case hd => rfl); (case hg => rfl); (case hr => first | (go_simp; done) | (go_simp; rfl)); (case hp => exact (Reps.none _ _)); intro v1 w1 ho1 hb1 hg_ hnew_; have HO1 := Lib.hid ho1; have HB1 := Lib.hid hb1; clear ho1 hb1 hg_ hnew_) | ((with_reducible refine g_bi (b := .append) (xs := #[.tmp 5, .tmp 6]) rfl ?_); at_builtin; refine Kd.R_append_rows kFl (w0 := w) w.heap.size rfl (.tmp 5) (.tmp 6) 103 110 _ 48 rfl Try.underlying103 info110 rfl (by decide) (by omega) v1 ([] : List Fl) L _ _ _ (fun _ => True) (fun _ => False) rfl rfl ?aO ?aR (fun _ _ h => h) (fun _ h => h.elim) (fun _ _ => trivial) ?aB ?aS ?aL ?_; (case aR => exact Kd.C_below HC.out HB1.out); (case aB => exact HB1.out); (case aO => exact HO1.out); (case aS => exact HB1.out.size); (case aL => have := HL.out; simp; omega); intro v2 w2 ho2 hb2 hg_ hat_))
    go_ret
    exact ⟨_, rfl, ho2, hb2⟩
set_option maxHeartbeats 2000000 in
set_option maxRecDepth 100000 in
theorem clone230 (A : Option Addr) (c : Nat) (L : List Wr) (w : World) (h : Kd.C kWr w A L.length L) (hc : L.length ≤ c) (hlim : L.length * 40 ≤ 140737488355328) :
    Calls Try.prog 230 #[.slice A L.length c] w fun e w' => ∃ v, e = .returned v ∧ Kd.R kWr 127 w' w.heap.size (fun _ => True) v L ∧ Below w.heap.size w w' := by
  have qn := slice_eqnil 48 127 Try.underlying48
  cases A with
  | none =>
    obtain rfl := C_none h
    go_enter Try.func230, Try.ntmps230
    go_wp2
    go_ret
    exact ⟨_, rfl, Kd.R_nil .., Below.refl _ _⟩
  | some ad =>
    have HC := Lib.hid h
    have HL := Lib.hid hlim
    clear h hlim hc
    go_enter Try.func230, Try.ntmps230
    go_wp2_with (first | ((with_reducible refine gate_dst (N := 5) rfl ?_); refine Kd.R_lit kWr w.heap.size 127 ?hg (N := 5) ?hd (xs := ([] : List Wr)) (inner := []) (ok := fun _ => True) (okp := fun _ => True) ?hr ?hp (fun _ hk => hk) trivial (Below.refl _ _) (Nat.le_refl _) (by simp) ?_; (case hd => rfl); (case hg => rfl); (case hr => first | (go_simp; done) | (go_simp; rfl)); (case hp => exact (Reps.none _ _)); intro v1 w1 ho1 hb1 hg_ hnew_; have HO1 := Lib.hid ho1; have HB1 := Lib.hid hb1; clear ho1 hb1 hg_ hnew_) | ((with_reducible refine g_bi (b := .append) (xs := #[.tmp 5, .tmp 6]) rfl ?_); at_builtin; refine Kd.R_append_rows kWr (w0 := w) w.heap.size rfl (.tmp 5) (.tmp 6) 48 127 _ 40 rfl Try.underlying48 info127 rfl (by decide) (by omega) v1 ([] : List Wr) L _ _ _ (fun _ => True) (fun _ => False) rfl rfl ?aO ?aR (fun _ _ h => h) (fun _ h => h.elim) (fun _ _ => trivial) ?aB ?aS ?aL ?_; (case aR => exact Kd.C_below HC.out HB1.out); (case aB => exact HB1.out); (case aO => exact HO1.out); (case aS => exact HB1.out.size); (case aL => have := HL.out; simp; omega); intro v2 w2 ho2 hb2 hg_ hat_))
    go_ret
    exact ⟨_, rfl, ho2, hb2⟩
end Go.Proofs.Ytkcebmamohimoaa
