/- slices.DeleteFunc of sessions. -/
import Derived.Test.YtkcebmamohimoaaS13
import Derived.Test.YtkcebmamohimoaaF1
import Derived.OwnWalk
namespace Go.Proofs.Ytkcebmamohimoaa
open Go.RowKit Go.Proofs.YtkcebmamohimoaaW.PrintWords
set_option linter.unusedVariables false
set_option linter.unusedSimpArgs false
attribute [local go_sem] bl_refl bl_alloc bl_drew bl_drewN
theorem fidx_none {α : Type} (p : α → Bool) (l : List α) (h : fidx p l < 0) : l.filter (fun x => !p x) = l := by
  rw [List.filter_eq_self]
  intro x hx
  cases hp : p x with
  | false => rfl
  | true => exact absurd ((fidx_any p l).1 (List.any_eq_true.2 ⟨x, hx, hp⟩)) (by omega)
theorem fidx_take {α : Type} (p : α → Bool) (l : List α) (k : Nat) (h : fidx p l = (k : Int)) : (l.take k).filter (fun x => !p x) = l.take k := by
  rw [List.filter_eq_self]
  intro x hx
  unfold fidx at h
  cases e : l.findIdx? p with
  | none => rw [e] at h; simp only [] at h; omega
  | some i =>
    rw [e] at h
    have hik : i = k := by simp only [] at h; omega
    subst hik
    obtain ⟨hi, _, hn⟩ := List.findIdx?_eq_some_iff_getElem.1 e
    obtain ⟨j, hj, rfl⟩ := List.getElem_of_mem hx
    rw [List.length_take] at hj
    rw [List.getElem_take]
    simpa using hn j (by omega)
set_option maxHeartbeats 16000000 in
set_option maxRecDepth 100000 in
theorem delete160 (w0 w : World) (hb0 : Below w0.heap.size w0 w) (A : Option Addr) (c : Nat) (L : List Ses) (g : Nat) (lb : Array Value) (p : Ses → Bool) (eg : ∀ args w, (callFunc g args).run Try.prog w = .ok (.enter g args) w)
    (h : Kd.R kSes 78 w w0.heap.size (fun _ => True) (.slice A L.length c) L) (hp : PredB g lb Ses.cells p w0) :
    Calls Try.prog 160 #[.slice A L.length c, .func (.func g) #[] lb] w fun e w' => ∃ v', e = .returned v' ∧ Kd.R kSes 78 w' w0.heap.size (fun _ => True) v' (L.filter (fun x => !p x)) ∧ Below w0.heap.size w0 w' := by
  have hC := (Kd.R_reads' h).2.2
  have hm : L.length ≤ 9223372036854775807 := hC.2.1
  have HI := Lib.hid (indexFunc118 A c L g lb p eg w hC (fun x W hb => hp x W (bl_trans hb0 hb)))
  have HR := Lib.hid h
  have HP := Lib.hid hp
  have HB0 := Lib.hid hb0
  have B0 := bl_refl w
  clear hC h hp hb0
  by_cases hi : fidx p L < 0
  · have he : fidx p L = -1 := by
      unfold fidx at hi ⊢
      cases e : L.findIdx? p with
      | none => rfl
      | some i => rw [e] at hi; simp only [] at hi; omega
    rw [fidx_none p L hi]
    rw [he] at HI
    clear hi he
    go_enter Try.func160, Try.ntmps160
    go_wp2_with fail
    refine HI.out.mono ?_
    rintro e w1 ⟨rfl, hb⟩
    have HB1 := Lib.hid hb
    clear hb
    go_wp2
    go_ret
    exact ⟨_, rfl, Kd.R_below HR.out HB1.out, bl_trans HB0.out HB1.out⟩
  · obtain ⟨k, hk⟩ := Int.eq_ofNat_of_zero_le (Int.not_lt.1 hi)
    have hkl : k < L.length := by have := fidx_lt p L; omega
    have hft := Lib.hid (fidx_take p L k hk)
    have hpk := Lib.hid (fidx_at p L k hk)
    rw [hk] at HI
    obtain ⟨b, cap, he, hge, hlt_, _⟩ := Kd.R_form HR.out (by omega)
    injection he with e1 _ e3
    subst e1
    have HGE := Lib.hid hge
    have hk1 : ¬ ((k : Int) = -1) := by omega
    have hk2 : ((k : Int) == -1) = false := by simp
    have hw1 : IntKind.i64.wrap ((k : Int) + 1) = (k : Int) + 1 := IntWalk.i64_in _ (by omega)
    clear hi hk hge hlt_ e3
    go_enter Try.func160, Try.ntmps160
    go_wp2_with fail
    refine HI.out.mono ?_
    rintro e w1 ⟨rfl, hb⟩
    have HB1 := Lib.hid (bl_trans HB0.out hb)
    have HR1 := Lib.hid (Kd.R_below HR.out hb)
    clear hb HI HR B0
    go_wp2
    go_loopg [5, 6] L.length (fun gg s5 s6 wr => ∃ (ii jj : Nat) (M : List Ses), ii < jj ∧ jj ≤ L.length ∧ L.length - jj ≤ gg ∧ s5 = .int .i64 ii ∧ s6 = .int .i64 jj ∧ Hid (Kd.R kSes 78 wr w0.heap.size (fun _ => True) (.slice (some ⟨b, 0, none⟩) L.length c) M) ∧ Hid (M.length = L.length) ∧ Hid (M.take ii = (L.take jj).filter (fun x => !p x)) ∧ Hid (∀ j, jj ≤ j → j < L.length → M[j]! = L[j]!) ∧ Hid (Below w0.heap.size w0 wr))
    case atStart =>
      refine ⟨k, k + 1, L, by omega, by omega, by omega, rfl, by first | rfl | (simp; done) | go_num, HR1.out, rfl, ?_, fun _ _ _ => rfl, HB1.out⟩
      show L.take k = _
      rw [filter_take (fun x => !p x) L k hkl, hft.out, hpk.out]
      simp
    case round =>
      obtain ⟨ii, jj, M, hij, hjl, hg, rfl, rfl, HR, HML, HT, HE, HB⟩ := hrel
      have ii0 : (0 : Int) ≤ (ii : Int) := by omega
      have jj0 : (0 : Int) ≤ (jj : Int) := by omega
      by_cases hlt : jj < L.length
      · have hltz : (jj : Int) < (L.length : Int) := by omega
        have hiz : (ii : Int) < (L.length : Int) := by omega
        obtain ⟨x, hx⟩ : ∃ x, L[jj]! = x := ⟨_, rfl⟩
        obtain ⟨hcs, _⟩ := flat_own HR.out jj (by rw [HML.out]; exact hlt)
        rw [HE.out jj (Nat.le_refl _) hlt, hx] at hcs
        have x0 := hcs 0 _ rfl
        have x1 := hcs 1 _ rfl
        have x2 := hcs 2 _ rfl
        have x3 := hcs 3 _ rfl
        have x4 := hcs 4 _ rfl
        have x5 := hcs 5 _ rfl
        simp only [Nat.add_zero] at x0
        have HX := Lib.hid hx
        have hftk := Lib.hid (filter_take (fun x => !p x) L jj hlt)
        have hbx : Below w0.heap.size w0 (wr.alloc (.cells x.cells.toArray 78)) := bl_alloc _ HB.out
        have hcall : Calls Try.prog g (#[.agg #[.int .i64 x.id, .int .i64 x.seq, .bool x.busy, .string x.last, .int .i64 x.txn, .int .i64 x.conn]] ++ lb) (wr.alloc (.cells #[.int .i64 x.id, .int .i64 x.seq, .bool x.busy, .string x.last, .int .i64 x.txn, .int .i64 x.conn] 78)) _ := HP.out x _ hbx
        have KV := blk_new wr (.cells #[.int .i64 x.id, .int .i64 x.seq, .bool x.busy, .string x.last, .int .i64 x.txn, .int .i64 x.conn] 78)
        have HRA := Lib.hid (Kd.R_alloc HR.out (.cells #[.int .i64 x.id, .int .i64 x.seq, .bool x.busy, .string x.last, .int .i64 x.txn, .int .i64 x.conn] 78))
        have HKV := Lib.hid KV
        have HBX := Lib.hid hbx
        clear hcs hx hbx KV
        cases hq : p x with
        | true =>
          have HQ := Lib.hid hq
          rw [hq] at hcall
          have HCA := Lib.hid hcall
          clear hq hcall
          go_wp2_with fail
          refine HCA.out.mono ?_
          rintro e w2 ⟨rfl, hb⟩
          have HR2 := Lib.hid (Kd.R_below HRA.out hb)
          have HB2 := Lib.hid (bl_trans HBX.out hb)
          clear hb x0 x1 x2 x3 x4 x5
          go_wp2
          go_roundg (L.length - (jj + 1))
          case measure => omega
          case rel =>
            refine ⟨ii, jj + 1, M, by omega, by omega, by omega, rfl, by go_num, HR2.out, HML.out, ?_, fun j h1 h2 => HE.out j (by omega) h2, HB2.out⟩
            show M.take ii = _
            rw [hftk.out, HX.out, HQ.out, HT.out]
            simp
        | false =>
          have HQ := Lib.hid hq
          rw [hq] at hcall
          have HCA := Lib.hid hcall
          clear hq hcall
          go_wp2_with fail
          refine HCA.out.mono ?_
          rintro e w2 ⟨rfl, hb⟩
          have HR2 := Lib.hid (Kd.R_below HRA.out hb)
          have HB2 := Lib.hid (bl_trans HBX.out hb)
          have hiM : ii < M.length := by have := HML.out; omega
          obtain ⟨hcs, hfs⟩ := flat_own HR2.out ii hiM
          obtain ⟨y, hy⟩ : ∃ y, M[ii]! = y := ⟨_, rfl⟩
          rw [hy] at hcs
          have q0 := hcs 0 _ rfl
          have q1 := hcs 1 _ rfl
          have q2 := hcs 2 _ rfl
          have q3 := hcs 3 _ rfl
          have q4 := hcs 4 _ rfl
          have q5 := hcs 5 _ rfl
          have f0 := hfs 0
          have f1 := hfs 1
          have f2 := hfs 2
          have f3 := hfs 3
          have f4 := hfs 4
          have f5 := hfs 5
          simp only [Nat.add_zero] at q0 f0
          have rv := blk_cells (blk_below HKV.out hb)
          have B2 := bl_refl w2
          have HIM := Lib.hid hiM
          clear hb x0 x1 x2 x3 x4 x5 hcs hfs hy hiM
          go_wp2
          go_roundg (L.length - (jj + 1))
          case measure => omega
          case rel =>
            refine ⟨ii + 1, jj + 1, M.set ii x, by omega, by omega, by omega, by go_num, by go_num, ses_store HR2.out ii HIM.out x, (show (M.set ii x).length = _ by rw [List.length_set]; exact HML.out), ?_, ?_, ?_⟩
            · show (M.set ii x).take (ii + 1) = _
              rw [hftk.out, HX.out, HQ.out, ← HT.out, List.take_succ_eq_append_getElem (by rw [List.length_set]; exact HIM.out), List.take_set_of_le (Nat.le_refl _)]
              simp
            · intro j h1 h2
              have hjM : j < M.length := by have := HML.out; omega
              have := HE.out j (by omega) h2
              rw [getElem!_pos (M.set ii x) j (by rw [List.length_set]; exact hjM), List.getElem_set_ne (by omega)]
              rwa [getElem!_pos M j hjM] at this
            · repeat refine bl_set ?_ HGE.out
              exact HB2.out
      · have hltz : ¬ (jj : Int) < (L.length : Int) := by omega
        have hiz : (ii : Int) ≤ (L.length : Int) := by omega
        have heq : jj = L.length := by omega
        have hTT := Lib.hid (show M.take ii = L.filter (fun x => !p x) by rw [HT.out, heq, List.take_length])
        clear heq
        have hcap := (Kd.R_reads' HR.out).2.1
        have HCAP := Lib.hid hcap
        go_wp2_with ((with_reducible refine g_bi (b := .clear) (xs := #[.tmp 38]) rfl ?_); refine Stop.go ?_)
        obtain ⟨W', hrun, hR', hgr, hge⟩ := flat_clear (P := Try.prog) (t := 22) (e := 78) (ty := 0) (c' := c - ii) Try.underlying22 info78 rfl (by intro u hu; simp [Value.cells] at hu; rcases hu with rfl | rfl | rfl | rfl | rfl | rfl <;> rfl) HR.out ii (by have := HML.out; omega)
        rw [HML.out] at hrun
        refine ⟨Kd.event_run rfl (v := .tuple #[]) (w1 := W') (by go_simp) ?_⟩
        have HR' := Lib.hid hR'
        have HB' := Lib.hid (bl_grown HB.out hgr hge HB.out.size)
        clear hrun hR' hgr hge
        go_wp2
        go_ret
        exact ⟨_, rfl, by rw [← hTT.out]; exact HR'.out, HB'.out⟩
end Go.Proofs.Ytkcebmamohimoaa
