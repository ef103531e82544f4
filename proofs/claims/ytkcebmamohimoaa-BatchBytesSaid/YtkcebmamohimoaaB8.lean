/- May a batch be: the reference's. -/
import Derived.Test.YtkcebmamohimoaaB7
namespace Go.Proofs.Ytkcebmamohimoaa
open Go.RowKit Go.Proofs.YtkcebmamohimoaaW.PrintWords Go.Proofs.YtkcebmamohimoaaW.PrintLast
set_option linter.unusedVariables false
set_option linter.unusedSimpArgs false
attribute [local go_sem] bl_refl bl_alloc bl_drew bl_drewN
set_option maxHeartbeats 16000000 in
set_option maxRecDepth 100000 in
theorem may35 (A : Option Addr) (c : Nat) (b : Bt) (w : World) (h : Kd.C kWr w A b.ws.length b.ws) :
    Calls Try.prog 35 #[.agg #[.int .i64 b.kind, .string b.tok, .slice A b.ws.length c]] w fun e w' => e = .returned (.bool b.may) ∧ Below w.heap.size w w' := by
  have HC0 := Lib.hid h
  have hm0 : b.ws.length ≤ 9223372036854775807 := h.2.1
  clear h
  have hkk : b.kind < 1 ∨ 2 < b.kind ∨ b.kind = 1 ∨ b.kind = 2 := by omega
  have hbad : b.kind < 1 ∨ 2 < b.kind → b.may = false := fun h => by unfold Bt.may Bt.head; rw [beq_eq_false_iff_ne.2 (show b.kind ≠ 1 by omega), beq_eq_false_iff_ne.2 (show b.kind ≠ 2 by omega)]; rfl
  have hmay : b.may = (b.head && risesB b.ws && !(b.ws.any Wr.odd)) := rfl
  have hhd : b.head = ((b.kind == 1 || b.kind == 2) && decide (1 ≤ b.tok.size) && decide (b.tok.size ≤ 16) && decide (b.ws.length ≤ 24) && !(b.kind == 2 && decide (0 < b.ws.length))) := rfl
  obtain ⟨m, hm⟩ : ∃ m, b.may = m := ⟨_, rfl⟩
  rw [hm] at hbad hmay ⊢
  have HBAD := Lib.hid hbad
  have HMAY := Lib.hid hmay
  have HHD := Lib.hid hhd
  clear hm hbad hmay hhd
  rcases hkk with hk | hk | hk | hk
  · have e1 : (b.kind != 1) = true := by rw [bne_iff_ne]; omega
    have e2 : (b.kind != 2) = true := by rw [bne_iff_ne]; omega
    have e3 : (b.kind == 2) = false := by rw [beq_eq_false_iff_ne]; omega
    have z1 : b.kind < 1 := by omega
    have HR := Lib.hid (show m = false from HBAD.out (.inl hk))
    clear hk
    go_enter Try.func35, Try.ntmps35
    go_wp2
    go_ret
    exact ⟨by rw [HR.out]; rfl, bl_alloc _ (bl_refl _)⟩
  · have e1 : (b.kind != 1) = true := by rw [bne_iff_ne]; omega
    have e2 : (b.kind != 2) = true := by rw [bne_iff_ne]; omega
    have e3 : (b.kind == 2) = false := by rw [beq_eq_false_iff_ne]; omega
    have z1 : ¬ b.kind < 1 := by omega
    have z2 : 2 < b.kind := by omega
    have HR := Lib.hid (show m = false from HBAD.out (.inr hk))
    clear hk
    go_enter Try.func35, Try.ntmps35
    go_wp2
    go_ret
    exact ⟨by rw [HR.out]; rfl, bl_alloc _ (bl_refl _)⟩
  · have e1 : (b.kind != 1) = false := by rw [hk]; rfl
    have e3 : (b.kind == 2) = false := by rw [hk]; rfl
    have z1 : ¬ b.kind < 1 := by omega
    have z2 : ¬ 2 < b.kind := by omega
    have HK := Lib.hid hk
    clear hk
    by_cases t1 : b.tok.size < 1
    · have t1z : (b.tok.size : Int) < 1 := by omega
      have HR := Lib.hid (show m = false by rw [HMAY.out, HHD.out, decide_eq_false (show ¬ 1 ≤ b.tok.size by omega)]; simp)
      clear t1
      go_enter Try.func35, Try.ntmps35
      go_wp2
      go_ret
      exact ⟨by rw [HR.out]; rfl, bl_alloc _ (bl_refl _)⟩
    have t1z : ¬ (b.tok.size : Int) < 1 := by omega
    by_cases t2 : 16 < b.tok.size
    · have t2z : (16 : Int) < (b.tok.size : Int) := by omega
      have HR := Lib.hid (show m = false by rw [HMAY.out, HHD.out, decide_eq_false (show ¬ b.tok.size ≤ 16 by omega)]; simp)
      clear t1 t2
      go_enter Try.func35, Try.ntmps35
      go_wp2
      go_ret
      exact ⟨by rw [HR.out]; rfl, bl_alloc _ (bl_refl _)⟩
    have t2z : ¬ (16 : Int) < (b.tok.size : Int) := by omega
    by_cases t3 : 24 < b.ws.length
    · have t3z : (24 : Int) < (b.ws.length : Int) := by omega
      have HR := Lib.hid (show m = false by rw [HMAY.out, HHD.out, decide_eq_false (show ¬ b.ws.length ≤ 24 by omega)]; simp)
      clear t1 t2 t3
      go_enter Try.func35, Try.ntmps35
      go_wp2
      go_ret
      exact ⟨by rw [HR.out]; rfl, bl_alloc _ (bl_refl _)⟩
    have t3z : ¬ (24 : Int) < (b.ws.length : Int) := by omega
    have HD := Lib.hid (show b.head = true by rw [HHD.out, HK.out, decide_eq_true (show 1 ≤ b.tok.size by omega), decide_eq_true (show b.tok.size ≤ 16 by omega), decide_eq_true (show b.ws.length ≤ 24 by omega)]; rfl)
    clear t1 t2 t3
    obtain ⟨W, hW, K1, HW, hs⟩ := boxes1 w #[.int .i64 b.kind, .string b.tok, .slice A b.ws.length c] 50
    have HC := Lib.hid (Kd.C_below HC0.out HW)
    have r1 := blk_cells K1
    have HWB := Lib.hid HW
    have HSZ := Lib.hid hs
    have HWW := Lib.hid hW
    have B0 := bl_refl W
    clear hW K1 HW hs
    have HK := Lib.hid trivial
    go_enter Try.func35, Try.ntmps35
    go_wp2_with fail
    rw [HWW.out]
    go_loopg [3] b.ws.length (fun gg s3 wr => ∃ i : Nat, i ≤ b.ws.length ∧ b.ws.length - i ≤ gg ∧ s3 = .int .i64 (i : Int) ∧ Hid (Below W.heap.size W wr) ∧ Hid (∀ j, j < i → b.ws[j]!.odd = false) ∧ Hid (∀ j, j + 1 < i → bl b.ws[j]!.key b.ws[j + 1]!.key = true))
    case atStart => exact ⟨0, Nat.zero_le _, by omega, rfl, bl_refl _, fun j hj => absurd hj (Nat.not_lt_zero _), fun j hj => absurd hj (by omega)⟩
    case round =>
      obtain ⟨i, hil, hgg, rfl, HB, HN, HR0⟩ := hrel
      have Bw : Below W.heap.size W wr := HB.out
      have Br := bl_refl wr
      by_cases hlt : i < b.ws.length
      · have hz1 : (i : Int) < (b.ws.length : Int) := by omega
        have hz0 : (0 : Int) ≤ (i : Int) := by omega
        obtain ⟨x, hx⟩ : ∃ x, b.ws[i]! = x := ⟨_, rfl⟩
        obtain ⟨ad, rfl, x0, x1, x2⟩ := Wr.at (Kd.C_below HC.out Bw) i hlt
        rw [hx] at x0 x1 x2
        have p0 := cell_rule x0
        have p1 := cell_rule x1
        have p2 := cell_rule x2
        have HX := Lib.hid hx
        have HLT := Lib.hid hlt
        clear x0 x1 x2 hx hlt
        by_cases h1 : x.key.size < 1
        · have hz : (x.key.size : Int) < 1 := by omega
          have HO := Lib.hid (show x.odd = true by unfold Wr.odd; simp [h1])
          clear h1
          have HR := Lib.hid (show m = false by
            rw [HMAY.out, List.any_eq_true.2 ⟨x, by rw [← HX.out, getElem!_pos b.ws i HLT.out]; exact List.getElem_mem _, HO.out⟩]; simp)
          go_wp2
          go_ret
          exact ⟨by rw [HR.out]; rfl, bl_alloc _ (bl_trans HWB.out HB.out)⟩
        have hz : ¬ (x.key.size : Int) < 1 := by omega
        by_cases h2 : 32 < x.key.size
        · have hz2 : (32 : Int) < (x.key.size : Int) := by omega
          have HO := Lib.hid (show x.odd = true by unfold Wr.odd; simp [h2])
          clear h1 h2
          have HR := Lib.hid (show m = false by
            rw [HMAY.out, List.any_eq_true.2 ⟨x, by rw [← HX.out, getElem!_pos b.ws i HLT.out]; exact List.getElem_mem _, HO.out⟩]; simp)
          go_wp2
          go_ret
          exact ⟨by rw [HR.out]; rfl, bl_alloc _ (bl_trans HWB.out HB.out)⟩
        have hz2 : ¬ (32 : Int) < (x.key.size : Int) := by omega
        by_cases h3 : 64 < x.val.size
        · have hz3 : (64 : Int) < (x.val.size : Int) := by omega
          have HO := Lib.hid (show x.odd = true by unfold Wr.odd; simp [h3])
          clear h1 h2 h3
          have HR := Lib.hid (show m = false by
            rw [HMAY.out, List.any_eq_true.2 ⟨x, by rw [← HX.out, getElem!_pos b.ws i HLT.out]; exact List.getElem_mem _, HO.out⟩]; simp)
          go_wp2
          go_ret
          exact ⟨by rw [HR.out]; rfl, bl_alloc _ (bl_trans HWB.out HB.out)⟩
        have hz3 : ¬ (64 : Int) < (x.val.size : Int) := by omega
        cases hd : x.del with
        | false =>
          have HO := Lib.hid (show x.odd = false by unfold Wr.odd; simp [h1, h2, h3, hd])
          rw [hd] at p2
          clear h1 h2 h3 hd
          rcases Nat.eq_zero_or_pos i with hi0 | hip
          · have hiz : ¬ (0 : Int) < (i : Int) := by omega
            have HI0 := Lib.hid hi0
            clear hi0
            go_wp2
            go_roundg (b.ws.length - (i + 1))
            case measure => have := HLT.out; omega
            case rel =>
              refine ⟨i + 1, by have := HLT.out; omega, Nat.le_refl _, by go_num, bl_alloc _ HB.out, fun j hj => ?_, fun j hj => absurd hj (by have := HI0.out; omega)⟩
              by_cases e : j = i
              · subst e; rw [HX.out]; exact HO.out
              · exact HN.out j (by omega)
          · obtain ⟨p, rfl⟩ : ∃ p, i = p + 1 := ⟨i - 1, by omega⟩
            have hiz : (0 : Int) < ((p + 1 : Nat) : Int) := by omega
            have hp0 : (0 : Int) ≤ (p : Int) := by omega
            have hp1 : (p : Int) < (b.ws.length : Int) := by omega
            have hwp : wrap64 (p : Int) = (p : Int) := by unfold wrap64; omega
            obtain ⟨y, hy⟩ : ∃ y, b.ws[p]! = y := ⟨_, rfl⟩
            obtain ⟨ad', e', y0', _, _⟩ := Wr.at (Kd.C_below HC.out HB.out) p (by have := HLT.out; omega)
            obtain rfl : ad = ad' := by injection e'
            rw [hy] at y0'
            have HYK := Lib.hid (show y.key.size ≤ 4611686018427387904 by have h := HN.out p (by omega); rw [hy] at h; have := (odd_f h).2.1; omega)
            have HY := Lib.hid hy
            have HL := Lib.hid (fun w => less102 y.key x.key HYK.out w)
            have KX := blk_new wr (.cells #[.string x.key, .string x.val, .bool false] 127)
            obtain ⟨V, hV⟩ : ∃ V, wr.alloc (.cells #[.string x.key, .string x.val, .bool false] 127) = V := ⟨_, rfl⟩
            have HBV := Lib.hid (show Below W.heap.size W V from hV ▸ bl_alloc (.cells #[.string x.key, .string x.val, .bool false] 127) HB.out)
            have y0 := cell_rule (show V.cell? (ad.add (p * 3)) = some (.string y.key) from hV ▸ cell_alloc y0' (.cells #[.string x.key, .string x.val, .bool false] 127))
            rw [hV] at KX
            have q0 := blk_cells KX
            have HVV := Lib.hid hV
            have BV := bl_refl V
            clear hy e' y0' KX hV hip
            cases hq : bl y.key x.key with
            | true =>
              have HQ := Lib.hid hq
              rw [hq] at HL
              go_wp2
              rw [HVV.out]
              refine start_ (n := 11) (S := fun w' => w'.cell? ⟨w.heap.size, 2, none⟩ = some (.slice (some ad) b.ws.length c) ∧ w'.cell? (ad.add (p * 3)) = some (.string y.key) ∧ w'.cell? ⟨wr.heap.size, 0, none⟩ = some (.string x.key)) (ds := []) #[false, false, false, false, false, false, false, false, false, false, false] (by kernel_rfl) rfl rfl ⟨(r1 _ 2 (bl_drew HBV.out)), (y0 _ (bl_drew (bl_refl V))), (q0 _ 0 (bl_drew (bl_refl V)))⟩ (fun hHeld => ?_)
              refine pure_ (i := 0) (N := some 80) (v := ?_) (a' := ?_) #[true, false, false, false, false, false, false, false, false, false, false] rfl rfl (by kernel_rfl) (fun _ _ _ h => h) (Or.inl ⟨by rfl, ?_⟩) ?_ ?_
              rotate_left
              · intro w'
                go_simp
                with_reducible rfl
              rotate_left
              · simp only [Act.put, List.setIfInBounds_toArray, List.set_cons_zero, List.set_cons_succ, i64_w, i32_w]
                rfl
              refine pure_ (i := 2) (N := some 82) (v := ?_) (a' := ?_) #[true, false, true, false, false, false, false, false, false, false, false] rfl rfl (by kernel_rfl) (fun _ _ _ h => h) (Or.inl ⟨by rfl, ?_⟩) ?_ ?_
              rotate_left
              · intro w'
                go_simp
                with_reducible rfl
              rotate_left
              · simp only [Act.put, List.setIfInBounds_toArray, List.set_cons_zero, List.set_cons_succ, i64_w, i32_w]
                rfl
              refine pure_ (i := 3) (N := some 83) (v := ?_) (a' := ?_) #[true, false, true, true, false, false, false, false, false, false, false] rfl rfl (by kernel_rfl) (fun _ _ _ h => h) (Or.inl ⟨by rfl, ?_⟩) ?_ ?_
              rotate_left
              · intro w'
                go_simp
                with_reducible rfl
              rotate_left
              · simp only [Act.put, List.setIfInBounds_toArray, List.set_cons_zero, List.set_cons_succ, i64_w, i32_w]
                rfl
              refine pure_ (i := 7) (N := some 87) (v := ?_) (a' := ?_) #[true, false, true, true, false, false, false, true, false, false, false] rfl rfl (by kernel_rfl) (fun _ _ _ h => h) (Or.inl ⟨by rfl, ?_⟩) ?_ ?_
              rotate_left
              · intro w'
                go_simp
                with_reducible rfl
              rotate_left
              · simp only [Act.put, List.setIfInBounds_toArray, List.set_cons_zero, List.set_cons_succ, i64_w, i32_w]
                rfl
              refine take_ (i := 1) (N := some 81) (v := ?_) (a' := ?_) #[true, true, true, true, false, false, false, true, false, false, false] rfl rfl (by kernel_rfl) (fun _ _ _ h => h) (Or.inl ⟨by rfl, ?_⟩) hHeld ?_ ?_
              rotate_left
              · rintro w' ⟨s0, s1, s2⟩
                go_simp
                with_reducible rfl
              rotate_left
              · simp only [Act.put, List.setIfInBounds_toArray, List.set_cons_zero, List.set_cons_succ, i64_w, i32_w]
                rfl
              refine pure_ (i := 4) (N := some 84) (v := ?_) (a' := ?_) #[true, true, true, true, true, false, false, true, false, false, false] rfl rfl (by kernel_rfl) (fun _ _ _ h => h) (Or.inl ⟨by rfl, ?_⟩) ?_ ?_
              rotate_left
              · intro w'
                go_simp
                with_reducible rfl
              rotate_left
              · simp only [Act.put, List.setIfInBounds_toArray, List.set_cons_zero, List.set_cons_succ, i64_w, i32_w]
                rfl
              refine pure_ (i := 5) (N := some 85) (v := ?_) (a' := ?_) #[true, true, true, true, true, true, false, true, false, false, false] rfl rfl (by kernel_rfl) (fun _ _ _ h => h) (Or.inl ⟨by rfl, ?_⟩) ?_ ?_
              rotate_left
              · intro w'
                go_simp
                with_reducible rfl
              rotate_left
              · simp only [Act.put, List.setIfInBounds_toArray, List.set_cons_zero, List.set_cons_succ, i64_w, i32_w]
                rfl
              refine take_ (i := 6) (N := some 86) (v := ?_) (a' := ?_) #[true, true, true, true, true, true, true, true, false, false, false] rfl rfl (by kernel_rfl) (fun _ _ _ h => h) (Or.inl ⟨by rfl, ?_⟩) hHeld ?_ ?_
              rotate_left
              · rintro w' ⟨s0, s1, s2⟩
                go_simp
                with_reducible rfl
              rotate_left
              · simp only [Act.put, List.setIfInBounds_toArray, List.set_cons_zero, List.set_cons_succ, i64_w, i32_w]
                rfl
              refine take_ (i := 8) (N := some 88) (v := ?_) (a' := ?_) #[true, true, true, true, true, true, true, true, true, false, false] rfl rfl (by kernel_rfl) (fun _ _ _ h => h) (Or.inl ⟨by rfl, ?_⟩) hHeld ?_ ?_
              rotate_left
              · rintro w' ⟨s0, s1, s2⟩
                go_simp
                with_reducible rfl
              rotate_left
              · simp only [Act.put, List.setIfInBounds_toArray, List.set_cons_zero, List.set_cons_succ, i64_w, i32_w]
                rfl
              refine one_ (i := 9) (N := some 89) #[true, true, true, true, true, true, true, true, true, true, false] rfl rfl (by kernel_rfl) (by decide) (fun K hK => ?_)
              refine goes_ Try.func102 (by kernel_rfl) rfl #[.string y.key, .string x.key] (by rfl) rfl rfl (by simp only [List.map_toArray, List.map_cons, List.map_nil]; rfl) ?_
              with_reducible refine (HL.out _).mono ?_
              rintro e v2 ⟨rfl, hb⟩
              refine ⟨_, rfl, ?_⟩
              have F2 : Below V.heap.size V v2 := bl_trans (bl_drew (bl_refl V)) hb
              have F3 : Below W.heap.size W v2 := bl_trans HBV.out F2
              clear hb
              refine hK.out _ _ ⟨(r1 _ 2 F3), (y0 _ F2), (q0 _ 0 F2)⟩ (fun hHeld => ?_)
              clear hK K
              refine norm_ (a' := ?_) ?_ ?_
              rotate_left
              · show Act.put _ (some 89) _ = _
                simp only [Act.put, List.setIfInBounds_toArray, List.set_cons_zero, List.set_cons_succ, i64_w, i32_w]
                rfl
              refine pure_ (i := 10) (N := some 5) (v := ?_) (a' := ?_) #[true, true, true, true, true, true, true, true, true, true, true] rfl rfl (by kernel_rfl) (fun _ _ _ h => h) (Or.inl ⟨by rfl, ?_⟩) ?_ ?_
              rotate_left
              · intro w'
                go_simp
                with_reducible rfl
              rotate_left
              · simp only [Act.put, List.setIfInBounds_toArray, List.set_cons_zero, List.set_cons_succ, i64_w, i32_w]
                rfl
              refine done_ (by kernel_rfl) ?_
              go_wp2
              go_roundg (b.ws.length - (p + 1 + 1))
              case measure => have := HLT.out; omega
              case rel =>
                refine ⟨p + 1 + 1, by have := HLT.out; omega, Nat.le_refl _, by go_num, F3, fun j hj => ?_, fun j hj => ?_⟩
                · by_cases e : j = p + 1
                  · subst e; rw [HX.out]; exact HO.out
                  · exact HN.out j (by omega)
                · by_cases e : j = p
                  · subst e; rw [HX.out, HY.out]; exact HQ.out
                  · exact HR0.out j (by omega)
            | false =>
              have HQ := Lib.hid hq
              rw [hq] at HL
              have HR := Lib.hid (show m = false by
                rw [HMAY.out, show risesB b.ws = false from ?_]
                · simp
                · rw [Bool.eq_false_iff]
                  intro h
                  have := (risesB_iff b.ws).1 h p HLT.out
                  rw [HX.out, HY.out, HQ.out] at this
                  cases this)
              go_wp2
              rw [HVV.out]
              refine start_ (n := 11) (S := fun w' => w'.cell? ⟨w.heap.size, 2, none⟩ = some (.slice (some ad) b.ws.length c) ∧ w'.cell? (ad.add (p * 3)) = some (.string y.key) ∧ w'.cell? ⟨wr.heap.size, 0, none⟩ = some (.string x.key)) (ds := []) #[false, false, false, false, false, false, false, false, false, false, false] (by kernel_rfl) rfl rfl ⟨(r1 _ 2 (bl_drew HBV.out)), (y0 _ (bl_drew (bl_refl V))), (q0 _ 0 (bl_drew (bl_refl V)))⟩ (fun hHeld => ?_)
              refine pure_ (i := 0) (N := some 80) (v := ?_) (a' := ?_) #[true, false, false, false, false, false, false, false, false, false, false] rfl rfl (by kernel_rfl) (fun _ _ _ h => h) (Or.inl ⟨by rfl, ?_⟩) ?_ ?_
              rotate_left
              · intro w'
                go_simp
                with_reducible rfl
              rotate_left
              · simp only [Act.put, List.setIfInBounds_toArray, List.set_cons_zero, List.set_cons_succ, i64_w, i32_w]
                rfl
              refine pure_ (i := 2) (N := some 82) (v := ?_) (a' := ?_) #[true, false, true, false, false, false, false, false, false, false, false] rfl rfl (by kernel_rfl) (fun _ _ _ h => h) (Or.inl ⟨by rfl, ?_⟩) ?_ ?_
              rotate_left
              · intro w'
                go_simp
                with_reducible rfl
              rotate_left
              · simp only [Act.put, List.setIfInBounds_toArray, List.set_cons_zero, List.set_cons_succ, i64_w, i32_w]
                rfl
              refine pure_ (i := 3) (N := some 83) (v := ?_) (a' := ?_) #[true, false, true, true, false, false, false, false, false, false, false] rfl rfl (by kernel_rfl) (fun _ _ _ h => h) (Or.inl ⟨by rfl, ?_⟩) ?_ ?_
              rotate_left
              · intro w'
                go_simp
                with_reducible rfl
              rotate_left
              · simp only [Act.put, List.setIfInBounds_toArray, List.set_cons_zero, List.set_cons_succ, i64_w, i32_w]
                rfl
              refine pure_ (i := 7) (N := some 87) (v := ?_) (a' := ?_) #[true, false, true, true, false, false, false, true, false, false, false] rfl rfl (by kernel_rfl) (fun _ _ _ h => h) (Or.inl ⟨by rfl, ?_⟩) ?_ ?_
              rotate_left
              · intro w'
                go_simp
                with_reducible rfl
              rotate_left
              · simp only [Act.put, List.setIfInBounds_toArray, List.set_cons_zero, List.set_cons_succ, i64_w, i32_w]
                rfl
              refine take_ (i := 1) (N := some 81) (v := ?_) (a' := ?_) #[true, true, true, true, false, false, false, true, false, false, false] rfl rfl (by kernel_rfl) (fun _ _ _ h => h) (Or.inl ⟨by rfl, ?_⟩) hHeld ?_ ?_
              rotate_left
              · rintro w' ⟨s0, s1, s2⟩
                go_simp
                with_reducible rfl
              rotate_left
              · simp only [Act.put, List.setIfInBounds_toArray, List.set_cons_zero, List.set_cons_succ, i64_w, i32_w]
                rfl
              refine pure_ (i := 4) (N := some 84) (v := ?_) (a' := ?_) #[true, true, true, true, true, false, false, true, false, false, false] rfl rfl (by kernel_rfl) (fun _ _ _ h => h) (Or.inl ⟨by rfl, ?_⟩) ?_ ?_
              rotate_left
              · intro w'
                go_simp
                with_reducible rfl
              rotate_left
              · simp only [Act.put, List.setIfInBounds_toArray, List.set_cons_zero, List.set_cons_succ, i64_w, i32_w]
                rfl
              refine pure_ (i := 5) (N := some 85) (v := ?_) (a' := ?_) #[true, true, true, true, true, true, false, true, false, false, false] rfl rfl (by kernel_rfl) (fun _ _ _ h => h) (Or.inl ⟨by rfl, ?_⟩) ?_ ?_
              rotate_left
              · intro w'
                go_simp
                with_reducible rfl
              rotate_left
              · simp only [Act.put, List.setIfInBounds_toArray, List.set_cons_zero, List.set_cons_succ, i64_w, i32_w]
                rfl
              refine take_ (i := 6) (N := some 86) (v := ?_) (a' := ?_) #[true, true, true, true, true, true, true, true, false, false, false] rfl rfl (by kernel_rfl) (fun _ _ _ h => h) (Or.inl ⟨by rfl, ?_⟩) hHeld ?_ ?_
              rotate_left
              · rintro w' ⟨s0, s1, s2⟩
                go_simp
                with_reducible rfl
              rotate_left
              · simp only [Act.put, List.setIfInBounds_toArray, List.set_cons_zero, List.set_cons_succ, i64_w, i32_w]
                rfl
              refine take_ (i := 8) (N := some 88) (v := ?_) (a' := ?_) #[true, true, true, true, true, true, true, true, true, false, false] rfl rfl (by kernel_rfl) (fun _ _ _ h => h) (Or.inl ⟨by rfl, ?_⟩) hHeld ?_ ?_
              rotate_left
              · rintro w' ⟨s0, s1, s2⟩
                go_simp
                with_reducible rfl
              rotate_left
              · simp only [Act.put, List.setIfInBounds_toArray, List.set_cons_zero, List.set_cons_succ, i64_w, i32_w]
                rfl
              refine one_ (i := 9) (N := some 89) #[true, true, true, true, true, true, true, true, true, true, false] rfl rfl (by kernel_rfl) (by decide) (fun K hK => ?_)
              refine goes_ Try.func102 (by kernel_rfl) rfl #[.string y.key, .string x.key] (by rfl) rfl rfl (by simp only [List.map_toArray, List.map_cons, List.map_nil]; rfl) ?_
              with_reducible refine (HL.out _).mono ?_
              rintro e v2 ⟨rfl, hb⟩
              refine ⟨_, rfl, ?_⟩
              have F2 : Below V.heap.size V v2 := bl_trans (bl_drew (bl_refl V)) hb
              have F3 : Below W.heap.size W v2 := bl_trans HBV.out F2
              clear hb
              refine hK.out _ _ ⟨(r1 _ 2 F3), (y0 _ F2), (q0 _ 0 F2)⟩ (fun hHeld => ?_)
              clear hK K
              refine norm_ (a' := ?_) ?_ ?_
              rotate_left
              · show Act.put _ (some 89) _ = _
                simp only [Act.put, List.setIfInBounds_toArray, List.set_cons_zero, List.set_cons_succ, i64_w, i32_w]
                rfl
              refine pure_ (i := 10) (N := some 5) (v := ?_) (a' := ?_) #[true, true, true, true, true, true, true, true, true, true, true] rfl rfl (by kernel_rfl) (fun _ _ _ h => h) (Or.inl ⟨by rfl, ?_⟩) ?_ ?_
              rotate_left
              · intro w'
                go_simp
                with_reducible rfl
              rotate_left
              · simp only [Act.put, List.setIfInBounds_toArray, List.set_cons_zero, List.set_cons_succ, i64_w, i32_w]
                rfl
              refine done_ (by kernel_rfl) ?_
              go_wp2
              go_ret
              exact ⟨by rw [HR.out]; rfl, bl_trans HWB.out F3⟩
        | true =>
          rw [hd] at p2
          cases hv : x.val.toList.isEmpty with
          | false =>
            have HO := Lib.hid (show x.odd = true by unfold Wr.odd; rw [hd, hv]; simp)
            clear h1 h2 h3 hd
            have HR := Lib.hid (show m = false by
              rw [HMAY.out, List.any_eq_true.2 ⟨x, by rw [← HX.out, getElem!_pos b.ws i HLT.out]; exact List.getElem_mem _, HO.out⟩]; simp)
            go_wp2
            go_ret
            exact ⟨by rw [HR.out]; rfl, bl_alloc _ (bl_trans HWB.out HB.out)⟩
          | true =>
            have HO := Lib.hid (show x.odd = false by unfold Wr.odd; rw [hd, hv, decide_eq_false h1, decide_eq_false h2, decide_eq_false h3]; rfl)
            clear h1 h2 h3 hd
            rcases Nat.eq_zero_or_pos i with hi0 | hip
            · have hiz : ¬ (0 : Int) < (i : Int) := by omega
              have HI0 := Lib.hid hi0
              clear hi0
              go_wp2
              go_roundg (b.ws.length - (i + 1))
              case measure => have := HLT.out; omega
              case rel =>
                refine ⟨i + 1, by have := HLT.out; omega, Nat.le_refl _, by go_num, bl_alloc _ HB.out, fun j hj => ?_, fun j hj => absurd hj (by have := HI0.out; omega)⟩
                by_cases e : j = i
                · subst e; rw [HX.out]; exact HO.out
                · exact HN.out j (by omega)
            · obtain ⟨p, rfl⟩ : ∃ p, i = p + 1 := ⟨i - 1, by omega⟩
              have hiz : (0 : Int) < ((p + 1 : Nat) : Int) := by omega
              have hp0 : (0 : Int) ≤ (p : Int) := by omega
              have hp1 : (p : Int) < (b.ws.length : Int) := by omega
              have hwp : wrap64 (p : Int) = (p : Int) := by unfold wrap64; omega
              obtain ⟨y, hy⟩ : ∃ y, b.ws[p]! = y := ⟨_, rfl⟩
              obtain ⟨ad', e', y0', _, _⟩ := Wr.at (Kd.C_below HC.out HB.out) p (by have := HLT.out; omega)
              obtain rfl : ad = ad' := by injection e'
              rw [hy] at y0'
              have HYK := Lib.hid (show y.key.size ≤ 4611686018427387904 by have h := HN.out p (by omega); rw [hy] at h; have := (odd_f h).2.1; omega)
              have HY := Lib.hid hy
              have HL := Lib.hid (fun w => less102 y.key x.key HYK.out w)
              have KX := blk_new wr (.cells #[.string x.key, .string x.val, .bool true] 127)
              obtain ⟨V, hV⟩ : ∃ V, wr.alloc (.cells #[.string x.key, .string x.val, .bool true] 127) = V := ⟨_, rfl⟩
              have HBV := Lib.hid (show Below W.heap.size W V from hV ▸ bl_alloc (.cells #[.string x.key, .string x.val, .bool true] 127) HB.out)
              have y0 := cell_rule (show V.cell? (ad.add (p * 3)) = some (.string y.key) from hV ▸ cell_alloc y0' (.cells #[.string x.key, .string x.val, .bool true] 127))
              rw [hV] at KX
              have q0 := blk_cells KX
              have HVV := Lib.hid hV
              have BV := bl_refl V
              clear hy e' y0' KX hV hip
              cases hq : bl y.key x.key with
              | true =>
                have HQ := Lib.hid hq
                rw [hq] at HL
                go_wp2
                rw [HVV.out]
                refine start_ (n := 11) (S := fun w' => w'.cell? ⟨w.heap.size, 2, none⟩ = some (.slice (some ad) b.ws.length c) ∧ w'.cell? (ad.add (p * 3)) = some (.string y.key) ∧ w'.cell? ⟨wr.heap.size, 0, none⟩ = some (.string x.key)) (ds := []) #[false, false, false, false, false, false, false, false, false, false, false] (by kernel_rfl) rfl rfl ⟨(r1 _ 2 (bl_drew HBV.out)), (y0 _ (bl_drew (bl_refl V))), (q0 _ 0 (bl_drew (bl_refl V)))⟩ (fun hHeld => ?_)
                refine pure_ (i := 0) (N := some 80) (v := ?_) (a' := ?_) #[true, false, false, false, false, false, false, false, false, false, false] rfl rfl (by kernel_rfl) (fun _ _ _ h => h) (Or.inl ⟨by rfl, ?_⟩) ?_ ?_
                rotate_left
                · intro w'
                  go_simp
                  with_reducible rfl
                rotate_left
                · simp only [Act.put, List.setIfInBounds_toArray, List.set_cons_zero, List.set_cons_succ, i64_w, i32_w]
                  rfl
                refine pure_ (i := 2) (N := some 82) (v := ?_) (a' := ?_) #[true, false, true, false, false, false, false, false, false, false, false] rfl rfl (by kernel_rfl) (fun _ _ _ h => h) (Or.inl ⟨by rfl, ?_⟩) ?_ ?_
                rotate_left
                · intro w'
                  go_simp
                  with_reducible rfl
                rotate_left
                · simp only [Act.put, List.setIfInBounds_toArray, List.set_cons_zero, List.set_cons_succ, i64_w, i32_w]
                  rfl
                refine pure_ (i := 3) (N := some 83) (v := ?_) (a' := ?_) #[true, false, true, true, false, false, false, false, false, false, false] rfl rfl (by kernel_rfl) (fun _ _ _ h => h) (Or.inl ⟨by rfl, ?_⟩) ?_ ?_
                rotate_left
                · intro w'
                  go_simp
                  with_reducible rfl
                rotate_left
                · simp only [Act.put, List.setIfInBounds_toArray, List.set_cons_zero, List.set_cons_succ, i64_w, i32_w]
                  rfl
                refine pure_ (i := 7) (N := some 87) (v := ?_) (a' := ?_) #[true, false, true, true, false, false, false, true, false, false, false] rfl rfl (by kernel_rfl) (fun _ _ _ h => h) (Or.inl ⟨by rfl, ?_⟩) ?_ ?_
                rotate_left
                · intro w'
                  go_simp
                  with_reducible rfl
                rotate_left
                · simp only [Act.put, List.setIfInBounds_toArray, List.set_cons_zero, List.set_cons_succ, i64_w, i32_w]
                  rfl
                refine take_ (i := 1) (N := some 81) (v := ?_) (a' := ?_) #[true, true, true, true, false, false, false, true, false, false, false] rfl rfl (by kernel_rfl) (fun _ _ _ h => h) (Or.inl ⟨by rfl, ?_⟩) hHeld ?_ ?_
                rotate_left
                · rintro w' ⟨s0, s1, s2⟩
                  go_simp
                  with_reducible rfl
                rotate_left
                · simp only [Act.put, List.setIfInBounds_toArray, List.set_cons_zero, List.set_cons_succ, i64_w, i32_w]
                  rfl
                refine pure_ (i := 4) (N := some 84) (v := ?_) (a' := ?_) #[true, true, true, true, true, false, false, true, false, false, false] rfl rfl (by kernel_rfl) (fun _ _ _ h => h) (Or.inl ⟨by rfl, ?_⟩) ?_ ?_
                rotate_left
                · intro w'
                  go_simp
                  with_reducible rfl
                rotate_left
                · simp only [Act.put, List.setIfInBounds_toArray, List.set_cons_zero, List.set_cons_succ, i64_w, i32_w]
                  rfl
                refine pure_ (i := 5) (N := some 85) (v := ?_) (a' := ?_) #[true, true, true, true, true, true, false, true, false, false, false] rfl rfl (by kernel_rfl) (fun _ _ _ h => h) (Or.inl ⟨by rfl, ?_⟩) ?_ ?_
                rotate_left
                · intro w'
                  go_simp
                  with_reducible rfl
                rotate_left
                · simp only [Act.put, List.setIfInBounds_toArray, List.set_cons_zero, List.set_cons_succ, i64_w, i32_w]
                  rfl
                refine take_ (i := 6) (N := some 86) (v := ?_) (a' := ?_) #[true, true, true, true, true, true, true, true, false, false, false] rfl rfl (by kernel_rfl) (fun _ _ _ h => h) (Or.inl ⟨by rfl, ?_⟩) hHeld ?_ ?_
                rotate_left
                · rintro w' ⟨s0, s1, s2⟩
                  go_simp
                  with_reducible rfl
                rotate_left
                · simp only [Act.put, List.setIfInBounds_toArray, List.set_cons_zero, List.set_cons_succ, i64_w, i32_w]
                  rfl
                refine take_ (i := 8) (N := some 88) (v := ?_) (a' := ?_) #[true, true, true, true, true, true, true, true, true, false, false] rfl rfl (by kernel_rfl) (fun _ _ _ h => h) (Or.inl ⟨by rfl, ?_⟩) hHeld ?_ ?_
                rotate_left
                · rintro w' ⟨s0, s1, s2⟩
                  go_simp
                  with_reducible rfl
                rotate_left
                · simp only [Act.put, List.setIfInBounds_toArray, List.set_cons_zero, List.set_cons_succ, i64_w, i32_w]
                  rfl
                refine one_ (i := 9) (N := some 89) #[true, true, true, true, true, true, true, true, true, true, false] rfl rfl (by kernel_rfl) (by decide) (fun K hK => ?_)
                refine goes_ Try.func102 (by kernel_rfl) rfl #[.string y.key, .string x.key] (by rfl) rfl rfl (by simp only [List.map_toArray, List.map_cons, List.map_nil]; rfl) ?_
                with_reducible refine (HL.out _).mono ?_
                rintro e v2 ⟨rfl, hb⟩
                refine ⟨_, rfl, ?_⟩
                have F2 : Below V.heap.size V v2 := bl_trans (bl_drew (bl_refl V)) hb
                have F3 : Below W.heap.size W v2 := bl_trans HBV.out F2
                clear hb
                refine hK.out _ _ ⟨(r1 _ 2 F3), (y0 _ F2), (q0 _ 0 F2)⟩ (fun hHeld => ?_)
                clear hK K
                refine norm_ (a' := ?_) ?_ ?_
                rotate_left
                · show Act.put _ (some 89) _ = _
                  simp only [Act.put, List.setIfInBounds_toArray, List.set_cons_zero, List.set_cons_succ, i64_w, i32_w]
                  rfl
                refine pure_ (i := 10) (N := some 5) (v := ?_) (a' := ?_) #[true, true, true, true, true, true, true, true, true, true, true] rfl rfl (by kernel_rfl) (fun _ _ _ h => h) (Or.inl ⟨by rfl, ?_⟩) ?_ ?_
                rotate_left
                · intro w'
                  go_simp
                  with_reducible rfl
                rotate_left
                · simp only [Act.put, List.setIfInBounds_toArray, List.set_cons_zero, List.set_cons_succ, i64_w, i32_w]
                  rfl
                refine done_ (by kernel_rfl) ?_
                go_wp2
                go_roundg (b.ws.length - (p + 1 + 1))
                case measure => have := HLT.out; omega
                case rel =>
                  refine ⟨p + 1 + 1, by have := HLT.out; omega, Nat.le_refl _, by go_num, F3, fun j hj => ?_, fun j hj => ?_⟩
                  · by_cases e : j = p + 1
                    · subst e; rw [HX.out]; exact HO.out
                    · exact HN.out j (by omega)
                  · by_cases e : j = p
                    · subst e; rw [HX.out, HY.out]; exact HQ.out
                    · exact HR0.out j (by omega)
              | false =>
                have HQ := Lib.hid hq
                rw [hq] at HL
                have HR := Lib.hid (show m = false by
                  rw [HMAY.out, show risesB b.ws = false from ?_]
                  · simp
                  · rw [Bool.eq_false_iff]
                    intro h
                    have := (risesB_iff b.ws).1 h p HLT.out
                    rw [HX.out, HY.out, HQ.out] at this
                    cases this)
                go_wp2
                rw [HVV.out]
                refine start_ (n := 11) (S := fun w' => w'.cell? ⟨w.heap.size, 2, none⟩ = some (.slice (some ad) b.ws.length c) ∧ w'.cell? (ad.add (p * 3)) = some (.string y.key) ∧ w'.cell? ⟨wr.heap.size, 0, none⟩ = some (.string x.key)) (ds := []) #[false, false, false, false, false, false, false, false, false, false, false] (by kernel_rfl) rfl rfl ⟨(r1 _ 2 (bl_drew HBV.out)), (y0 _ (bl_drew (bl_refl V))), (q0 _ 0 (bl_drew (bl_refl V)))⟩ (fun hHeld => ?_)
                refine pure_ (i := 0) (N := some 80) (v := ?_) (a' := ?_) #[true, false, false, false, false, false, false, false, false, false, false] rfl rfl (by kernel_rfl) (fun _ _ _ h => h) (Or.inl ⟨by rfl, ?_⟩) ?_ ?_
                rotate_left
                · intro w'
                  go_simp
                  with_reducible rfl
                rotate_left
                · simp only [Act.put, List.setIfInBounds_toArray, List.set_cons_zero, List.set_cons_succ, i64_w, i32_w]
                  rfl
                refine pure_ (i := 2) (N := some 82) (v := ?_) (a' := ?_) #[true, false, true, false, false, false, false, false, false, false, false] rfl rfl (by kernel_rfl) (fun _ _ _ h => h) (Or.inl ⟨by rfl, ?_⟩) ?_ ?_
                rotate_left
                · intro w'
                  go_simp
                  with_reducible rfl
                rotate_left
                · simp only [Act.put, List.setIfInBounds_toArray, List.set_cons_zero, List.set_cons_succ, i64_w, i32_w]
                  rfl
                refine pure_ (i := 3) (N := some 83) (v := ?_) (a' := ?_) #[true, false, true, true, false, false, false, false, false, false, false] rfl rfl (by kernel_rfl) (fun _ _ _ h => h) (Or.inl ⟨by rfl, ?_⟩) ?_ ?_
                rotate_left
                · intro w'
                  go_simp
                  with_reducible rfl
                rotate_left
                · simp only [Act.put, List.setIfInBounds_toArray, List.set_cons_zero, List.set_cons_succ, i64_w, i32_w]
                  rfl
                refine pure_ (i := 7) (N := some 87) (v := ?_) (a' := ?_) #[true, false, true, true, false, false, false, true, false, false, false] rfl rfl (by kernel_rfl) (fun _ _ _ h => h) (Or.inl ⟨by rfl, ?_⟩) ?_ ?_
                rotate_left
                · intro w'
                  go_simp
                  with_reducible rfl
                rotate_left
                · simp only [Act.put, List.setIfInBounds_toArray, List.set_cons_zero, List.set_cons_succ, i64_w, i32_w]
                  rfl
                refine take_ (i := 1) (N := some 81) (v := ?_) (a' := ?_) #[true, true, true, true, false, false, false, true, false, false, false] rfl rfl (by kernel_rfl) (fun _ _ _ h => h) (Or.inl ⟨by rfl, ?_⟩) hHeld ?_ ?_
                rotate_left
                · rintro w' ⟨s0, s1, s2⟩
                  go_simp
                  with_reducible rfl
                rotate_left
                · simp only [Act.put, List.setIfInBounds_toArray, List.set_cons_zero, List.set_cons_succ, i64_w, i32_w]
                  rfl
                refine pure_ (i := 4) (N := some 84) (v := ?_) (a' := ?_) #[true, true, true, true, true, false, false, true, false, false, false] rfl rfl (by kernel_rfl) (fun _ _ _ h => h) (Or.inl ⟨by rfl, ?_⟩) ?_ ?_
                rotate_left
                · intro w'
                  go_simp
                  with_reducible rfl
                rotate_left
                · simp only [Act.put, List.setIfInBounds_toArray, List.set_cons_zero, List.set_cons_succ, i64_w, i32_w]
                  rfl
                refine pure_ (i := 5) (N := some 85) (v := ?_) (a' := ?_) #[true, true, true, true, true, true, false, true, false, false, false] rfl rfl (by kernel_rfl) (fun _ _ _ h => h) (Or.inl ⟨by rfl, ?_⟩) ?_ ?_
                rotate_left
                · intro w'
                  go_simp
                  with_reducible rfl
                rotate_left
                · simp only [Act.put, List.setIfInBounds_toArray, List.set_cons_zero, List.set_cons_succ, i64_w, i32_w]
                  rfl
                refine take_ (i := 6) (N := some 86) (v := ?_) (a' := ?_) #[true, true, true, true, true, true, true, true, false, false, false] rfl rfl (by kernel_rfl) (fun _ _ _ h => h) (Or.inl ⟨by rfl, ?_⟩) hHeld ?_ ?_
                rotate_left
                · rintro w' ⟨s0, s1, s2⟩
                  go_simp
                  with_reducible rfl
                rotate_left
                · simp only [Act.put, List.setIfInBounds_toArray, List.set_cons_zero, List.set_cons_succ, i64_w, i32_w]
                  rfl
                refine take_ (i := 8) (N := some 88) (v := ?_) (a' := ?_) #[true, true, true, true, true, true, true, true, true, false, false] rfl rfl (by kernel_rfl) (fun _ _ _ h => h) (Or.inl ⟨by rfl, ?_⟩) hHeld ?_ ?_
                rotate_left
                · rintro w' ⟨s0, s1, s2⟩
                  go_simp
                  with_reducible rfl
                rotate_left
                · simp only [Act.put, List.setIfInBounds_toArray, List.set_cons_zero, List.set_cons_succ, i64_w, i32_w]
                  rfl
                refine one_ (i := 9) (N := some 89) #[true, true, true, true, true, true, true, true, true, true, false] rfl rfl (by kernel_rfl) (by decide) (fun K hK => ?_)
                refine goes_ Try.func102 (by kernel_rfl) rfl #[.string y.key, .string x.key] (by rfl) rfl rfl (by simp only [List.map_toArray, List.map_cons, List.map_nil]; rfl) ?_
                with_reducible refine (HL.out _).mono ?_
                rintro e v2 ⟨rfl, hb⟩
                refine ⟨_, rfl, ?_⟩
                have F2 : Below V.heap.size V v2 := bl_trans (bl_drew (bl_refl V)) hb
                have F3 : Below W.heap.size W v2 := bl_trans HBV.out F2
                clear hb
                refine hK.out _ _ ⟨(r1 _ 2 F3), (y0 _ F2), (q0 _ 0 F2)⟩ (fun hHeld => ?_)
                clear hK K
                refine norm_ (a' := ?_) ?_ ?_
                rotate_left
                · show Act.put _ (some 89) _ = _
                  simp only [Act.put, List.setIfInBounds_toArray, List.set_cons_zero, List.set_cons_succ, i64_w, i32_w]
                  rfl
                refine pure_ (i := 10) (N := some 5) (v := ?_) (a' := ?_) #[true, true, true, true, true, true, true, true, true, true, true] rfl rfl (by kernel_rfl) (fun _ _ _ h => h) (Or.inl ⟨by rfl, ?_⟩) ?_ ?_
                rotate_left
                · intro w'
                  go_simp
                  with_reducible rfl
                rotate_left
                · simp only [Act.put, List.setIfInBounds_toArray, List.set_cons_zero, List.set_cons_succ, i64_w, i32_w]
                  rfl
                refine done_ (by kernel_rfl) ?_
                go_wp2
                go_ret
                exact ⟨by rw [HR.out]; rfl, bl_trans HWB.out F3⟩
      · have hz1 : ¬ (i : Int) < (b.ws.length : Int) := by omega
        have HR := Lib.hid (show m = true by
          rw [HMAY.out, HD.out, (risesB_iff b.ws).2 (fun j hj => HR0.out j (by omega)), show b.ws.any Wr.odd = false from ?_]
          · rfl
          · rw [List.any_eq_false]
            intro y hy
            obtain ⟨j, hj, rfl⟩ := List.getElem_of_mem hy
            have := HN.out j (by omega)
            rw [getElem!_pos b.ws j hj] at this
            simp [this])
        clear hlt
        go_wp2
        go_ret
        exact ⟨by rw [HR.out]; rfl, bl_trans HWB.out HB.out⟩
  · have e1 : (b.kind != 1) = true := by rw [hk]; rfl
    have e2 : (b.kind != 2) = false := by rw [hk]; rfl
    have e3 : (b.kind == 2) = true := by rw [hk]; rfl
    have z1 : ¬ b.kind < 1 := by omega
    have z2 : ¬ 2 < b.kind := by omega
    have HK := Lib.hid hk
    clear hk
    by_cases t1 : b.tok.size < 1
    · have t1z : (b.tok.size : Int) < 1 := by omega
      have HR := Lib.hid (show m = false by rw [HMAY.out, HHD.out, decide_eq_false (show ¬ 1 ≤ b.tok.size by omega)]; simp)
      clear t1
      go_enter Try.func35, Try.ntmps35
      go_wp2
      go_ret
      exact ⟨by rw [HR.out]; rfl, bl_alloc _ (bl_refl _)⟩
    have t1z : ¬ (b.tok.size : Int) < 1 := by omega
    by_cases t2 : 16 < b.tok.size
    · have t2z : (16 : Int) < (b.tok.size : Int) := by omega
      have HR := Lib.hid (show m = false by rw [HMAY.out, HHD.out, decide_eq_false (show ¬ b.tok.size ≤ 16 by omega)]; simp)
      clear t1 t2
      go_enter Try.func35, Try.ntmps35
      go_wp2
      go_ret
      exact ⟨by rw [HR.out]; rfl, bl_alloc _ (bl_refl _)⟩
    have t2z : ¬ (16 : Int) < (b.tok.size : Int) := by omega
    by_cases t3 : 24 < b.ws.length
    · have t3z : (24 : Int) < (b.ws.length : Int) := by omega
      have HR := Lib.hid (show m = false by rw [HMAY.out, HHD.out, decide_eq_false (show ¬ b.ws.length ≤ 24 by omega)]; simp)
      clear t1 t2 t3
      go_enter Try.func35, Try.ntmps35
      go_wp2
      go_ret
      exact ⟨by rw [HR.out]; rfl, bl_alloc _ (bl_refl _)⟩
    have t3z : ¬ (24 : Int) < (b.ws.length : Int) := by omega
    by_cases t4 : 0 < b.ws.length
    · have t4z : (0 : Int) < (b.ws.length : Int) := by omega
      have HR := Lib.hid (show m = false by rw [HMAY.out, HHD.out, HK.out, decide_eq_true t4]; simp)
      clear t1 t2 t3 t4
      go_enter Try.func35, Try.ntmps35
      go_wp2
      go_ret
      exact ⟨by rw [HR.out]; rfl, bl_alloc _ (bl_refl _)⟩
    have t4z : ¬ (0 : Int) < (b.ws.length : Int) := by omega
    have HD := Lib.hid (show b.head = true by rw [HHD.out, HK.out, decide_eq_true (show 1 ≤ b.tok.size by omega), decide_eq_true (show b.tok.size ≤ 16 by omega), decide_eq_true (show b.ws.length ≤ 24 by omega), decide_eq_false t4]; rfl)
    clear t1 t2 t3 t4
    obtain ⟨W, hW, K1, HW, hs⟩ := boxes1 w #[.int .i64 b.kind, .string b.tok, .slice A b.ws.length c] 50
    have HC := Lib.hid (Kd.C_below HC0.out HW)
    have r1 := blk_cells K1
    have HWB := Lib.hid HW
    have HSZ := Lib.hid hs
    have HWW := Lib.hid hW
    have B0 := bl_refl W
    clear hW K1 HW hs
    have HK := Lib.hid trivial
    go_enter Try.func35, Try.ntmps35
    go_wp2_with fail
    rw [HWW.out]
    go_loopg [3] b.ws.length (fun gg s3 wr => ∃ i : Nat, i ≤ b.ws.length ∧ b.ws.length - i ≤ gg ∧ s3 = .int .i64 (i : Int) ∧ Hid (Below W.heap.size W wr) ∧ Hid (∀ j, j < i → b.ws[j]!.odd = false) ∧ Hid (∀ j, j + 1 < i → bl b.ws[j]!.key b.ws[j + 1]!.key = true))
    case atStart => exact ⟨0, Nat.zero_le _, by omega, rfl, bl_refl _, fun j hj => absurd hj (Nat.not_lt_zero _), fun j hj => absurd hj (by omega)⟩
    case round =>
      obtain ⟨i, hil, hgg, rfl, HB, HN, HR0⟩ := hrel
      have Bw : Below W.heap.size W wr := HB.out
      have Br := bl_refl wr
      by_cases hlt : i < b.ws.length
      · exfalso; omega
      · have hz1 : ¬ (i : Int) < (b.ws.length : Int) := by omega
        have HR := Lib.hid (show m = true by
          rw [HMAY.out, HD.out, (risesB_iff b.ws).2 (fun j hj => HR0.out j (by omega)), show b.ws.any Wr.odd = false from ?_]
          · rfl
          · rw [List.any_eq_false]
            intro y hy
            obtain ⟨j, hj, rfl⟩ := List.getElem_of_mem hy
            have := HN.out j (by omega)
            rw [getElem!_pos b.ws j hj] at this
            simp [this])
        clear hlt
        go_wp2
        go_ret
        exact ⟨by rw [HR.out]; rfl, bl_trans HWB.out HB.out⟩
end Go.Proofs.Ytkcebmamohimoaa
