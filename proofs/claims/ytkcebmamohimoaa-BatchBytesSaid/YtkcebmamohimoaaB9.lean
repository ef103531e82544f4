/- A batch's bytes, the reference's. -/
import Derived.Test.YtkcebmamohimoaaB8
namespace Go.Proofs.Ytkcebmamohimoaa
open Go.RowKit Go.Proofs.YtkcebmamohimoaaW.PrintWords Go.Proofs.YtkcebmamohimoaaW.PrintLast
set_option linter.unusedVariables false
set_option linter.unusedSimpArgs false
theorem bS_one (l : Bs) : bS l ++ (⟨#[49, 59]⟩ : ByteArray) = bS (l ++ [49, 59]) := bS_app l [49, 59]
theorem bS_zero (l : Bs) : bS l ++ (⟨#[48, 59]⟩ : ByteArray) = bS (l ++ [48, 59]) := bS_app l [48, 59]
attribute [local go_sem] bl_refl bl_alloc bl_drew bl_drewN bS_app bS_size bS_one bS_zero
set_option maxHeartbeats 4000000 in
set_option maxRecDepth 100000 in
theorem no30 (A : Option Addr) (c : Nat) (b : Bt) (w : World) (h : Kd.C kWr w A b.ws.length b.ws) (hm : b.may = false) :
    Calls Try.prog 30 #[.agg #[.int .i64 b.kind, .string b.tok, .slice A b.ws.length c]] w fun e w' => e = .returned (.tuple #[.string ⟨#[]⟩, .int .i64 1]) ∧ Below w.heap.size w w' := by
  have HM := Lib.hid hm
  obtain ⟨W, hW, K1, HW, hs⟩ := boxes1 w #[.int .i64 b.kind, .string b.tok, .slice A b.ws.length c] 50
  have HMY := Lib.hid (may35 A c b W (Kd.C_below h HW))
  have r0 := blk_cells K1
  have HWB := Lib.hid HW
  have HWW := Lib.hid hW
  have B0 := bl_refl W
  clear hW K1 HW hs h hm
  go_enter Try.func30, Try.ntmps30
  go_wp2_with fail
  rw [HWW.out]
  refine HMY.out.mono ?_
  rintro e w1 ⟨rfl, hb⟩
  rw [HM.out]
  have HB := Lib.hid (bl_trans HWB.out hb)
  clear hb
  go_wp2
  exact bodyPost_ret (v := .tuple #[.string ⟨#[]⟩, .int .i64 1]) (by simp [results, Try.results30, go_sem]) rfl ⟨rfl, HB.out⟩
set_option maxHeartbeats 16000000 in
set_option maxRecDepth 100000 in
theorem yes30 (A : Option Addr) (c : Nat) (k : Nat) (tok : ByteArray) (ws : List Wr) (w : World) (h : Kd.C kWr w A ws.length ws) (hm : (⟨(k : Int), tok, ws⟩ : Bt).may = true) :
    Calls Try.prog 30 #[.agg #[.int .i64 (k : Int), .string tok, .slice A ws.length c]] w fun e w' => e = .returned (.tuple #[.string (bS (⟨(k : Int), tok, ws⟩ : Bt).bytes), .int .i64 0]) ∧ Below w.heap.size w w' := by
  have ok := may_ok hm
  have hpl := pre_len ok
  have hk : k < big := by rcases ok.kind with e | e <;> (have e' : (k : Int) = _ := e; unfold big; omega)
  have htok := ok.tok.2
  have hlen := ok.len
  simp only [] at htok hlen
  have hwk : IntKind.u64.wrap (k : Int) = (k : Int) := IntWalk.u64_in _ (And.intro (by omega) (by unfold big at hk; omega))
  have hwl : IntKind.u64.wrap (ws.length : Int) = (ws.length : Int) := IntWalk.u64_in _ (And.intro (by omega) (by omega))
  obtain ⟨n1, hn1⟩ : ∃ n1, numL k = n1 := ⟨_, rfl⟩
  obtain ⟨t1, ht1⟩ : ∃ t1, textL tok.data.toList = t1 := ⟨_, rfl⟩
  obtain ⟨n2, hn2⟩ : ∃ n2, numL ws.length = n2 := ⟨_, rfl⟩
  have hpre : (⟨(k : Int), tok, ws⟩ : Bt).pre = n1 ++ t1 ++ n2 := by unfold Bt.pre; rw [← hn1, ← ht1, ← hn2]; rfl
  have c1 := fun w => num94 k hk w
  have c2 := fun w => text95 tok (by omega) w
  have c3 := fun w => num94 ws.length (by unfold big; omega) w
  rw [hn1] at c1
  rw [ht1] at c2
  rw [hn2] at c3
  have C1 := Lib.hid c1
  have C2 := Lib.hid c2
  have C3 := Lib.hid c3
  rw [hpre] at hpl
  rw [List.length_append, List.length_append] at hpl
  have hs1 : n1.length + t1.length ≤ 9223372036854775807 := by omega
  have hs2 : n1.length + t1.length + n2.length ≤ 9223372036854775807 := by omega
  have hs3 := eq_false (Nat.not_lt.2 hs1)
  have hs4 := eq_false (Nat.not_lt.2 hs2)
  have HPL := Lib.hid hpl
  have HPRE := Lib.hid hpre
  have OK := Lib.hid ok
  have HM := Lib.hid hm
  obtain ⟨W, hW, K1, HW, hs⟩ := boxes1 w #[.int .i64 (k : Int), .string tok, .slice A ws.length c] 50
  have HC := Lib.hid (Kd.C_below h HW)
  have HMY := Lib.hid (may35 A c ⟨(k : Int), tok, ws⟩ W HC.out)
  have r0 := blk_cells K1
  have HK := Lib.hid K1
  have HWB := Lib.hid HW
  have HWW := Lib.hid hW
  have B0 := bl_refl W
  clear hW K1 HW hs h hm ok hpl hpre hn1 hn2 ht1 c1 c2 c3 hk htok hlen
  go_enter Try.func30, Try.ntmps30
  go_wp2_with fail
  rw [HWW.out]
  refine HMY.out.mono ?_
  rintro e w1 ⟨rfl, hb⟩
  rw [HM.out]
  have K1 := blk_below HK.out hb
  have HWB1 := Lib.hid (bl_trans HWB.out hb)
  have HC1 := Lib.hid (Kd.C_below HC.out hb)
  have r1 := blk_cells K1
  have B1 := bl_refl w1
  clear hb K1 r0 B0 HC HK HWB HMY
  go_wp2
  refine start_ (n := 15) (S := fun w' => w'.cell? ⟨w.heap.size, 0, none⟩ = some (.int .i64 (k : Int)) ∧ w'.cell? ⟨w.heap.size, 1, none⟩ = some (.string tok) ∧ w'.cell? ⟨w.heap.size, 2, none⟩ = some (.slice A ws.length c)) (ds := []) #[false, false, false, false, false, false, false, false, false, false, false, false, false, false, false] (by kernel_rfl) rfl rfl ⟨(r1 _ 0 (bl_drew (bl_refl w1))), (r1 _ 1 (bl_drew (bl_refl w1))), (r1 _ 2 (bl_drew (bl_refl w1)))⟩ (fun hHeld => ?_)
  refine pure_ (i := 0) (N := some 11) (v := ?_) (a' := ?_) #[true, false, false, false, false, false, false, false, false, false, false, false, false, false, false] rfl rfl (by kernel_rfl) (fun _ _ _ h => h) (Or.inl ⟨by rfl, ?_⟩) ?_ ?_
  rotate_left
  · intro w'
    go_simp
    with_reducible rfl
  rotate_left
  · simp only [Act.put, List.setIfInBounds_toArray, List.set_cons_zero, List.set_cons_succ, i64_w, i32_w]
    rfl
  refine pure_ (i := 4) (N := some 15) (v := ?_) (a' := ?_) #[true, false, false, false, true, false, false, false, false, false, false, false, false, false, false] rfl rfl (by kernel_rfl) (fun _ _ _ h => h) (Or.inl ⟨by rfl, ?_⟩) ?_ ?_
  rotate_left
  · intro w'
    go_simp
    with_reducible rfl
  rotate_left
  · simp only [Act.put, List.setIfInBounds_toArray, List.set_cons_zero, List.set_cons_succ, i64_w, i32_w]
    rfl
  refine pure_ (i := 8) (N := some 19) (v := ?_) (a' := ?_) #[true, false, false, false, true, false, false, false, true, false, false, false, false, false, false] rfl rfl (by kernel_rfl) (fun _ _ _ h => h) (Or.inl ⟨by rfl, ?_⟩) ?_ ?_
  rotate_left
  · intro w'
    go_simp
    with_reducible rfl
  rotate_left
  · simp only [Act.put, List.setIfInBounds_toArray, List.set_cons_zero, List.set_cons_succ, i64_w, i32_w]
    rfl
  refine take_ (i := 1) (N := some 12) (v := ?_) (a' := ?_) #[true, true, false, false, true, false, false, false, true, false, false, false, false, false, false] rfl rfl (by kernel_rfl) (fun _ _ _ h => h) (Or.inl ⟨by rfl, ?_⟩) hHeld ?_ ?_
  rotate_left
  · rintro w' ⟨s0, s1, s2⟩
    go_simp
    with_reducible rfl
  rotate_left
  · simp only [Act.put, List.setIfInBounds_toArray, List.set_cons_zero, List.set_cons_succ, i64_w, i32_w]
    rfl
  refine pure_ (i := 2) (N := some 13) (v := ?_) (a' := ?_) #[true, true, true, false, true, false, false, false, true, false, false, false, false, false, false] rfl rfl (by kernel_rfl) (fun _ _ _ h => h) (Or.inl ⟨by rfl, ?_⟩) ?_ ?_
  rotate_left
  · intro w'
    go_simp
    with_reducible rfl
  rotate_left
  · simp only [Act.put, List.setIfInBounds_toArray, List.set_cons_zero, List.set_cons_succ, i64_w, i32_w]
    rfl
  refine take_ (i := 5) (N := some 16) (v := ?_) (a' := ?_) #[true, true, true, false, true, true, false, false, true, false, false, false, false, false, false] rfl rfl (by kernel_rfl) (fun _ _ _ h => h) (Or.inl ⟨by rfl, ?_⟩) hHeld ?_ ?_
  rotate_left
  · rintro w' ⟨s0, s1, s2⟩
    go_simp
    with_reducible rfl
  rotate_left
  · simp only [Act.put, List.setIfInBounds_toArray, List.set_cons_zero, List.set_cons_succ, i64_w, i32_w]
    rfl
  refine take_ (i := 9) (N := some 20) (v := ?_) (a' := ?_) #[true, true, true, false, true, true, false, false, true, true, false, false, false, false, false] rfl rfl (by kernel_rfl) (fun _ _ _ h => h) (Or.inl ⟨by rfl, ?_⟩) hHeld ?_ ?_
  rotate_left
  · rintro w' ⟨s0, s1, s2⟩
    go_simp
    with_reducible rfl
  rotate_left
  · simp only [Act.put, List.setIfInBounds_toArray, List.set_cons_zero, List.set_cons_succ, i64_w, i32_w]
    rfl
  refine pure_ (i := 10) (N := some 21) (v := ?_) (a' := ?_) #[true, true, true, false, true, true, false, false, true, true, true, false, false, false, false] rfl rfl (by kernel_rfl) (fun _ _ _ h => h) (Or.inl ⟨by rfl, ?_⟩) ?_ ?_
  rotate_left
  · intro w'
    go_simp
    with_reducible rfl
  rotate_left
  · simp only [Act.put, List.setIfInBounds_toArray, List.set_cons_zero, List.set_cons_succ, i64_w, i32_w]
    rfl
  refine pure_ (i := 11) (N := some 22) (v := ?_) (a' := ?_) #[true, true, true, false, true, true, false, false, true, true, true, true, false, false, false] rfl rfl (by kernel_rfl) (fun _ _ _ h => h) (Or.inl ⟨by rfl, ?_⟩) ?_ ?_
  rotate_left
  · intro w'
    go_simp
    with_reducible rfl
  rotate_left
  · simp only [Act.put, List.setIfInBounds_toArray, List.set_cons_zero, List.set_cons_succ, i64_w, i32_w]
    rfl
  refine one_ (i := 3) (N := some 14) #[true, true, true, true, true, true, false, false, true, true, true, true, false, false, false] rfl rfl (by kernel_rfl) (by decide) (fun K hK => ?_)
  refine goes_ Try.func94 (by kernel_rfl) rfl #[.int .u64 (k : Int)] (by rfl) rfl rfl (by simp only [List.map_toArray, List.map_cons, List.map_nil]; rfl) ?_
  with_reducible refine (C1.out _).mono ?_
  rintro e w2 ⟨rfl, hb⟩
  refine ⟨_, rfl, ?_⟩
  have E2 : Below w1.heap.size w1 w2 := bl_trans (bl_drew (bl_refl w1)) hb
  clear hb
  refine hK.out _ _ ⟨(r1 _ 0 E2), (r1 _ 1 E2), (r1 _ 2 E2)⟩ (fun hHeld => ?_)
  clear hK K
  refine norm_ (a' := ?_) ?_ ?_
  rotate_left
  · show Act.put _ (some 14) _ = _
    simp only [Act.put, List.setIfInBounds_toArray, List.set_cons_zero, List.set_cons_succ, i64_w, i32_w]
    rfl
  refine one_ (i := 6) (N := some 17) #[true, true, true, true, true, true, true, false, true, true, true, true, false, false, false] rfl rfl (by kernel_rfl) (by decide) (fun K hK => ?_)
  refine goes_ Try.func95 (by kernel_rfl) rfl #[.string tok] (by rfl) rfl rfl (by simp only [List.map_toArray, List.map_cons, List.map_nil]; rfl) ?_
  with_reducible refine (C2.out _).mono ?_
  rintro e w3 ⟨rfl, hb⟩
  refine ⟨_, rfl, ?_⟩
  have E3 : Below w1.heap.size w1 w3 := bl_trans E2 hb
  clear hb
  refine hK.out _ _ ⟨(r1 _ 0 E3), (r1 _ 1 E3), (r1 _ 2 E3)⟩ (fun hHeld => ?_)
  clear hK K
  refine norm_ (a' := ?_) ?_ ?_
  rotate_left
  · show Act.put _ (some 17) _ = _
    simp only [Act.put, List.setIfInBounds_toArray, List.set_cons_zero, List.set_cons_succ, i64_w, i32_w]
    rfl
  refine pure_ (i := 7) (N := some 18) (v := ?_) (a' := ?_) #[true, true, true, true, true, true, true, true, true, true, true, true, false, false, false] rfl rfl (by kernel_rfl) (fun _ _ _ h => h) (Or.inl ⟨by rfl, ?_⟩) ?_ ?_
  rotate_left
  · intro w'
    go_simp
    with_reducible rfl
  rotate_left
  · simp only [Act.put, List.setIfInBounds_toArray, List.set_cons_zero, List.set_cons_succ, i64_w, i32_w]
    rfl
  refine one_ (i := 12) (N := some 23) #[true, true, true, true, true, true, true, true, true, true, true, true, true, false, false] rfl rfl (by kernel_rfl) (by decide) (fun K hK => ?_)
  refine goes_ Try.func94 (by kernel_rfl) rfl #[.int .u64 (ws.length : Int)] (by rfl) rfl rfl (by simp only [List.map_toArray, List.map_cons, List.map_nil]; rfl) ?_
  with_reducible refine (C3.out _).mono ?_
  rintro e w4 ⟨rfl, hb⟩
  refine ⟨_, rfl, ?_⟩
  have E4 : Below w1.heap.size w1 w4 := bl_trans E3 hb
  clear hb
  refine hK.out _ _ ⟨(r1 _ 0 E4), (r1 _ 1 E4), (r1 _ 2 E4)⟩ (fun hHeld => ?_)
  clear hK K
  refine norm_ (a' := ?_) ?_ ?_
  rotate_left
  · show Act.put _ (some 23) _ = _
    simp only [Act.put, List.setIfInBounds_toArray, List.set_cons_zero, List.set_cons_succ, i64_w, i32_w]
    rfl
  refine pure_ (i := 13) (N := some 24) (v := ?_) (a' := ?_) #[true, true, true, true, true, true, true, true, true, true, true, true, true, true, false] rfl rfl (by kernel_rfl) (fun _ _ _ h => h) (Or.inl ⟨by rfl, ?_⟩) ?_ ?_
  rotate_left
  · intro w'
    go_simp
    with_reducible rfl
  rotate_left
  · simp only [Act.put, List.setIfInBounds_toArray, List.set_cons_zero, List.set_cons_succ, i64_w, i32_w]
    rfl
  refine pure_ (i := 14) (N := some 5) (v := ?_) (a' := ?_) #[true, true, true, true, true, true, true, true, true, true, true, true, true, true, true] rfl rfl (by kernel_rfl) (fun _ _ _ h => h) (Or.inl ⟨by rfl, ?_⟩) ?_ ?_
  rotate_left
  · intro w'
    go_simp
    with_reducible rfl
  rotate_left
  · simp only [Act.put, List.setIfInBounds_toArray, List.set_cons_zero, List.set_cons_succ, i64_w, i32_w]
    rfl
  refine done_ (by kernel_rfl) ?_
  clear E2 E3 hs1 hs2 hs3 hs4 hwk
  go_wp2
  go_loopg [5, 6] ws.length (fun gg s5 s6 wr => ∃ (i : Nat) (acc : Bs), i ≤ ws.length ∧ ws.length - i ≤ gg ∧ s5 = .string (bS acc) ∧ s6 = .int .i64 i ∧ Hid (acc = n1 ++ (t1 ++ n2) ++ (ws.take i).flatMap Wr.L) ∧ Hid (Below w1.heap.size w1 wr))
  case atStart => exact ⟨0, n1 ++ (t1 ++ n2), Nat.zero_le _, by omega, rfl, rfl, (show _ = _ by rw [List.take_zero, List.flatMap_nil, List.append_nil]), E4⟩
  case round =>
    obtain ⟨i, acc, hi, hgg, rfl, rfl, HA, HB⟩ := hrel
    clear E4
    have Bw : Below w1.heap.size w1 wr := HB.out
    have Br := bl_refl wr
    have hl24 : ws.length ≤ 24 := OK.out.len
    by_cases hlt : i < ws.length
    · have hltz : (i : Int) < (ws.length : Int) := by omega
      have hi0 : (0 : Int) ≤ (i : Int) := by omega
      obtain ⟨x, hx⟩ : ∃ x, ws[i]! = x := ⟨_, rfl⟩
      have hodd : x.odd = false := by rw [← hx, getElem!_pos ws i hlt]; exact OK.out.fine _ (List.getElem_mem hlt)
      obtain ⟨ad, rfl, x0, x1, x2⟩ := Wr.at (Kd.C_below HC1.out Bw) i hlt
      rw [hx] at x0 x1 x2
      have p0 := cell_rule x0
      have p1 := cell_rule x1
      have p2 := cell_rule x2
      obtain ⟨_, hks, hvs, _⟩ := odd_f hodd
      obtain ⟨t2, ht2⟩ : ∃ t2, textL x.key.data.toList = t2 := ⟨_, rfl⟩
      obtain ⟨t3, ht3⟩ : ∃ t3, textL x.val.data.toList = t3 := ⟨_, rfl⟩
      have hwl3 := wrL_len hodd
      have hfl := flat_len (ws.take i) (fun y hy => OK.out.fine y (List.mem_of_mem_take hy))
      have d2 := fun w => text95 x.key (by omega) w
      have d3 := fun w => text95 x.val (by omega) w
      rw [ht2] at d2
      rw [ht3] at d3
      have D2 := Lib.hid d2
      have D3 := Lib.hid d3
      have HLT := Lib.hid hlt
      have HFS := Lib.hid (flat_snoc ws i hlt)
      have HX := Lib.hid hx
      have hal : acc.length ≤ 100 + 200 * 24 := by
        rw [HA.out]
        have := HPL.out
        rw [List.length_append, List.length_append, List.length_append]
        rw [List.length_take] at hfl
        omega
      have hsa : acc.length + 2 ≤ 9223372036854775807 := by omega
      clear x0 x1 x2 hodd d2 d3 hks hvs hx hlt hfl
      cases hd : x.del with
      | false =>
        rw [hd] at p2
        have hL : x.L = [48, 59] ++ t2 ++ t3 := by
          unfold Wr.L
          rw [hd, ht2, ht3]
          show numL 0 ++ t2 ++ t3 = _
          unfold numL
          rw [digs_small 0 (by omega)]
          rfl
        rw [hL, List.length_append, List.length_append] at hwl3
        have HLW := Lib.hid hL
        obtain ⟨a1, ha1⟩ : ∃ a1, acc ++ [48, 59] = a1 := ⟨_, rfl⟩
        have hal1 : a1.length ≤ 102 + 200 * 24 := by rw [← ha1, List.length_append]; simp; omega
        have hs1 : a1.length + t2.length ≤ 9223372036854775807 := by omega
        have hs2 : a1.length + t2.length + t3.length ≤ 9223372036854775807 := by omega
        have hs3 := eq_false (Nat.not_lt.2 hs1)
        have hs4 := eq_false (Nat.not_lt.2 hs2)
        have HA1 := Lib.hid ha1
        clear hd hL ht2 ht3 hwl3 ha1 hal hal1
        go_wp2
        rw [HA1.out]
        refine start_ (n := 18) (S := fun w' => w'.cell? ⟨w.heap.size, 2, none⟩ = some (.slice (some ad) ws.length c) ∧ w'.cell? (ad.add (i * 3)) = some (.string x.key) ∧ w'.cell? ⟨(ad.add (i * 3)).block, (ad.add (i * 3)).off + 1, none⟩ = some (.string x.val)) (ds := []) #[false, false, false, false, false, false, false, false, false, false, false, false, false, false, false, false, false, false] (by kernel_rfl) rfl rfl ⟨(r1 _ 2 (bl_trans Bw (bl_drew (bl_refl wr)))), (p0 _ (bl_drew (bl_refl wr))), (p1 _ (bl_drew (bl_refl wr)))⟩ (fun hHeld => ?_)
        refine pure_ (i := 0) (N := some 42) (v := ?_) (a' := ?_) #[true, false, false, false, false, false, false, false, false, false, false, false, false, false, false, false, false, false] rfl rfl (by kernel_rfl) (fun _ _ _ h => h) (Or.inl ⟨by rfl, ?_⟩) ?_ ?_
        rotate_left
        · intro w'
          go_simp
          with_reducible rfl
        rotate_left
        · simp only [Act.put, List.setIfInBounds_toArray, List.set_cons_zero, List.set_cons_succ, i64_w, i32_w]
          rfl
        refine pure_ (i := 1) (N := some 43) (v := ?_) (a' := ?_) #[true, true, false, false, false, false, false, false, false, false, false, false, false, false, false, false, false, false] rfl rfl (by kernel_rfl) (fun _ _ _ h => h) (Or.inl ⟨by rfl, ?_⟩) ?_ ?_
        rotate_left
        · intro w'
          go_simp
          with_reducible rfl
        rotate_left
        · simp only [Act.put, List.setIfInBounds_toArray, List.set_cons_zero, List.set_cons_succ, i64_w, i32_w]
          rfl
        refine pure_ (i := 3) (N := some 45) (v := ?_) (a' := ?_) #[true, true, false, true, false, false, false, false, false, false, false, false, false, false, false, false, false, false] rfl rfl (by kernel_rfl) (fun _ _ _ h => h) (Or.inl ⟨by rfl, ?_⟩) ?_ ?_
        rotate_left
        · intro w'
          go_simp
          with_reducible rfl
        rotate_left
        · simp only [Act.put, List.setIfInBounds_toArray, List.set_cons_zero, List.set_cons_succ, i64_w, i32_w]
          rfl
        refine pure_ (i := 9) (N := some 51) (v := ?_) (a' := ?_) #[true, true, false, true, false, false, false, false, false, true, false, false, false, false, false, false, false, false] rfl rfl (by kernel_rfl) (fun _ _ _ h => h) (Or.inl ⟨by rfl, ?_⟩) ?_ ?_
        rotate_left
        · intro w'
          go_simp
          with_reducible rfl
        rotate_left
        · simp only [Act.put, List.setIfInBounds_toArray, List.set_cons_zero, List.set_cons_succ, i64_w, i32_w]
          rfl
        refine pure_ (i := 11) (N := some 53) (v := ?_) (a' := ?_) #[true, true, false, true, false, false, false, false, false, true, false, true, false, false, false, false, false, false] rfl rfl (by kernel_rfl) (fun _ _ _ h => h) (Or.inl ⟨by rfl, ?_⟩) ?_ ?_
        rotate_left
        · intro w'
          go_simp
          with_reducible rfl
        rotate_left
        · simp only [Act.put, List.setIfInBounds_toArray, List.set_cons_zero, List.set_cons_succ, i64_w, i32_w]
          rfl
        refine take_ (i := 2) (N := some 44) (v := ?_) (a' := ?_) #[true, true, true, true, false, false, false, false, false, true, false, true, false, false, false, false, false, false] rfl rfl (by kernel_rfl) (fun _ _ _ h => h) (Or.inl ⟨by rfl, ?_⟩) hHeld ?_ ?_
        rotate_left
        · rintro w' ⟨s0, s1, s2⟩
          go_simp
          with_reducible rfl
        rotate_left
        · simp only [Act.put, List.setIfInBounds_toArray, List.set_cons_zero, List.set_cons_succ, i64_w, i32_w]
          rfl
        refine pure_ (i := 4) (N := some 46) (v := ?_) (a' := ?_) #[true, true, true, true, true, false, false, false, false, true, false, true, false, false, false, false, false, false] rfl rfl (by kernel_rfl) (fun _ _ _ h => h) (Or.inl ⟨by rfl, ?_⟩) ?_ ?_
        rotate_left
        · intro w'
          go_simp
          with_reducible rfl
        rotate_left
        · simp only [Act.put, List.setIfInBounds_toArray, List.set_cons_zero, List.set_cons_succ, i64_w, i32_w]
          rfl
        refine pure_ (i := 5) (N := some 47) (v := ?_) (a' := ?_) #[true, true, true, true, true, true, false, false, false, true, false, true, false, false, false, false, false, false] rfl rfl (by kernel_rfl) (fun _ _ _ h => h) (Or.inl ⟨by rfl, ?_⟩) ?_ ?_
        rotate_left
        · intro w'
          go_simp
          with_reducible rfl
        rotate_left
        · simp only [Act.put, List.setIfInBounds_toArray, List.set_cons_zero, List.set_cons_succ, i64_w, i32_w]
          rfl
        refine take_ (i := 6) (N := some 48) (v := ?_) (a' := ?_) #[true, true, true, true, true, true, true, false, false, true, false, true, false, false, false, false, false, false] rfl rfl (by kernel_rfl) (fun _ _ _ h => h) (Or.inl ⟨by rfl, ?_⟩) hHeld ?_ ?_
        rotate_left
        · rintro w' ⟨s0, s1, s2⟩
          go_simp
          with_reducible rfl
        rotate_left
        · simp only [Act.put, List.setIfInBounds_toArray, List.set_cons_zero, List.set_cons_succ, i64_w, i32_w]
          rfl
        refine take_ (i := 10) (N := some 52) (v := ?_) (a' := ?_) #[true, true, true, true, true, true, true, false, false, true, true, true, false, false, false, false, false, false] rfl rfl (by kernel_rfl) (fun _ _ _ h => h) (Or.inl ⟨by rfl, ?_⟩) hHeld ?_ ?_
        rotate_left
        · rintro w' ⟨s0, s1, s2⟩
          go_simp
          with_reducible rfl
        rotate_left
        · simp only [Act.put, List.setIfInBounds_toArray, List.set_cons_zero, List.set_cons_succ, i64_w, i32_w]
          rfl
        refine pure_ (i := 12) (N := some 54) (v := ?_) (a' := ?_) #[true, true, true, true, true, true, true, false, false, true, true, true, true, false, false, false, false, false] rfl rfl (by kernel_rfl) (fun _ _ _ h => h) (Or.inl ⟨by rfl, ?_⟩) ?_ ?_
        rotate_left
        · intro w'
          go_simp
          with_reducible rfl
        rotate_left
        · simp only [Act.put, List.setIfInBounds_toArray, List.set_cons_zero, List.set_cons_succ, i64_w, i32_w]
          rfl
        refine pure_ (i := 13) (N := some 55) (v := ?_) (a' := ?_) #[true, true, true, true, true, true, true, false, false, true, true, true, true, true, false, false, false, false] rfl rfl (by kernel_rfl) (fun _ _ _ h => h) (Or.inl ⟨by rfl, ?_⟩) ?_ ?_
        rotate_left
        · intro w'
          go_simp
          with_reducible rfl
        rotate_left
        · simp only [Act.put, List.setIfInBounds_toArray, List.set_cons_zero, List.set_cons_succ, i64_w, i32_w]
          rfl
        refine take_ (i := 14) (N := some 56) (v := ?_) (a' := ?_) #[true, true, true, true, true, true, true, false, false, true, true, true, true, true, true, false, false, false] rfl rfl (by kernel_rfl) (fun _ _ _ h => h) (Or.inl ⟨by rfl, ?_⟩) hHeld ?_ ?_
        rotate_left
        · rintro w' ⟨s0, s1, s2⟩
          go_simp
          with_reducible rfl
        rotate_left
        · simp only [Act.put, List.setIfInBounds_toArray, List.set_cons_zero, List.set_cons_succ, i64_w, i32_w]
          rfl
        refine one_ (i := 7) (N := some 49) #[true, true, true, true, true, true, true, true, false, true, true, true, true, true, true, false, false, false] rfl rfl (by kernel_rfl) (by decide) (fun K hK => ?_)
        refine goes_ Try.func95 (by kernel_rfl) rfl #[.string x.key] (by rfl) rfl rfl (by simp only [List.map_toArray, List.map_cons, List.map_nil]; rfl) ?_
        with_reducible refine (D2.out _).mono ?_
        rintro e v2 ⟨rfl, hb⟩
        refine ⟨_, rfl, ?_⟩
        have F2 : Below wr.heap.size wr v2 := bl_trans (bl_drew (bl_refl wr)) hb
        clear hb
        refine hK.out _ _ ⟨(r1 _ 2 (bl_trans Bw F2)), (p0 _ F2), (p1 _ F2)⟩ (fun hHeld => ?_)
        clear hK K
        refine norm_ (a' := ?_) ?_ ?_
        rotate_left
        · show Act.put _ (some 49) _ = _
          simp only [Act.put, List.setIfInBounds_toArray, List.set_cons_zero, List.set_cons_succ, i64_w, i32_w]
          rfl
        refine pure_ (i := 8) (N := some 50) (v := ?_) (a' := ?_) #[true, true, true, true, true, true, true, true, true, true, true, true, true, true, true, false, false, false] rfl rfl (by kernel_rfl) (fun _ _ _ h => h) (Or.inl ⟨by rfl, ?_⟩) ?_ ?_
        rotate_left
        · intro w'
          go_simp
          with_reducible rfl
        rotate_left
        · simp only [Act.put, List.setIfInBounds_toArray, List.set_cons_zero, List.set_cons_succ, i64_w, i32_w]
          rfl
        refine one_ (i := 15) (N := some 57) #[true, true, true, true, true, true, true, true, true, true, true, true, true, true, true, true, false, false] rfl rfl (by kernel_rfl) (by decide) (fun K hK => ?_)
        refine goes_ Try.func95 (by kernel_rfl) rfl #[.string x.val] (by rfl) rfl rfl (by simp only [List.map_toArray, List.map_cons, List.map_nil]; rfl) ?_
        with_reducible refine (D3.out _).mono ?_
        rintro e v3 ⟨rfl, hb⟩
        refine ⟨_, rfl, ?_⟩
        have F3 : Below wr.heap.size wr v3 := bl_trans F2 hb
        clear hb
        refine hK.out _ _ ⟨(r1 _ 2 (bl_trans Bw F3)), (p0 _ F3), (p1 _ F3)⟩ (fun hHeld => ?_)
        clear hK K
        refine norm_ (a' := ?_) ?_ ?_
        rotate_left
        · show Act.put _ (some 57) _ = _
          simp only [Act.put, List.setIfInBounds_toArray, List.set_cons_zero, List.set_cons_succ, i64_w, i32_w]
          rfl
        refine pure_ (i := 16) (N := some 58) (v := ?_) (a' := ?_) #[true, true, true, true, true, true, true, true, true, true, true, true, true, true, true, true, true, false] rfl rfl (by kernel_rfl) (fun _ _ _ h => h) (Or.inl ⟨by rfl, ?_⟩) ?_ ?_
        rotate_left
        · intro w'
          go_simp
          with_reducible rfl
        rotate_left
        · simp only [Act.put, List.setIfInBounds_toArray, List.set_cons_zero, List.set_cons_succ, i64_w, i32_w]
          rfl
        refine pure_ (i := 17) (N := some 5) (v := ?_) (a' := ?_) #[true, true, true, true, true, true, true, true, true, true, true, true, true, true, true, true, true, true] rfl rfl (by kernel_rfl) (fun _ _ _ h => h) (Or.inl ⟨by rfl, ?_⟩) ?_ ?_
        rotate_left
        · intro w'
          go_simp
          with_reducible rfl
        rotate_left
        · simp only [Act.put, List.setIfInBounds_toArray, List.set_cons_zero, List.set_cons_succ, i64_w, i32_w]
          rfl
        refine done_ (by kernel_rfl) ?_
        clear F2
        go_wp2
        go_roundg (ws.length - (i + 1))
        case measure => have := HLT.out; omega
        case rel =>
          refine ⟨i + 1, a1 ++ (t2 ++ t3), by have := HLT.out; omega, Nat.le_refl _, rfl, by go_num, ?_, bl_trans HB.out F3⟩
          show a1 ++ (t2 ++ t3) = n1 ++ (t1 ++ n2) ++ (ws.take (i + 1)).flatMap Wr.L
          rw [HFS.out, HX.out, HLW.out, ← HA1.out, HA.out]
          simp only [List.append_assoc]
      | true =>
        rw [hd] at p2
        have hL : x.L = [49, 59] ++ t2 ++ t3 := by
          unfold Wr.L
          rw [hd, ht2, ht3]
          show numL 1 ++ t2 ++ t3 = _
          unfold numL
          rw [digs_small 1 (by omega)]
          rfl
        rw [hL, List.length_append, List.length_append] at hwl3
        have HLW := Lib.hid hL
        obtain ⟨a1, ha1⟩ : ∃ a1, acc ++ [49, 59] = a1 := ⟨_, rfl⟩
        have hal1 : a1.length ≤ 102 + 200 * 24 := by rw [← ha1, List.length_append]; simp; omega
        have hs1 : a1.length + t2.length ≤ 9223372036854775807 := by omega
        have hs2 : a1.length + t2.length + t3.length ≤ 9223372036854775807 := by omega
        have hs3 := eq_false (Nat.not_lt.2 hs1)
        have hs4 := eq_false (Nat.not_lt.2 hs2)
        have HA1 := Lib.hid ha1
        clear hd hL ht2 ht3 hwl3 ha1 hal hal1
        go_wp2
        rw [HA1.out]
        refine start_ (n := 18) (S := fun w' => w'.cell? ⟨w.heap.size, 2, none⟩ = some (.slice (some ad) ws.length c) ∧ w'.cell? (ad.add (i * 3)) = some (.string x.key) ∧ w'.cell? ⟨(ad.add (i * 3)).block, (ad.add (i * 3)).off + 1, none⟩ = some (.string x.val)) (ds := []) #[false, false, false, false, false, false, false, false, false, false, false, false, false, false, false, false, false, false] (by kernel_rfl) rfl rfl ⟨(r1 _ 2 (bl_trans Bw (bl_drew (bl_refl wr)))), (p0 _ (bl_drew (bl_refl wr))), (p1 _ (bl_drew (bl_refl wr)))⟩ (fun hHeld => ?_)
        refine pure_ (i := 0) (N := some 42) (v := ?_) (a' := ?_) #[true, false, false, false, false, false, false, false, false, false, false, false, false, false, false, false, false, false] rfl rfl (by kernel_rfl) (fun _ _ _ h => h) (Or.inl ⟨by rfl, ?_⟩) ?_ ?_
        rotate_left
        · intro w'
          go_simp
          with_reducible rfl
        rotate_left
        · simp only [Act.put, List.setIfInBounds_toArray, List.set_cons_zero, List.set_cons_succ, i64_w, i32_w]
          rfl
        refine pure_ (i := 1) (N := some 43) (v := ?_) (a' := ?_) #[true, true, false, false, false, false, false, false, false, false, false, false, false, false, false, false, false, false] rfl rfl (by kernel_rfl) (fun _ _ _ h => h) (Or.inl ⟨by rfl, ?_⟩) ?_ ?_
        rotate_left
        · intro w'
          go_simp
          with_reducible rfl
        rotate_left
        · simp only [Act.put, List.setIfInBounds_toArray, List.set_cons_zero, List.set_cons_succ, i64_w, i32_w]
          rfl
        refine pure_ (i := 3) (N := some 45) (v := ?_) (a' := ?_) #[true, true, false, true, false, false, false, false, false, false, false, false, false, false, false, false, false, false] rfl rfl (by kernel_rfl) (fun _ _ _ h => h) (Or.inl ⟨by rfl, ?_⟩) ?_ ?_
        rotate_left
        · intro w'
          go_simp
          with_reducible rfl
        rotate_left
        · simp only [Act.put, List.setIfInBounds_toArray, List.set_cons_zero, List.set_cons_succ, i64_w, i32_w]
          rfl
        refine pure_ (i := 9) (N := some 51) (v := ?_) (a' := ?_) #[true, true, false, true, false, false, false, false, false, true, false, false, false, false, false, false, false, false] rfl rfl (by kernel_rfl) (fun _ _ _ h => h) (Or.inl ⟨by rfl, ?_⟩) ?_ ?_
        rotate_left
        · intro w'
          go_simp
          with_reducible rfl
        rotate_left
        · simp only [Act.put, List.setIfInBounds_toArray, List.set_cons_zero, List.set_cons_succ, i64_w, i32_w]
          rfl
        refine pure_ (i := 11) (N := some 53) (v := ?_) (a' := ?_) #[true, true, false, true, false, false, false, false, false, true, false, true, false, false, false, false, false, false] rfl rfl (by kernel_rfl) (fun _ _ _ h => h) (Or.inl ⟨by rfl, ?_⟩) ?_ ?_
        rotate_left
        · intro w'
          go_simp
          with_reducible rfl
        rotate_left
        · simp only [Act.put, List.setIfInBounds_toArray, List.set_cons_zero, List.set_cons_succ, i64_w, i32_w]
          rfl
        refine take_ (i := 2) (N := some 44) (v := ?_) (a' := ?_) #[true, true, true, true, false, false, false, false, false, true, false, true, false, false, false, false, false, false] rfl rfl (by kernel_rfl) (fun _ _ _ h => h) (Or.inl ⟨by rfl, ?_⟩) hHeld ?_ ?_
        rotate_left
        · rintro w' ⟨s0, s1, s2⟩
          go_simp
          with_reducible rfl
        rotate_left
        · simp only [Act.put, List.setIfInBounds_toArray, List.set_cons_zero, List.set_cons_succ, i64_w, i32_w]
          rfl
        refine pure_ (i := 4) (N := some 46) (v := ?_) (a' := ?_) #[true, true, true, true, true, false, false, false, false, true, false, true, false, false, false, false, false, false] rfl rfl (by kernel_rfl) (fun _ _ _ h => h) (Or.inl ⟨by rfl, ?_⟩) ?_ ?_
        rotate_left
        · intro w'
          go_simp
          with_reducible rfl
        rotate_left
        · simp only [Act.put, List.setIfInBounds_toArray, List.set_cons_zero, List.set_cons_succ, i64_w, i32_w]
          rfl
        refine pure_ (i := 5) (N := some 47) (v := ?_) (a' := ?_) #[true, true, true, true, true, true, false, false, false, true, false, true, false, false, false, false, false, false] rfl rfl (by kernel_rfl) (fun _ _ _ h => h) (Or.inl ⟨by rfl, ?_⟩) ?_ ?_
        rotate_left
        · intro w'
          go_simp
          with_reducible rfl
        rotate_left
        · simp only [Act.put, List.setIfInBounds_toArray, List.set_cons_zero, List.set_cons_succ, i64_w, i32_w]
          rfl
        refine take_ (i := 6) (N := some 48) (v := ?_) (a' := ?_) #[true, true, true, true, true, true, true, false, false, true, false, true, false, false, false, false, false, false] rfl rfl (by kernel_rfl) (fun _ _ _ h => h) (Or.inl ⟨by rfl, ?_⟩) hHeld ?_ ?_
        rotate_left
        · rintro w' ⟨s0, s1, s2⟩
          go_simp
          with_reducible rfl
        rotate_left
        · simp only [Act.put, List.setIfInBounds_toArray, List.set_cons_zero, List.set_cons_succ, i64_w, i32_w]
          rfl
        refine take_ (i := 10) (N := some 52) (v := ?_) (a' := ?_) #[true, true, true, true, true, true, true, false, false, true, true, true, false, false, false, false, false, false] rfl rfl (by kernel_rfl) (fun _ _ _ h => h) (Or.inl ⟨by rfl, ?_⟩) hHeld ?_ ?_
        rotate_left
        · rintro w' ⟨s0, s1, s2⟩
          go_simp
          with_reducible rfl
        rotate_left
        · simp only [Act.put, List.setIfInBounds_toArray, List.set_cons_zero, List.set_cons_succ, i64_w, i32_w]
          rfl
        refine pure_ (i := 12) (N := some 54) (v := ?_) (a' := ?_) #[true, true, true, true, true, true, true, false, false, true, true, true, true, false, false, false, false, false] rfl rfl (by kernel_rfl) (fun _ _ _ h => h) (Or.inl ⟨by rfl, ?_⟩) ?_ ?_
        rotate_left
        · intro w'
          go_simp
          with_reducible rfl
        rotate_left
        · simp only [Act.put, List.setIfInBounds_toArray, List.set_cons_zero, List.set_cons_succ, i64_w, i32_w]
          rfl
        refine pure_ (i := 13) (N := some 55) (v := ?_) (a' := ?_) #[true, true, true, true, true, true, true, false, false, true, true, true, true, true, false, false, false, false] rfl rfl (by kernel_rfl) (fun _ _ _ h => h) (Or.inl ⟨by rfl, ?_⟩) ?_ ?_
        rotate_left
        · intro w'
          go_simp
          with_reducible rfl
        rotate_left
        · simp only [Act.put, List.setIfInBounds_toArray, List.set_cons_zero, List.set_cons_succ, i64_w, i32_w]
          rfl
        refine take_ (i := 14) (N := some 56) (v := ?_) (a' := ?_) #[true, true, true, true, true, true, true, false, false, true, true, true, true, true, true, false, false, false] rfl rfl (by kernel_rfl) (fun _ _ _ h => h) (Or.inl ⟨by rfl, ?_⟩) hHeld ?_ ?_
        rotate_left
        · rintro w' ⟨s0, s1, s2⟩
          go_simp
          with_reducible rfl
        rotate_left
        · simp only [Act.put, List.setIfInBounds_toArray, List.set_cons_zero, List.set_cons_succ, i64_w, i32_w]
          rfl
        refine one_ (i := 7) (N := some 49) #[true, true, true, true, true, true, true, true, false, true, true, true, true, true, true, false, false, false] rfl rfl (by kernel_rfl) (by decide) (fun K hK => ?_)
        refine goes_ Try.func95 (by kernel_rfl) rfl #[.string x.key] (by rfl) rfl rfl (by simp only [List.map_toArray, List.map_cons, List.map_nil]; rfl) ?_
        with_reducible refine (D2.out _).mono ?_
        rintro e v2 ⟨rfl, hb⟩
        refine ⟨_, rfl, ?_⟩
        have F2 : Below wr.heap.size wr v2 := bl_trans (bl_drew (bl_refl wr)) hb
        clear hb
        refine hK.out _ _ ⟨(r1 _ 2 (bl_trans Bw F2)), (p0 _ F2), (p1 _ F2)⟩ (fun hHeld => ?_)
        clear hK K
        refine norm_ (a' := ?_) ?_ ?_
        rotate_left
        · show Act.put _ (some 49) _ = _
          simp only [Act.put, List.setIfInBounds_toArray, List.set_cons_zero, List.set_cons_succ, i64_w, i32_w]
          rfl
        refine pure_ (i := 8) (N := some 50) (v := ?_) (a' := ?_) #[true, true, true, true, true, true, true, true, true, true, true, true, true, true, true, false, false, false] rfl rfl (by kernel_rfl) (fun _ _ _ h => h) (Or.inl ⟨by rfl, ?_⟩) ?_ ?_
        rotate_left
        · intro w'
          go_simp
          with_reducible rfl
        rotate_left
        · simp only [Act.put, List.setIfInBounds_toArray, List.set_cons_zero, List.set_cons_succ, i64_w, i32_w]
          rfl
        refine one_ (i := 15) (N := some 57) #[true, true, true, true, true, true, true, true, true, true, true, true, true, true, true, true, false, false] rfl rfl (by kernel_rfl) (by decide) (fun K hK => ?_)
        refine goes_ Try.func95 (by kernel_rfl) rfl #[.string x.val] (by rfl) rfl rfl (by simp only [List.map_toArray, List.map_cons, List.map_nil]; rfl) ?_
        with_reducible refine (D3.out _).mono ?_
        rintro e v3 ⟨rfl, hb⟩
        refine ⟨_, rfl, ?_⟩
        have F3 : Below wr.heap.size wr v3 := bl_trans F2 hb
        clear hb
        refine hK.out _ _ ⟨(r1 _ 2 (bl_trans Bw F3)), (p0 _ F3), (p1 _ F3)⟩ (fun hHeld => ?_)
        clear hK K
        refine norm_ (a' := ?_) ?_ ?_
        rotate_left
        · show Act.put _ (some 57) _ = _
          simp only [Act.put, List.setIfInBounds_toArray, List.set_cons_zero, List.set_cons_succ, i64_w, i32_w]
          rfl
        refine pure_ (i := 16) (N := some 58) (v := ?_) (a' := ?_) #[true, true, true, true, true, true, true, true, true, true, true, true, true, true, true, true, true, false] rfl rfl (by kernel_rfl) (fun _ _ _ h => h) (Or.inl ⟨by rfl, ?_⟩) ?_ ?_
        rotate_left
        · intro w'
          go_simp
          with_reducible rfl
        rotate_left
        · simp only [Act.put, List.setIfInBounds_toArray, List.set_cons_zero, List.set_cons_succ, i64_w, i32_w]
          rfl
        refine pure_ (i := 17) (N := some 5) (v := ?_) (a' := ?_) #[true, true, true, true, true, true, true, true, true, true, true, true, true, true, true, true, true, true] rfl rfl (by kernel_rfl) (fun _ _ _ h => h) (Or.inl ⟨by rfl, ?_⟩) ?_ ?_
        rotate_left
        · intro w'
          go_simp
          with_reducible rfl
        rotate_left
        · simp only [Act.put, List.setIfInBounds_toArray, List.set_cons_zero, List.set_cons_succ, i64_w, i32_w]
          rfl
        refine done_ (by kernel_rfl) ?_
        clear F2
        go_wp2
        go_roundg (ws.length - (i + 1))
        case measure => have := HLT.out; omega
        case rel =>
          refine ⟨i + 1, a1 ++ (t2 ++ t3), by have := HLT.out; omega, Nat.le_refl _, rfl, by go_num, ?_, bl_trans HB.out F3⟩
          show a1 ++ (t2 ++ t3) = n1 ++ (t1 ++ n2) ++ (ws.take (i + 1)).flatMap Wr.L
          rw [HFS.out, HX.out, HLW.out, ← HA1.out, HA.out]
          simp only [List.append_assoc]
    · have hltz : ¬ (i : Int) < (ws.length : Int) := by omega
      have HFIN := Lib.hid (show (⟨(k : Int), tok, ws⟩ : Bt).bytes = acc by
        unfold Bt.bytes
        rw [HPRE.out, HA.out, show i = ws.length by omega, List.take_length, List.append_assoc n1])
      clear hlt
      go_wp2
      exact bodyPost_ret (v := .tuple #[.string (bS acc), .int .i64 0]) (by simp [results, Try.results30, go_sem]) rfl ⟨by rw [HFIN.out], bl_trans HWB1.out HB.out⟩
end Go.Proofs.Ytkcebmamohimoaa
