/- prod.raised, prod.Mul. -/
import Derived.Test.YtngghjhmfpmilaaMulM
import Derived.Test.YtngghjhmfpmilaaIntA
namespace Go.Proofs.Ytngghjhmfpmilaa
open Go.RowKit
theorem cal_prod_Mul : Callable Try.prog 55 := callable_of Try.func55 rfl (by kernel_rfl)
theorem cal_nat_Nat_Words : Callable Try.prog 99 := callable_of Try.func99 rfl (by kernel_rfl)
theorem cal_nat_Nat_Len : Callable Try.prog 83 := callable_of Try.func83 rfl (by kernel_rfl)
theorem cal_prod_school : Callable Try.prog 84 := callable_of Try.func84 rfl (by kernel_rfl)
theorem cal_prod_cut : Callable Try.prog 85 := callable_of Try.func85 rfl (by kernel_rfl)
theorem cal_prod_raised : Callable Try.prog 86 := callable_of Try.func86 rfl (by kernel_rfl)
set_option maxRecDepth 100000 in
set_option maxHeartbeats 2000000 in
theorem cRaised {x k : Nat} {va : Value} {w : World}  (ha : (MR.nat (x)).R w va) (hs : nw x + k ≤ 137438953472) : Calls Try.prog 86 #[va, .int .i64 (((k : Nat) : Int))] w (Ret (.nat (x * 2 ^ (64 * k))) w) := by
  have _ := hs
  refine calls_enter (a := ⟨List.toArray ([va, It k] ++ us 9), []⟩) Try.func86 rfl (by kernel_rfl) ?_
  have NL : NoLook (bodyPost Try.prog Try.f86 (Ret (.nat (x * 2 ^ (64 * k))) w)) := noLook_body
  refine wp_seq ?_
  refine rg (fun c d v a w h => NL c d v a w h) [(2, .ptr 31 (.nat (x))), (4, .ptr 31 (.nat (0)))] [0, 1] [] [] 11 2 ?_ ?_
  · refine sn [] (fun w1 hw1 => .fin (yld_newBox rfl rfl (MR.mono _ hw1 ha))) ?_
    exact sn [] (fun w1 hw1 => .fin (yld_newAlloc rfl zeroNat zNat)) (.nil _ _)
  rintro w1 hw1 _ ⟨b2, rfl, B2⟩ _ ⟨b4, rfl, B4⟩ hN
  have W1 : Grow w w1 := (Grow.refl w).trans hw1
  have g_b4 : w.heap.size ≤ b4 := Nat.le_trans (Grow.refl w).size hN.2.2.1.1
  clear hN
  refine fr ([va, It k, pt b2, u, pt b4] ++ us 6) ?_
  refine nx ?_
  refine wp_seq ?_
  refine rg (fun c d v a w h => NL c d v a w h) [(5, .eq (.int .i64 (((k : Nat) : Int)))), (6, .row (fun _ => 0) k), (7, .nat (x)), (8, .uns (wd (x)) (nw (x))), (9, .uns (shf x k) (k + nw x)), (10, .nat (val (shf x k) (k + nw x)))] [] [] [] 11 6 ?_ ?_
  · refine so [] (fun w2 hw2 => .fin (yld_move rfl ⟨Grow.refl _, rfl⟩)) ?_
    refine so [0] (fun w2 hw2 => by rintro _ rfl; exact .fin (yld_make64 rfl rfl rfl (by omega))) ?_
    refine so [] (fun w2 hw2 => .fin (yld_loadBox rfl rfl aggNat (B2.grow hw2) (shNat _))) ?_
    refine so [2] (fun w2 hw2 => by rintro v7 h7; exact .fin (yld_call rfl cal_nat_Nat_Words rfl (cNatWords h7))) ?_
    refine so [1, 3] (fun w2 hw2 => by rintro v6 h6 v8 h8; exact .fin (yld_append64 rfl h6 h8 (by omega) (by omega))) ?_
    exact so [4] (fun w2 hw2 => by rintro v9 h9; exact .fin (yld_call rfl cal_nat_Of rfl (cNatOfU h9 (wf_shf x k _) (by omega)))) (.nil _ _)
  rintro w2 hw2 v5 - v6 - v7 - v8 - v9 - v10 h10 -
  have W2 : Grow w w2 := W1.trans hw2
  replace B4 := B4.grow hw2
  have KK : Kept [] w2 w2 := fun _ _ => rfl
  refine fr [va, It k, pt b2, u, pt b4, v5, v6, v7, v8, v9, v10] ?_
  change wpListS _ _ _ _ [_] ⟨_, []⟩ _
  refine wpListS_yld rfl ?_
  refine yld_storeBox (R' := .nat (val (shf x k) (k + nw x))) (b := b4) rfl rfl aggNat.size B4 (shNat _) h10 (shNat _) (St.nat _) (by decide) g_b4 fun w3 P3 E3 B' => ⟨fun _ => Kept.put KK P3 (fun _ hk => (by cases hk)), ?_⟩
  have W3 : Grow w w3 := W2.put P3 g_b4
  replace B4 := B'; clear B'
  refine nx ?_
  have BR : Box w3 b4 31 (.nat (x * 2 ^ (64 * k))) := (by have e : (val (shf x k) (k + nw x) : Nat) = x * 2 ^ (64 * k) := (val_shf_all x k); rw [← e]; exact B4)
  refine wp_ret ?_
  change bodyPost Try.prog Try.f86 (Ret (.nat (x * 2 ^ (64 * k))) w) .ret _ _
  exact body_cell (b := b4) rfl rfl aggNat BR (shNat _) rfl W3
set_option maxRecDepth 100000 in
set_option maxHeartbeats 2000000 in
theorem mulStep {x y : Nat} {va : Value} {vb : Value} {w : World}  (ha : (MR.nat (x)).R w va) (hb : (MR.nat (y)).R w vb) (hs : nw x + nw y ≤ LIM) (ih : ∀ {x' y' : Nat} {va' vb' : Value} {w' : World}, max (nw x') (nw y') < max (nw x) (nw y) → (MR.nat x').R w' va' → (MR.nat y').R w' vb' → nw x' + nw y' ≤ LIM → Calls Try.prog 55 #[va', vb'] w' (Ret (.nat (x' * y')) w')) : Calls Try.prog 55 #[va, vb] w (Ret (.nat (x * y)) w) := by
  have hl := hs; unfold LIM at hl
  obtain ⟨k, hk⟩ : ∃ k, k = (max (nw x) (nw y) + 1) / 2 := ⟨_, rfl⟩
  refine calls_enter (a := ⟨List.toArray ([va, vb] ++ us 72), []⟩) Try.func55 rfl (by kernel_rfl) ?_
  have NL : NoLook (bodyPost Try.prog Try.f55 (Ret (.nat (x * y)) w)) := noLook_body
  refine wp_seq ?_
  refine rg (fun c d v a w h => NL c d v a w h) [(2, .ptr 31 (.nat (x))), (3, .ptr 31 (.nat (y))), (4, .ptr 31 (.nat (0)))] [0, 1, 2] [] [] 74 3 ?_ ?_
  · refine sn [] (fun w1 hw1 => .fin (yld_newBox rfl rfl (MR.mono _ hw1 ha))) ?_
    refine sn [] (fun w1 hw1 => .fin (yld_newBox rfl rfl (MR.mono _ hw1 hb))) ?_
    exact sn [] (fun w1 hw1 => .fin (yld_newAlloc rfl zeroNat zNat)) (.nil _ _)
  rintro w1 hw1 _ ⟨b2, rfl, B2⟩ _ ⟨b3, rfl, B3⟩ _ ⟨b4, rfl, B4⟩ hN
  have W1 : Grow w w1 := (Grow.refl w).trans hw1
  have n_b2_b4 : b2 ≠ b4 := hN.2.1 2 (by simp)
  have n_b3_b4 : b3 ≠ b4 := hN.2.2.2.1 2 (by simp)
  have g_b4 : w.heap.size ≤ b4 := Nat.le_trans (Grow.refl w).size hN.2.2.2.2.1.1
  clear hN
  refine fr ([va, vb, pt b2, pt b3, pt b4] ++ us 69) ?_
  refine nx ?_
  refine wp_seq ?_
  refine wp_seq ?_
  refine rg (fun c d v a w h => NL c d v a w h) [(15, .nat (x)), (16, .eq (.int .i64 (((nw x : Nat) : Int)))), (17, .nat (y)), (18, .eq (.int .i64 (((nw y : Nat) : Int)))), (19, .eq (.int .i64 (min (((nw x : Nat) : Int) : Int) (((nw y : Nat) : Int) : Int)))), (20, .eq (.bool (decide ((min (((nw x : Nat) : Int) : Int) (((nw y : Nat) : Int) : Int) : Int) < (8 : Int)))))] [] [] [] 74 6 ?_ ?_
  · refine so [] (fun w2 hw2 => .fin (yld_loadBox rfl rfl aggNat (B2.grow hw2) (shNat _))) ?_
    refine so [0] (fun w2 hw2 => by rintro v15 h15; exact .fin (yld_call rfl cal_nat_Nat_Len rfl (cNatLen h15))) ?_
    refine so [] (fun w2 hw2 => .fin (yld_loadBox rfl rfl aggNat (B3.grow hw2) (shNat _))) ?_
    refine so [2] (fun w2 hw2 => by rintro v17 h17; exact .fin (yld_call rfl cal_nat_Nat_Len rfl (cNatLen h17))) ?_
    refine so [1, 3] (fun w2 hw2 => by rintro _ rfl _ rfl; exact .fin (yld_min rfl rfl rfl ⟨Grow.refl _, rfl⟩)) ?_
    exact so [4] (fun w2 hw2 => by rintro _ rfl; exact .fin (yld_lss rfl rfl rfl ⟨Grow.refl _, rfl⟩)) (.nil _ _)
  rintro w2 hw2 v15 - v16 - v17 - v18 - v19 - _ rfl -
  have W2 : Grow w w2 := W1.trans hw2
  replace B2 := B2.grow hw2
  replace B3 := B3.grow hw2
  replace B4 := B4.grow hw2
  refine fr ([va, vb, pt b2, pt b3, pt b4, u, u, u, u, u, u, u, u, u, u, v15, v16, v17, v18, v19, .bool (decide ((min (((nw x : Nat) : Int) : Int) (((nw y : Nat) : Int) : Int) : Int) < (8 : Int)))] ++ us 53) ?_
  refine nx ?_
  refine wp_cond_split (t := decide ((min (((nw x : Nat) : Int) : Int) (((nw y : Nat) : Int) : Int) : Int) < (8 : Int))) rfl (fun hc1 => ?_) (fun hc1 => ?_)
  · refine wp_seq ?_
    refine rg (fun c d v a w h => NL c d v a w h) [(21, .nat (x)), (22, .nat (y)), (23, .nat (x * y))] [] [] [] 74 3 ?_ ?_
    · refine so [] (fun w3 hw3 => .fin (yld_loadBox rfl rfl aggNat (B2.grow hw3) (shNat _))) ?_
      refine so [] (fun w3 hw3 => .fin (yld_loadBox rfl rfl aggNat (B3.grow hw3) (shNat _))) ?_
      exact so [0, 1] (fun w3 hw3 => by rintro v21 h21 v22 h22; exact .fin (yld_call rfl cal_prod_school rfl (cSchool h21 h22 (by omega)))) (.nil _ _)
    rintro w3 hw3 v21 - v22 - v23 h23 -
    have W3 : Grow w w3 := W2.trans hw3
    replace B2 := B2.grow hw3
    replace B3 := B3.grow hw3
    replace B4 := B4.grow hw3
    have KK : Kept [] w3 w3 := fun _ _ => rfl
    refine fr ([va, vb, pt b2, pt b3, pt b4, u, u, u, u, u, u, u, u, u, u, v15, v16, v17, v18, v19, .bool (decide ((min (((nw x : Nat) : Int) : Int) (((nw y : Nat) : Int) : Int) : Int) < (8 : Int))), v21, v22, v23] ++ us 50) ?_
    change wpListS _ _ _ _ [_] ⟨_, []⟩ _
    refine wpListS_yld rfl ?_
    refine yld_storeBox (R' := .nat (x * y)) (b := b4) rfl rfl aggNat.size B4 (shNat _) h23 (shNat _) (St.nat _) (by decide) g_b4 fun w4 P4 E4 B' => ⟨fun _ => Kept.put KK P4 (fun _ hk => (by cases hk)), ?_⟩
    replace KK := Kept.put KK P4 (fun _ hk => (by cases hk))
    have W4 : Grow w w4 := W3.put P4 g_b4
    replace B2 := B2.put (St.nat _) P4 E4 n_b2_b4
    replace B3 := B3.put (St.nat _) P4 E4 n_b3_b4
    replace B4 := B'; clear B'
    refine nx ?_
    have BR : Box w4 b4 31 (.nat (x * y)) := B4
    refine wp_ret ?_
    change bodyPost Try.prog Try.f55 (Ret (.nat (x * y)) w) .ret _ _
    exact body_cell (b := b4) rfl rfl aggNat BR (shNat _) rfl W4
  · have hmin := of_decide_eq_false hc1
    have hx8 : 8 ≤ nw x := by omega
    have hy8 : 8 ≤ nw y := by omega
    have MF := mul_facts hk hx8 hy8 hs
    have hk0 := MF.k0
    refine wp_skip ?_
    change Code.wp _ _ _ ⟨_, []⟩ _
    refine wp_seq ?_
    refine rg (fun c d v a w h => NL c d v a w h) [(24, .nat (x)), (25, .eq (.int .i64 (((nw x : Nat) : Int)))), (26, .nat (y)), (27, .eq (.int .i64 (((nw y : Nat) : Int)))), (28, .eq (.int .i64 (max (((nw x : Nat) : Int) : Int) (((nw y : Nat) : Int) : Int)))), (29, .eq (.int .i64 ((max (((nw x : Nat) : Int) : Int) (((nw y : Nat) : Int) : Int)) + 1))), (30, .eq (.int .i64 (((k : Nat) : Int)))), (5, .eq (.int .i64 (((k : Nat) : Int))))] [] [] [] 74 8 ?_ ?_
    · refine so [] (fun w5 hw5 => .fin (yld_loadBox rfl rfl aggNat (B2.grow hw5) (shNat _))) ?_
      refine so [0] (fun w5 hw5 => by rintro v24 h24; exact .fin (yld_call rfl cal_nat_Nat_Len rfl (cNatLen h24))) ?_
      refine so [] (fun w5 hw5 => .fin (yld_loadBox rfl rfl aggNat (B3.grow hw5) (shNat _))) ?_
      refine so [2] (fun w5 hw5 => by rintro v26 h26; exact .fin (yld_call rfl cal_nat_Nat_Len rfl (cNatLen h26))) ?_
      refine so [1, 3] (fun w5 hw5 => by rintro _ rfl _ rfl; exact .fin (yld_max rfl rfl rfl ⟨Grow.refl _, rfl⟩)) ?_
      refine so [4] (fun w5 hw5 => by rintro _ rfl; exact .fin (yld_add rfl rfl rfl (r := (max (((nw x : Nat) : Int) : Int) (((nw y : Nat) : Int) : Int)) + 1) (by rw [IntKind.wrap_i64]; omega) ⟨Grow.refl _, rfl⟩)) ?_
      refine so [5] (fun w5 hw5 => by rintro _ rfl; exact .fin (yld_quo rfl rfl rfl (r := ((k : Nat) : Int)) (by decide) (by rw [IntKind.wrap_i64, Int.tdiv_eq_ediv_of_nonneg (by omega)]; omega) ⟨Grow.refl _, rfl⟩)) ?_
      exact so [6] (fun w5 hw5 => by rintro _ rfl; exact .fin (yld_assign rfl ⟨Grow.refl _, rfl⟩)) (.nil _ _)
    rintro w5 hw5 v24 - v25 - v26 - v27 - v28 - v29 - v30 - _ rfl -
    have W5 : Grow w w5 := W2.trans hw5
    replace B2 := B2.grow hw5
    replace B3 := B3.grow hw5
    replace B4 := B4.grow hw5
    refine fr ([va, vb, pt b2, pt b3, pt b4, It k, u, u, u, u, u, u, u, u, u, v15, v16, v17, v18, v19, .bool (decide ((min (((nw x : Nat) : Int) : Int) (((nw y : Nat) : Int) : Int) : Int) < (8 : Int))), u, u, u, v24, v25, v26, v27, v28, v29, v30] ++ us 43) ?_
    refine nx ?_
    refine wp_seq ?_
    refine rg (fun c d v a w h => NL c d v a w h) [(32, .nat (x)), (33, .eq (.int .i64 (((k : Nat) : Int)))), (34, .tup2 (.nat (x % 2 ^ (64 * k))) (.nat (x / 2 ^ (64 * k)))), (31, .tup2 (.nat (x % 2 ^ (64 * k))) (.nat (x / 2 ^ (64 * k)))), (35, .nat (x % 2 ^ (64 * k))), (36, .nat (x / 2 ^ (64 * k))), (6, .ptr 31 (.nat (0))), (7, .ptr 31 (.nat (0)))] [6, 7] [5] [] 74 8 ?_ ?_
    · refine so [] (fun w6 hw6 => .fin (yld_loadBox rfl rfl aggNat (B2.grow hw6) (shNat _))) ?_
      refine so [] (fun w6 hw6 => .fin (yld_move rfl ⟨Grow.refl _, rfl⟩)) ?_
      refine so [0, 1] (fun w6 hw6 => by rintro v32 h32 _ rfl; exact .fin (yld_call rfl cal_prod_cut rfl (cCut (k := k) h32 (by omega) (by omega)))) ?_
      refine so [2] (fun w6 hw6 => by rintro _ ⟨x34_0, x34_1, rfl, hx34_0, hx34_1⟩; exact .fin (yld_move rfl ⟨Grow.refl _, ⟨x34_0, x34_1, rfl, hx34_0, hx34_1⟩⟩)) ?_
      refine so [3] (fun w6 hw6 => by rintro _ ⟨x31_0, x31_1, rfl, hx31_0, hx31_1⟩; exact .fin (yld_extract rfl rfl rfl ⟨Grow.refl _, hx31_0⟩)) ?_
      refine sl [3] (fun w6 hw6 => by rintro _ ⟨x31_0, x31_1, rfl, hx31_0, hx31_1⟩; exact .fin (⟨_, fun w2 _ => pure_extract rfl rfl rfl w2, hx31_1⟩)) ?_
      refine sn [] (fun w6 hw6 => .fin (yld_newAlloc rfl zeroNat zNat)) ?_
      exact sn [] (fun w6 hw6 => .fin (yld_newAlloc rfl zeroNat zNat)) (.nil _ _)
    rintro w6 hw6 v32 - v33 - v34 - v31 - v35 h35 v36 h36 _ ⟨b6, rfl, B6⟩ _ ⟨b7, rfl, B7⟩ hN
    have W6 : Grow w w6 := W5.trans hw6
    have g_b6 : w.heap.size ≤ b6 := Nat.le_trans W5.size hN.1.1
    have n_b3_b6 : b3 ≠ b6 := Nat.ne_of_lt (Nat.lt_of_lt_of_le B3.lt hN.1.1)
    have n_b4_b6 : b4 ≠ b6 := Nat.ne_of_lt (Nat.lt_of_lt_of_le B4.lt hN.1.1)
    have n_b6_b7 : b6 ≠ b7 := hN.2.1 7 (by simp)
    have g_b7 : w.heap.size ≤ b7 := Nat.le_trans W5.size hN.2.2.1.1
    have n_b3_b7 : b3 ≠ b7 := Nat.ne_of_lt (Nat.lt_of_lt_of_le B3.lt hN.2.2.1.1)
    have n_b4_b7 : b4 ≠ b7 := Nat.ne_of_lt (Nat.lt_of_lt_of_le B4.lt hN.2.2.1.1)
    clear hN
    replace B3 := B3.grow hw6
    replace B4 := B4.grow hw6
    have KK : Kept [] w6 w6 := fun _ _ => rfl
    refine fr ([va, vb, pt b2, pt b3, pt b4, It k, pt b6, pt b7, u, u, u, u, u, u, u, v15, v16, v17, v18, v19, .bool (decide ((min (((nw x : Nat) : Int) : Int) (((nw y : Nat) : Int) : Int) : Int) < (8 : Int))), u, u, u, v24, v25, v26, v27, v28, v29, v30, v31, v32, v33, v34, v35, v36] ++ us 37) ?_
    change wpListS _ _ _ _ [_, _] ⟨_, []⟩ _
    refine wpListS_yld rfl ?_
    refine yld_storeBox (R' := .nat (x % 2 ^ (64 * k))) (b := b6) rfl rfl aggNat.size B6 (shNat _) h35 (shNat _) (St.nat _) (by decide) g_b6 fun w7 P7 E7 B' => ⟨fun _ => Kept.put KK P7 (fun _ hk => (by cases hk)), ?_⟩
    replace KK := Kept.put KK P7 (fun _ hk => (by cases hk))
    have W7 : Grow w w7 := W6.put P7 g_b6
    replace B3 := B3.put (St.nat _) P7 E7 n_b3_b6
    replace B4 := B4.put (St.nat _) P7 E7 n_b4_b6
    replace B7 := B7.put (St.nat _) P7 E7 (Ne.symm n_b6_b7)
    replace B6 := B'; clear B'
    replace h36 := MR.put h36 (St.nat _) E7
    change wpListS _ _ _ _ [_] ⟨_, []⟩ _
    refine wpListS_yld rfl ?_
    refine yld_storeBox (R' := .nat (x / 2 ^ (64 * k))) (b := b7) rfl rfl aggNat.size B7 (shNat _) h36 (shNat _) (St.nat _) (by decide) g_b7 fun w8 P8 E8 B' => ⟨fun _ => Kept.put KK P8 (fun _ hk => (by cases hk)), ?_⟩
    replace KK := Kept.put KK P8 (fun _ hk => (by cases hk))
    have W8 : Grow w w8 := W7.put P8 g_b7
    replace B3 := B3.put (St.nat _) P8 E8 n_b3_b7
    replace B4 := B4.put (St.nat _) P8 E8 n_b4_b7
    replace B6 := B6.put (St.nat _) P8 E8 n_b6_b7
    replace B7 := B'; clear B'
    refine nx ?_
    refine wp_seq ?_
    refine rg (fun c d v a w h => NL c d v a w h) [(38, .nat (y)), (39, .eq (.int .i64 (((k : Nat) : Int)))), (40, .tup2 (.nat (y % 2 ^ (64 * k))) (.nat (y / 2 ^ (64 * k)))), (37, .tup2 (.nat (y % 2 ^ (64 * k))) (.nat (y / 2 ^ (64 * k)))), (41, .nat (y % 2 ^ (64 * k))), (42, .nat (y / 2 ^ (64 * k))), (8, .ptr 31 (.nat (0))), (9, .ptr 31 (.nat (0)))] [6, 7] [5] [] 74 8 ?_ ?_
    · refine so [] (fun w9 hw9 => .fin (yld_loadBox rfl rfl aggNat (B3.grow hw9) (shNat _))) ?_
      refine so [] (fun w9 hw9 => .fin (yld_move rfl ⟨Grow.refl _, rfl⟩)) ?_
      refine so [0, 1] (fun w9 hw9 => by rintro v38 h38 _ rfl; exact .fin (yld_call rfl cal_prod_cut rfl (cCut (k := k) h38 (by omega) (by omega)))) ?_
      refine so [2] (fun w9 hw9 => by rintro _ ⟨x40_0, x40_1, rfl, hx40_0, hx40_1⟩; exact .fin (yld_move rfl ⟨Grow.refl _, ⟨x40_0, x40_1, rfl, hx40_0, hx40_1⟩⟩)) ?_
      refine so [3] (fun w9 hw9 => by rintro _ ⟨x37_0, x37_1, rfl, hx37_0, hx37_1⟩; exact .fin (yld_extract rfl rfl rfl ⟨Grow.refl _, hx37_0⟩)) ?_
      refine sl [3] (fun w9 hw9 => by rintro _ ⟨x37_0, x37_1, rfl, hx37_0, hx37_1⟩; exact .fin (⟨_, fun w2 _ => pure_extract rfl rfl rfl w2, hx37_1⟩)) ?_
      refine sn [] (fun w9 hw9 => .fin (yld_newAlloc rfl zeroNat zNat)) ?_
      exact sn [] (fun w9 hw9 => .fin (yld_newAlloc rfl zeroNat zNat)) (.nil _ _)
    rintro w9 hw9 v38 - v39 - v40 - v37 - v41 h41 v42 h42 _ ⟨b8, rfl, B8⟩ _ ⟨b9, rfl, B9⟩ hN
    have W9 : Grow w w9 := W8.trans hw9
    have g_b8 : w.heap.size ≤ b8 := Nat.le_trans W8.size hN.1.1
    have n_b4_b8 : b4 ≠ b8 := Nat.ne_of_lt (Nat.lt_of_lt_of_le B4.lt hN.1.1)
    have n_b6_b8 : b6 ≠ b8 := Nat.ne_of_lt (Nat.lt_of_lt_of_le B6.lt hN.1.1)
    have n_b7_b8 : b7 ≠ b8 := Nat.ne_of_lt (Nat.lt_of_lt_of_le B7.lt hN.1.1)
    have n_b8_b9 : b8 ≠ b9 := hN.2.1 7 (by simp)
    have g_b9 : w.heap.size ≤ b9 := Nat.le_trans W8.size hN.2.2.1.1
    have n_b4_b9 : b4 ≠ b9 := Nat.ne_of_lt (Nat.lt_of_lt_of_le B4.lt hN.2.2.1.1)
    have n_b6_b9 : b6 ≠ b9 := Nat.ne_of_lt (Nat.lt_of_lt_of_le B6.lt hN.2.2.1.1)
    have n_b7_b9 : b7 ≠ b9 := Nat.ne_of_lt (Nat.lt_of_lt_of_le B7.lt hN.2.2.1.1)
    clear hN
    replace B4 := B4.grow hw9
    replace B6 := B6.grow hw9
    replace B7 := B7.grow hw9
    have KK : Kept [] w9 w9 := fun _ _ => rfl
    refine fr ([va, vb, pt b2, pt b3, pt b4, It k, pt b6, pt b7, pt b8, pt b9, u, u, u, u, u, v15, v16, v17, v18, v19, .bool (decide ((min (((nw x : Nat) : Int) : Int) (((nw y : Nat) : Int) : Int) : Int) < (8 : Int))), u, u, u, v24, v25, v26, v27, v28, v29, v30, v31, v32, v33, v34, v35, v36, v37, v38, v39, v40, v41, v42] ++ us 31) ?_
    change wpListS _ _ _ _ [_, _] ⟨_, []⟩ _
    refine wpListS_yld rfl ?_
    refine yld_storeBox (R' := .nat (y % 2 ^ (64 * k))) (b := b8) rfl rfl aggNat.size B8 (shNat _) h41 (shNat _) (St.nat _) (by decide) g_b8 fun w10 P10 E10 B' => ⟨fun _ => Kept.put KK P10 (fun _ hk => (by cases hk)), ?_⟩
    replace KK := Kept.put KK P10 (fun _ hk => (by cases hk))
    have W10 : Grow w w10 := W9.put P10 g_b8
    replace B4 := B4.put (St.nat _) P10 E10 n_b4_b8
    replace B6 := B6.put (St.nat _) P10 E10 n_b6_b8
    replace B7 := B7.put (St.nat _) P10 E10 n_b7_b8
    replace B9 := B9.put (St.nat _) P10 E10 (Ne.symm n_b8_b9)
    replace B8 := B'; clear B'
    replace h42 := MR.put h42 (St.nat _) E10
    change wpListS _ _ _ _ [_] ⟨_, []⟩ _
    refine wpListS_yld rfl ?_
    refine yld_storeBox (R' := .nat (y / 2 ^ (64 * k))) (b := b9) rfl rfl aggNat.size B9 (shNat _) h42 (shNat _) (St.nat _) (by decide) g_b9 fun w11 P11 E11 B' => ⟨fun _ => Kept.put KK P11 (fun _ hk => (by cases hk)), ?_⟩
    replace KK := Kept.put KK P11 (fun _ hk => (by cases hk))
    have W11 : Grow w w11 := W10.put P11 g_b9
    replace B4 := B4.put (St.nat _) P11 E11 n_b4_b9
    replace B6 := B6.put (St.nat _) P11 E11 n_b6_b9
    replace B7 := B7.put (St.nat _) P11 E11 n_b7_b9
    replace B8 := B8.put (St.nat _) P11 E11 n_b8_b9
    replace B9 := B'; clear B'
    refine nx ?_
    refine wp_seq ?_
    refine rg (fun c d v a w h => NL c d v a w h) [(43, .nat (x % 2 ^ (64 * k))), (44, .nat (y % 2 ^ (64 * k))), (45, .nat ((x % 2 ^ (64 * k)) * (y % 2 ^ (64 * k)))), (46, .nat (x / 2 ^ (64 * k))), (47, .nat (y / 2 ^ (64 * k))), (48, .nat ((x / 2 ^ (64 * k)) * (y / 2 ^ (64 * k)))), (10, .ptr 31 (.nat (0))), (11, .ptr 31 (.nat (0)))] [6, 7] [] [] 74 8 ?_ ?_
    · refine so [] (fun w12 hw12 => .fin (yld_loadBox rfl rfl aggNat (B6.grow hw12) (shNat _))) ?_
      refine so [] (fun w12 hw12 => .fin (yld_loadBox rfl rfl aggNat (B8.grow hw12) (shNat _))) ?_
      refine so [0, 1] (fun w12 hw12 => by rintro v43 h43 v44 h44; exact .fin (yld_call rfl cal_prod_Mul rfl (ih MF.m1 h43 h44 MF.l1))) ?_
      refine so [] (fun w12 hw12 => .fin (yld_loadBox rfl rfl aggNat (B7.grow hw12) (shNat _))) ?_
      refine so [] (fun w12 hw12 => .fin (yld_loadBox rfl rfl aggNat (B9.grow hw12) (shNat _))) ?_
      refine so [3, 4] (fun w12 hw12 => by rintro v46 h46 v47 h47; exact .fin (yld_call rfl cal_prod_Mul rfl (ih MF.m2 h46 h47 MF.l2))) ?_
      refine sn [] (fun w12 hw12 => .fin (yld_newAlloc rfl zeroNat zNat)) ?_
      exact sn [] (fun w12 hw12 => .fin (yld_newAlloc rfl zeroNat zNat)) (.nil _ _)
    rintro w12 hw12 v43 - v44 - v45 h45 v46 - v47 - v48 h48 _ ⟨b10, rfl, B10⟩ _ ⟨b11, rfl, B11⟩ hN
    have W12 : Grow w w12 := W11.trans hw12
    have g_b10 : w.heap.size ≤ b10 := Nat.le_trans W11.size hN.1.1
    have n_b4_b10 : b4 ≠ b10 := Nat.ne_of_lt (Nat.lt_of_lt_of_le B4.lt hN.1.1)
    have n_b6_b10 : b6 ≠ b10 := Nat.ne_of_lt (Nat.lt_of_lt_of_le B6.lt hN.1.1)
    have n_b7_b10 : b7 ≠ b10 := Nat.ne_of_lt (Nat.lt_of_lt_of_le B7.lt hN.1.1)
    have n_b8_b10 : b8 ≠ b10 := Nat.ne_of_lt (Nat.lt_of_lt_of_le B8.lt hN.1.1)
    have n_b9_b10 : b9 ≠ b10 := Nat.ne_of_lt (Nat.lt_of_lt_of_le B9.lt hN.1.1)
    have n_b10_b11 : b10 ≠ b11 := hN.2.1 7 (by simp)
    have g_b11 : w.heap.size ≤ b11 := Nat.le_trans W11.size hN.2.2.1.1
    have n_b4_b11 : b4 ≠ b11 := Nat.ne_of_lt (Nat.lt_of_lt_of_le B4.lt hN.2.2.1.1)
    have n_b6_b11 : b6 ≠ b11 := Nat.ne_of_lt (Nat.lt_of_lt_of_le B6.lt hN.2.2.1.1)
    have n_b7_b11 : b7 ≠ b11 := Nat.ne_of_lt (Nat.lt_of_lt_of_le B7.lt hN.2.2.1.1)
    have n_b8_b11 : b8 ≠ b11 := Nat.ne_of_lt (Nat.lt_of_lt_of_le B8.lt hN.2.2.1.1)
    have n_b9_b11 : b9 ≠ b11 := Nat.ne_of_lt (Nat.lt_of_lt_of_le B9.lt hN.2.2.1.1)
    clear hN
    replace B4 := B4.grow hw12
    replace B6 := B6.grow hw12
    replace B7 := B7.grow hw12
    replace B8 := B8.grow hw12
    replace B9 := B9.grow hw12
    have KK : Kept [] w12 w12 := fun _ _ => rfl
    refine fr ([va, vb, pt b2, pt b3, pt b4, It k, pt b6, pt b7, pt b8, pt b9, pt b10, pt b11, u, u, u, v15, v16, v17, v18, v19, .bool (decide ((min (((nw x : Nat) : Int) : Int) (((nw y : Nat) : Int) : Int) : Int) < (8 : Int))), u, u, u, v24, v25, v26, v27, v28, v29, v30, v31, v32, v33, v34, v35, v36, v37, v38, v39, v40, v41, v42, v43, v44, v45, v46, v47, v48] ++ us 25) ?_
    change wpListS _ _ _ _ [_, _] ⟨_, []⟩ _
    refine wpListS_yld rfl ?_
    refine yld_storeBox (R' := .nat ((x % 2 ^ (64 * k)) * (y % 2 ^ (64 * k)))) (b := b10) rfl rfl aggNat.size B10 (shNat _) h45 (shNat _) (St.nat _) (by decide) g_b10 fun w13 P13 E13 B' => ⟨fun _ => Kept.put KK P13 (fun _ hk => (by cases hk)), ?_⟩
    replace KK := Kept.put KK P13 (fun _ hk => (by cases hk))
    have W13 : Grow w w13 := W12.put P13 g_b10
    replace B4 := B4.put (St.nat _) P13 E13 n_b4_b10
    replace B6 := B6.put (St.nat _) P13 E13 n_b6_b10
    replace B7 := B7.put (St.nat _) P13 E13 n_b7_b10
    replace B8 := B8.put (St.nat _) P13 E13 n_b8_b10
    replace B9 := B9.put (St.nat _) P13 E13 n_b9_b10
    replace B11 := B11.put (St.nat _) P13 E13 (Ne.symm n_b10_b11)
    replace B10 := B'; clear B'
    replace h48 := MR.put h48 (St.nat _) E13
    change wpListS _ _ _ _ [_] ⟨_, []⟩ _
    refine wpListS_yld rfl ?_
    refine yld_storeBox (R' := .nat ((x / 2 ^ (64 * k)) * (y / 2 ^ (64 * k)))) (b := b11) rfl rfl aggNat.size B11 (shNat _) h48 (shNat _) (St.nat _) (by decide) g_b11 fun w14 P14 E14 B' => ⟨fun _ => Kept.put KK P14 (fun _ hk => (by cases hk)), ?_⟩
    replace KK := Kept.put KK P14 (fun _ hk => (by cases hk))
    have W14 : Grow w w14 := W13.put P14 g_b11
    replace B4 := B4.put (St.nat _) P14 E14 n_b4_b11
    replace B6 := B6.put (St.nat _) P14 E14 n_b6_b11
    replace B7 := B7.put (St.nat _) P14 E14 n_b7_b11
    replace B8 := B8.put (St.nat _) P14 E14 n_b8_b11
    replace B9 := B9.put (St.nat _) P14 E14 n_b9_b11
    replace B10 := B10.put (St.nat _) P14 E14 n_b10_b11
    replace B11 := B'; clear B'
    refine nx ?_
    refine wp_seq ?_
    refine rg (fun c d v a w h => NL c d v a w h) [(49, .nat (x % 2 ^ (64 * k))), (50, .nat (x / 2 ^ (64 * k))), (51, .nat ((x % 2 ^ (64 * k)) + (x / 2 ^ (64 * k)))), (52, .nat (y % 2 ^ (64 * k))), (53, .nat (y / 2 ^ (64 * k))), (54, .nat ((y % 2 ^ (64 * k)) + (y / 2 ^ (64 * k)))), (55, .nat (((x % 2 ^ (64 * k)) + (x / 2 ^ (64 * k))) * ((y % 2 ^ (64 * k)) + (y / 2 ^ (64 * k))))), (12, .ptr 31 (.nat (0)))] [7] [] [] 74 8 ?_ ?_
    · refine so [] (fun w15 hw15 => .fin (yld_loadBox rfl rfl aggNat (B6.grow hw15) (shNat _))) ?_
      refine so [] (fun w15 hw15 => .fin (yld_loadBox rfl rfl aggNat (B7.grow hw15) (shNat _))) ?_
      refine so [0, 1] (fun w15 hw15 => by rintro v49 h49 v50 h50; exact .fin (yld_call rfl cal_nat_Add rfl (cNatAdd h49 h50 MF.s1))) ?_
      refine so [] (fun w15 hw15 => .fin (yld_loadBox rfl rfl aggNat (B8.grow hw15) (shNat _))) ?_
      refine so [] (fun w15 hw15 => .fin (yld_loadBox rfl rfl aggNat (B9.grow hw15) (shNat _))) ?_
      refine so [3, 4] (fun w15 hw15 => by rintro v52 h52 v53 h53; exact .fin (yld_call rfl cal_nat_Add rfl (cNatAdd h52 h53 MF.s2))) ?_
      refine so [2, 5] (fun w15 hw15 => by rintro v51 h51 v54 h54; exact .fin (yld_call rfl cal_prod_Mul rfl (ih MF.m3 h51 h54 MF.l3))) ?_
      exact sn [] (fun w15 hw15 => .fin (yld_newAlloc rfl zeroNat zNat)) (.nil _ _)
    rintro w15 hw15 v49 - v50 - v51 - v52 - v53 - v54 - v55 h55 _ ⟨b12, rfl, B12⟩ hN
    have W15 : Grow w w15 := W14.trans hw15
    have g_b12 : w.heap.size ≤ b12 := Nat.le_trans W14.size hN.1.1
    have n_b4_b12 : b4 ≠ b12 := Nat.ne_of_lt (Nat.lt_of_lt_of_le B4.lt hN.1.1)
    have n_b10_b12 : b10 ≠ b12 := Nat.ne_of_lt (Nat.lt_of_lt_of_le B10.lt hN.1.1)
    have n_b11_b12 : b11 ≠ b12 := Nat.ne_of_lt (Nat.lt_of_lt_of_le B11.lt hN.1.1)
    clear hN
    replace B4 := B4.grow hw15
    replace B10 := B10.grow hw15
    replace B11 := B11.grow hw15
    have KK : Kept [] w15 w15 := fun _ _ => rfl
    refine fr ([va, vb, pt b2, pt b3, pt b4, It k, pt b6, pt b7, pt b8, pt b9, pt b10, pt b11, pt b12, u, u, v15, v16, v17, v18, v19, .bool (decide ((min (((nw x : Nat) : Int) : Int) (((nw y : Nat) : Int) : Int) : Int) < (8 : Int))), u, u, u, v24, v25, v26, v27, v28, v29, v30, v31, v32, v33, v34, v35, v36, v37, v38, v39, v40, v41, v42, v43, v44, v45, v46, v47, v48, v49, v50, v51, v52, v53, v54, v55] ++ us 18) ?_
    change wpListS _ _ _ _ [_] ⟨_, []⟩ _
    refine wpListS_yld rfl ?_
    refine yld_storeBox (R' := .nat (((x % 2 ^ (64 * k)) + (x / 2 ^ (64 * k))) * ((y % 2 ^ (64 * k)) + (y / 2 ^ (64 * k))))) (b := b12) rfl rfl aggNat.size B12 (shNat _) h55 (shNat _) (St.nat _) (by decide) g_b12 fun w16 P16 E16 B' => ⟨fun _ => Kept.put KK P16 (fun _ hk => (by cases hk)), ?_⟩
    replace KK := Kept.put KK P16 (fun _ hk => (by cases hk))
    have W16 : Grow w w16 := W15.put P16 g_b12
    replace B4 := B4.put (St.nat _) P16 E16 n_b4_b12
    replace B10 := B10.put (St.nat _) P16 E16 n_b10_b12
    replace B11 := B11.put (St.nat _) P16 E16 n_b11_b12
    replace B12 := B'; clear B'
    refine nx ?_
    refine wp_seq ?_
    refine rg (fun c d v a w h => NL c d v a w h) [(57, .nat (((x % 2 ^ (64 * k)) + (x / 2 ^ (64 * k))) * ((y % 2 ^ (64 * k)) + (y / 2 ^ (64 * k))))), (58, .nat ((x % 2 ^ (64 * k)) * (y % 2 ^ (64 * k)))), (59, .nat ((x / 2 ^ (64 * k)) * (y / 2 ^ (64 * k)))), (60, .nat (((x % 2 ^ (64 * k)) * (y % 2 ^ (64 * k))) + ((x / 2 ^ (64 * k)) * (y / 2 ^ (64 * k))))), (61, .tup2 (.nat ((((x % 2 ^ (64 * k)) + (x / 2 ^ (64 * k))) * ((y % 2 ^ (64 * k)) + (y / 2 ^ (64 * k)))) - (((x % 2 ^ (64 * k)) * (y % 2 ^ (64 * k))) + ((x / 2 ^ (64 * k)) * (y / 2 ^ (64 * k)))))) (.eq (.bool (decide ((((x % 2 ^ (64 * k)) * (y % 2 ^ (64 * k))) + ((x / 2 ^ (64 * k)) * (y / 2 ^ (64 * k)))) ≤ (((x % 2 ^ (64 * k)) + (x / 2 ^ (64 * k))) * ((y % 2 ^ (64 * k)) + (y / 2 ^ (64 * k))))))))), (56, .tup2 (.nat ((((x % 2 ^ (64 * k)) + (x / 2 ^ (64 * k))) * ((y % 2 ^ (64 * k)) + (y / 2 ^ (64 * k)))) - (((x % 2 ^ (64 * k)) * (y % 2 ^ (64 * k))) + ((x / 2 ^ (64 * k)) * (y / 2 ^ (64 * k)))))) (.eq (.bool (decide ((((x % 2 ^ (64 * k)) * (y % 2 ^ (64 * k))) + ((x / 2 ^ (64 * k)) * (y / 2 ^ (64 * k)))) ≤ (((x % 2 ^ (64 * k)) + (x / 2 ^ (64 * k))) * ((y % 2 ^ (64 * k)) + (y / 2 ^ (64 * k))))))))), (62, .nat ((((x % 2 ^ (64 * k)) + (x / 2 ^ (64 * k))) * ((y % 2 ^ (64 * k)) + (y / 2 ^ (64 * k)))) - (((x % 2 ^ (64 * k)) * (y % 2 ^ (64 * k))) + ((x / 2 ^ (64 * k)) * (y / 2 ^ (64 * k)))))), (63, .eq (.bool (decide ((((x % 2 ^ (64 * k)) * (y % 2 ^ (64 * k))) + ((x / 2 ^ (64 * k)) * (y / 2 ^ (64 * k)))) ≤ (((x % 2 ^ (64 * k)) + (x / 2 ^ (64 * k))) * ((y % 2 ^ (64 * k)) + (y / 2 ^ (64 * k)))))))), (13, .ptr 31 (.nat (0)))] [8] [7] [] 74 9 ?_ ?_
    · refine so [] (fun w17 hw17 => .fin (yld_loadBox rfl rfl aggNat (B12.grow hw17) (shNat _))) ?_
      refine so [] (fun w17 hw17 => .fin (yld_loadBox rfl rfl aggNat (B10.grow hw17) (shNat _))) ?_
      refine so [] (fun w17 hw17 => .fin (yld_loadBox rfl rfl aggNat (B11.grow hw17) (shNat _))) ?_
      refine so [1, 2] (fun w17 hw17 => by rintro v58 h58 v59 h59; exact .fin (yld_call rfl cal_nat_Add rfl (cNatAdd h58 h59 MF.s3))) ?_
      refine so [0, 3] (fun w17 hw17 => by rintro v57 h57 v60 h60; exact .fin (yld_call rfl cal_nat_Sub rfl (cNatSub h57 h60))) ?_
      refine so [4] (fun w17 hw17 => by rintro _ ⟨x61_0, x61_1, rfl, hx61_0, hx61_1⟩; exact .fin (yld_move rfl ⟨Grow.refl _, ⟨x61_0, x61_1, rfl, hx61_0, hx61_1⟩⟩)) ?_
      refine so [5] (fun w17 hw17 => by rintro _ ⟨x56_0, x56_1, rfl, hx56_0, hx56_1⟩; exact .fin (yld_extract rfl rfl rfl ⟨Grow.refl _, hx56_0⟩)) ?_
      refine sl [5] (fun w17 hw17 => by rintro _ ⟨x56_0, x56_1, rfl, hx56_0, hx56_1⟩; exact .fin (⟨_, fun w2 _ => pure_extract rfl rfl rfl w2, hx56_1⟩)) ?_
      exact sn [] (fun w17 hw17 => .fin (yld_newAlloc rfl zeroNat zNat)) (.nil _ _)
    rintro w17 hw17 v57 - v58 - v59 - v60 - v61 - v56 - v62 h62 _ rfl _ ⟨b13, rfl, B13⟩ hN
    have W17 : Grow w w17 := W16.trans hw17
    have g_b13 : w.heap.size ≤ b13 := Nat.le_trans W16.size hN.1.1
    have n_b4_b13 : b4 ≠ b13 := Nat.ne_of_lt (Nat.lt_of_lt_of_le B4.lt hN.1.1)
    have n_b10_b13 : b10 ≠ b13 := Nat.ne_of_lt (Nat.lt_of_lt_of_le B10.lt hN.1.1)
    have n_b11_b13 : b11 ≠ b13 := Nat.ne_of_lt (Nat.lt_of_lt_of_le B11.lt hN.1.1)
    clear hN
    replace B4 := B4.grow hw17
    replace B10 := B10.grow hw17
    replace B11 := B11.grow hw17
    have KK : Kept [] w17 w17 := fun _ _ => rfl
    refine fr ((va :: vb :: pt b2 :: pt b3 :: pt b4 :: It k :: pt b6 :: pt b7 :: pt b8 :: pt b9 :: pt b10 :: pt b11 :: pt b12 :: pt b13 :: u :: v15 :: v16 :: v17 :: v18 :: v19 :: .bool (decide ((min (((nw x : Nat) : Int) : Int) (((nw y : Nat) : Int) : Int) : Int) < (8 : Int))) :: u :: u :: u :: v24 :: v25 :: v26 :: v27 :: v28 :: v29 :: v30 :: v31 :: v32 :: v33 :: v34 :: v35 :: v36 :: v37 :: v38 :: v39 :: v40 :: v41 :: v42 :: v43 :: v44 :: v45 :: v46 :: v47 :: v48 :: v49 :: v50 :: v51 :: v52 :: v53 :: v54 :: v55 :: v56 :: v57 :: v58 :: v59 :: v60 :: v61 :: v62 :: .bool (decide ((((x % 2 ^ (64 * k)) * (y % 2 ^ (64 * k))) + ((x / 2 ^ (64 * k)) * (y / 2 ^ (64 * k)))) ≤ (((x % 2 ^ (64 * k)) + (x / 2 ^ (64 * k))) * ((y % 2 ^ (64 * k)) + (y / 2 ^ (64 * k)))))) :: []) ++ us 10) ?_
    change wpListS _ _ _ _ [_, _] ⟨_, []⟩ _
    refine wpListS_yld rfl ?_
    refine yld_storeBox (R' := .nat ((((x % 2 ^ (64 * k)) + (x / 2 ^ (64 * k))) * ((y % 2 ^ (64 * k)) + (y / 2 ^ (64 * k)))) - (((x % 2 ^ (64 * k)) * (y % 2 ^ (64 * k))) + ((x / 2 ^ (64 * k)) * (y / 2 ^ (64 * k)))))) (b := b13) rfl rfl aggNat.size B13 (shNat _) h62 (shNat _) (St.nat _) (by decide) g_b13 fun w18 P18 E18 B' => ⟨fun _ => Kept.put KK P18 (fun _ hk => (by cases hk)), ?_⟩
    replace KK := Kept.put KK P18 (fun _ hk => (by cases hk))
    have W18 : Grow w w18 := W17.put P18 g_b13
    replace B4 := B4.put (St.nat _) P18 E18 n_b4_b13
    replace B10 := B10.put (St.nat _) P18 E18 n_b10_b13
    replace B11 := B11.put (St.nat _) P18 E18 n_b11_b13
    replace B13 := B'; clear B'
    change wpListS _ _ _ _ [_] ⟨_, []⟩ _
    refine wpListS_yld rfl ?_
    refine yld_assign rfl ⟨fun _ => KK, ?_⟩
    refine wpListS_nil ?_
    change Code.wp _ _ _ ⟨List.toArray (List.set _ 14 _), []⟩ _
    refine wp_seq ?_
    refine rg (fun c d v a w h => NL c d v a w h) [(64, .nat ((x % 2 ^ (64 * k)) * (y % 2 ^ (64 * k)))), (65, .nat ((((x % 2 ^ (64 * k)) + (x / 2 ^ (64 * k))) * ((y % 2 ^ (64 * k)) + (y / 2 ^ (64 * k)))) - (((x % 2 ^ (64 * k)) * (y % 2 ^ (64 * k))) + ((x / 2 ^ (64 * k)) * (y / 2 ^ (64 * k)))))), (66, .eq (.int .i64 (((k : Nat) : Int)))), (67, .nat (((((x % 2 ^ (64 * k)) + (x / 2 ^ (64 * k))) * ((y % 2 ^ (64 * k)) + (y / 2 ^ (64 * k)))) - (((x % 2 ^ (64 * k)) * (y % 2 ^ (64 * k))) + ((x / 2 ^ (64 * k)) * (y / 2 ^ (64 * k))))) * 2 ^ (64 * k))), (68, .nat ((x / 2 ^ (64 * k)) * (y / 2 ^ (64 * k)))), (69, .eq (.int .i64 (((k : Nat) : Int)))), (70, .eq (.int .i64 (((2 * k : Nat) : Int)))), (71, .nat (((x / 2 ^ (64 * k)) * (y / 2 ^ (64 * k))) * 2 ^ (64 * (2 * k)))), (72, .nat ((((((x % 2 ^ (64 * k)) + (x / 2 ^ (64 * k))) * ((y % 2 ^ (64 * k)) + (y / 2 ^ (64 * k)))) - (((x % 2 ^ (64 * k)) * (y % 2 ^ (64 * k))) + ((x / 2 ^ (64 * k)) * (y / 2 ^ (64 * k))))) * 2 ^ (64 * k)) + (((x / 2 ^ (64 * k)) * (y / 2 ^ (64 * k))) * 2 ^ (64 * (2 * k))))), (73, .nat (((x % 2 ^ (64 * k)) * (y % 2 ^ (64 * k))) + ((((((x % 2 ^ (64 * k)) + (x / 2 ^ (64 * k))) * ((y % 2 ^ (64 * k)) + (y / 2 ^ (64 * k)))) - (((x % 2 ^ (64 * k)) * (y % 2 ^ (64 * k))) + ((x / 2 ^ (64 * k)) * (y / 2 ^ (64 * k))))) * 2 ^ (64 * k)) + (((x / 2 ^ (64 * k)) * (y / 2 ^ (64 * k))) * 2 ^ (64 * (2 * k))))))] [] [] [] 74 10 ?_ ?_
    · refine so [] (fun w19 hw19 => .fin (yld_loadBox rfl rfl aggNat (B10.grow hw19) (shNat _))) ?_
      refine so [] (fun w19 hw19 => .fin (yld_loadBox rfl rfl aggNat (B13.grow hw19) (shNat _))) ?_
      refine so [] (fun w19 hw19 => .fin (yld_move rfl ⟨Grow.refl _, rfl⟩)) ?_
      refine so [1, 2] (fun w19 hw19 => by rintro v65 h65 _ rfl; exact .fin (yld_call rfl cal_prod_raised rfl (cRaised (k := k) h65 MF.r1))) ?_
      refine so [] (fun w19 hw19 => .fin (yld_loadBox rfl rfl aggNat (B11.grow hw19) (shNat _))) ?_
      refine so [] (fun w19 hw19 => .fin (yld_move rfl ⟨Grow.refl _, rfl⟩)) ?_
      refine so [5] (fun w19 hw19 => by rintro _ rfl; exact .fin (yld_mul rfl rfl rfl (r := ((2 * k : Nat) : Int)) (by rw [IntKind.wrap_i64]; omega) ⟨Grow.refl _, rfl⟩)) ?_
      refine so [4, 6] (fun w19 hw19 => by rintro v68 h68 _ rfl; exact .fin (yld_call rfl cal_prod_raised rfl (cRaised (k := 2 * k) h68 MF.r2))) ?_
      refine so [3, 7] (fun w19 hw19 => by rintro v67 h67 v71 h71; exact .fin (yld_call rfl cal_nat_Add rfl (cNatAdd h67 h71 MF.s4))) ?_
      exact so [0, 8] (fun w19 hw19 => by rintro v64 h64 v72 h72; exact .fin (yld_call rfl cal_nat_Add rfl (cNatAdd h64 h72 MF.s5))) (.nil _ _)
    rintro w19 hw19 v64 - v65 - v66 - v67 - v68 - v69 - v70 - v71 - v72 - v73 h73 -
    have W19 : Grow w w19 := W18.trans hw19
    replace B4 := B4.grow hw19
    have KK : Kept [] w19 w19 := fun _ _ => rfl
    refine fr (va :: vb :: pt b2 :: pt b3 :: pt b4 :: It k :: pt b6 :: pt b7 :: pt b8 :: pt b9 :: pt b10 :: pt b11 :: pt b12 :: pt b13 :: .bool (decide ((((x % 2 ^ (64 * k)) * (y % 2 ^ (64 * k))) + ((x / 2 ^ (64 * k)) * (y / 2 ^ (64 * k)))) ≤ (((x % 2 ^ (64 * k)) + (x / 2 ^ (64 * k))) * ((y % 2 ^ (64 * k)) + (y / 2 ^ (64 * k)))))) :: v15 :: v16 :: v17 :: v18 :: v19 :: .bool (decide ((min (((nw x : Nat) : Int) : Int) (((nw y : Nat) : Int) : Int) : Int) < (8 : Int))) :: u :: u :: u :: v24 :: v25 :: v26 :: v27 :: v28 :: v29 :: v30 :: v31 :: v32 :: v33 :: v34 :: v35 :: v36 :: v37 :: v38 :: v39 :: v40 :: v41 :: v42 :: v43 :: v44 :: v45 :: v46 :: v47 :: v48 :: v49 :: v50 :: v51 :: v52 :: v53 :: v54 :: v55 :: v56 :: v57 :: v58 :: v59 :: v60 :: v61 :: v62 :: .bool (decide ((((x % 2 ^ (64 * k)) * (y % 2 ^ (64 * k))) + ((x / 2 ^ (64 * k)) * (y / 2 ^ (64 * k)))) ≤ (((x % 2 ^ (64 * k)) + (x / 2 ^ (64 * k))) * ((y % 2 ^ (64 * k)) + (y / 2 ^ (64 * k)))))) :: v64 :: v65 :: v66 :: v67 :: v68 :: v69 :: v70 :: v71 :: v72 :: v73 :: []) ?_
    change wpListS _ _ _ _ [_] ⟨_, []⟩ _
    refine wpListS_yld rfl ?_
    refine yld_storeBox (R' := .nat (((x % 2 ^ (64 * k)) * (y % 2 ^ (64 * k))) + ((((((x % 2 ^ (64 * k)) + (x / 2 ^ (64 * k))) * ((y % 2 ^ (64 * k)) + (y / 2 ^ (64 * k)))) - (((x % 2 ^ (64 * k)) * (y % 2 ^ (64 * k))) + ((x / 2 ^ (64 * k)) * (y / 2 ^ (64 * k))))) * 2 ^ (64 * k)) + (((x / 2 ^ (64 * k)) * (y / 2 ^ (64 * k))) * 2 ^ (64 * (2 * k)))))) (b := b4) rfl rfl aggNat.size B4 (shNat _) h73 (shNat _) (St.nat _) (by decide) g_b4 fun w20 P20 E20 B' => ⟨fun _ => Kept.put KK P20 (fun _ hk => (by cases hk)), ?_⟩
    have W20 : Grow w w20 := W19.put P20 g_b4
    replace B4 := B'; clear B'
    refine nx ?_
    have BR : Box w20 b4 31 (.nat (x * y)) := (by have e : (((x % 2 ^ (64 * k)) * (y % 2 ^ (64 * k))) + ((((((x % 2 ^ (64 * k)) + (x / 2 ^ (64 * k))) * ((y % 2 ^ (64 * k)) + (y / 2 ^ (64 * k)))) - (((x % 2 ^ (64 * k)) * (y % 2 ^ (64 * k))) + ((x / 2 ^ (64 * k)) * (y / 2 ^ (64 * k))))) * 2 ^ (64 * k)) + (((x / 2 ^ (64 * k)) * (y / 2 ^ (64 * k))) * 2 ^ (64 * (2 * k)))) : Nat) = x * y := (MF.eq); rw [← e]; exact B4)
    refine wp_ret ?_
    change bodyPost Try.prog Try.f55 (Ret (.nat (x * y)) w) .ret _ _
    exact body_cell (b := b4) rfl rfl aggNat BR (shNat _) rfl W20
theorem mulAll : ∀ (N : Nat) {x y : Nat} {va vb : Value} {w : World}, max (nw x) (nw y) < N → (MR.nat x).R w va → (MR.nat y).R w vb → nw x + nw y ≤ LIM → Calls Try.prog 55 #[va, vb] w (Ret (.nat (x * y)) w)
  | 0, _, _, _, _, _, h, _, _, _ => absurd h (by omega)
  | N + 1, _, _, _, _, _, h, ha, hb, hs => mulStep ha hb hs fun hlt ha' hb' hs' => mulAll N (by omega) ha' hb' hs'
theorem cMul {x y : Nat} {va vb : Value} {w : World} (ha : (MR.nat x).R w va) (hb : (MR.nat y).R w vb) (hs : nw x + nw y ≤ LIM) : Calls Try.prog 55 #[va, vb] w (Ret (.nat (x * y)) w) := mulAll _ (Nat.lt_succ_self _) ha hb hs
end Go.Proofs.Ytngghjhmfpmilaa
