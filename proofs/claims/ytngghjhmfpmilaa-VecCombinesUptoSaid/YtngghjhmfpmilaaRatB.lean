/- package rat. -/
import Derived.Test.YtngghjhmfpmilaaRatA
import Derived.Test.YtngghjhmfpmilaaRatM2
namespace Go.Proofs.Ytngghjhmfpmilaa
open Go.RowKit
theorem cal_rat_New : Callable Try.prog 53 := callable_of Try.func53 rfl (by kernel_rfl)
theorem cal_integer_Int_Sign : Callable Try.prog 60 := callable_of Try.func60 rfl (by kernel_rfl)
theorem cal_rat_Cmp : Callable Try.prog 49 := callable_of Try.func49 rfl (by kernel_rfl)
theorem cal_rat_Add : Callable Try.prog 15 := callable_of Try.func15 rfl (by kernel_rfl)
theorem cal_rat_Mul : Callable Try.prog 58 := callable_of Try.func58 rfl (by kernel_rfl)
theorem cal_integer_Cmp : Callable Try.prog 73 := callable_of Try.func73 rfl (by kernel_rfl)
theorem cal_rat_Rat_Den : Callable Try.prog 56 := callable_of Try.func56 rfl (by kernel_rfl)
theorem cal_integer_Int_Abs : Callable Try.prog 79 := callable_of Try.func79 rfl (by kernel_rfl)
theorem cal_integer_Of : Callable Try.prog 57 := callable_of Try.func57 rfl (by kernel_rfl)
theorem cal_gcd_Reduce : Callable Try.prog 78 := callable_of Try.func78 rfl (by kernel_rfl)
theorem cal_rat_bare : Callable Try.prog 80 := callable_of Try.func80 rfl (by kernel_rfl)
theorem cal_integer_Int_Below : Callable Try.prog 81 := callable_of Try.func81 rfl (by kernel_rfl)
theorem cal_integer_Mul : Callable Try.prog 51 := callable_of Try.func51 rfl (by kernel_rfl)
theorem cal_rat_Rat_below : Callable Try.prog 52 := callable_of Try.func52 rfl (by kernel_rfl)
theorem cal_integer_Add : Callable Try.prog 50 := callable_of Try.func50 rfl (by kernel_rfl)
theorem cal_nat_Nat_Bits : Callable Try.prog 88 := callable_of Try.func88 rfl (by kernel_rfl)
theorem small_succ {x y : Nat} (h : nw x ≤ LIM) : Small (x / y + 1) := by
  have h1 := nw_mono' (Nat.div_le_self x y)
  have h2 := nw_add (x / y) 1
  have h3 : nw 1 ≤ 1 := by decide
  unfold Small
  unfold LIM at h
  omega
set_option maxRecDepth 100000 in
set_option maxHeartbeats 2000000 in
theorem cRatNew {y z : Int} {va : Value} {vb : Value} {w : World}  (ha : (MR.int (y)).R w va) (hb : (MR.int (z)).R w vb) (hsy : nw y.natAbs < 1099511627776) (hsz : nw z.natAbs < 1099511627776) : Calls Try.prog 53 #[va, vb] w (Ret (.tup2 (.rat (Rat.divInt y z)) (.eq (.bool (!decide (z = 0))))) w) := by
  have _ := hsz
  have _ := hsy
  refine calls_enter (a := ⟨List.toArray ([va, vb] ++ us 27), []⟩) Try.func53 rfl (by kernel_rfl) ?_
  have NL : NoLook (bodyPost Try.prog Try.f53 (Ret (.tup2 (.rat (Rat.divInt y z)) (.eq (.bool (!decide (z = 0))))) w)) := noLook_body
  refine wp_seq ?_
  refine rg (fun c d v a w h => NL c d v a w h) [(2, .ptr 33 (.int (y))), (3, .ptr 33 (.int (z))), (4, .ptr 35 (.rat (0))), (5, .eq (.bool (false)))] [0, 1, 2] [] [] 29 4 ?_ ?_
  · refine sn [] (fun w1 hw1 => .fin (yld_newBox rfl rfl (MR.mono _ hw1 ha))) ?_
    refine sn [] (fun w1 hw1 => .fin (yld_newBox rfl rfl (MR.mono _ hw1 hb))) ?_
    refine sn [] (fun w1 hw1 => .fin (yld_newAlloc rfl zeroRat zRat)) ?_
    exact so [] (fun w1 hw1 => .fin (yld_assign rfl ⟨Grow.refl _, rfl⟩)) (.nil _ _)
  rintro w1 hw1 _ ⟨b2, rfl, B2⟩ _ ⟨b3, rfl, B3⟩ _ ⟨b4, rfl, B4⟩ _ rfl hN
  have W1 : Grow w w1 := (Grow.refl w).trans hw1
  have n_b2_b4 : b2 ≠ b4 := hN.2.1 2 (by simp)
  have n_b3_b4 : b3 ≠ b4 := hN.2.2.2.1 2 (by simp)
  have g_b4 : w.heap.size ≤ b4 := Nat.le_trans (Grow.refl w).size hN.2.2.2.2.1.1
  clear hN
  refine fr ([va, vb, pt b2, pt b3, pt b4, .bool (false)] ++ us 23) ?_
  refine nx ?_
  refine wp_seq ?_
  refine wp_seq ?_
  refine rg (fun c d v a w h => NL c d v a w h) [(8, .int (z)), (9, .eq (.int .i64 ((z).sign))), (10, .eq (.bool (((z).sign : Int) == (0 : Int))))] [] [] [] 29 3 ?_ ?_
  · refine so [] (fun w2 hw2 => .fin (yld_loadBox rfl rfl aggInt (B3.grow hw2) (shInt _))) ?_
    refine so [0] (fun w2 hw2 => by rintro v8 h8; exact .fin (yld_call rfl cal_integer_Int_Sign rfl (cIntSign h8))) ?_
    exact so [1] (fun w2 hw2 => by rintro _ rfl; exact .fin (yld_eql rfl rfl rfl ⟨Grow.refl _, rfl⟩)) (.nil _ _)
  rintro w2 hw2 v8 - v9 - _ rfl -
  have W2 : Grow w w2 := W1.trans hw2
  replace B2 := B2.grow hw2
  replace B3 := B3.grow hw2
  replace B4 := B4.grow hw2
  refine fr ([va, vb, pt b2, pt b3, pt b4, .bool (false), u, u, v8, v9, .bool (((z).sign : Int) == (0 : Int))] ++ us 18) ?_
  refine nx ?_
  refine wp_cond_split (t := ((z).sign : Int) == (0 : Int)) rfl (fun hc1 => ?_) (fun hc1 => ?_)
  · have hz : z = 0 := Int.sign_eq_zero_iff_zero.1 (by simpa using hc1)
    refine wp_seq ?_
    refine rg (fun c d v a w h => NL c d v a w h) [(11, .rat (0))] [] [] [] 29 1 ?_ ?_
    · exact so [] (fun w3 hw3 => .fin (yld_build (ps := []) rfl rfl (by kernel_rfl) ⟨Grow.refl _, zRat _⟩)) (.nil _ _)
    rintro w3 hw3 v11 h11 -
    have W3 : Grow w w3 := W2.trans hw3
    replace B2 := B2.grow hw3
    replace B3 := B3.grow hw3
    replace B4 := B4.grow hw3
    have KK : Kept [] w3 w3 := fun _ _ => rfl
    refine fr ([va, vb, pt b2, pt b3, pt b4, .bool (false), u, u, v8, v9, .bool (((z).sign : Int) == (0 : Int)), v11] ++ us 17) ?_
    change wpListS _ _ _ _ [_, _] ⟨_, []⟩ _
    refine wpListS_yld rfl ?_
    refine yld_storeBox (R' := .rat (0)) (b := b4) rfl rfl aggRat.size B4 (shRat _) h11 (shRat _) (St.rat _) (by decide) g_b4 fun w4 P4 E4 B' => ⟨fun _ => Kept.put KK P4 (fun _ hk => (by cases hk)), ?_⟩
    replace KK := Kept.put KK P4 (fun _ hk => (by cases hk))
    have W4 : Grow w w4 := W3.put P4 g_b4
    replace B2 := B2.put (St.int _) P4 E4 n_b2_b4
    replace B3 := B3.put (St.int _) P4 E4 n_b3_b4
    replace B4 := B'; clear B'
    change wpListS _ _ _ _ [_] ⟨_, []⟩ _
    refine wpListS_yld rfl ?_
    refine yld_assign rfl ⟨fun _ => KK, ?_⟩
    refine wpListS_nil ?_
    change Code.wp _ _ _ ⟨List.toArray (List.set _ 5 _), []⟩ _
    have BR : Box w4 b4 35 (.rat (Rat.divInt y z)) := (by have e : (0 : Rat) = Rat.divInt y z := (by simp [hz]); rw [← e]; exact B4)
    refine wp_ret ?_
    change bodyPost Try.prog Try.f53 (Ret (.tup2 (.rat (Rat.divInt y z)) (.eq (.bool (!decide (z = 0))))) w) .ret _ _
    exact body_cell_slot (b := b4) rfl rfl aggRat BR (shRat _) (by show Value.bool _ = Value.bool _; rw [show (false) = (!decide (z = 0)) from (by simp [hz])]) rfl W4
  · have hz : z ≠ 0 := fun e => (by subst e; simp at hc1)
    refine wp_skip ?_
    change Code.wp _ _ _ ⟨_, []⟩ _
    refine wp_seq ?_
    refine rg (fun c d v a w h => NL c d v a w h) [(13, .int (y)), (14, .nat ((y).natAbs)), (15, .int (z)), (16, .nat ((z).natAbs)), (17, .tup2 (.nat (((y).natAbs) / Nat.gcd ((y).natAbs) ((z).natAbs))) (.nat (((z).natAbs) / Nat.gcd ((y).natAbs) ((z).natAbs)))), (12, .tup2 (.nat (((y).natAbs) / Nat.gcd ((y).natAbs) ((z).natAbs))) (.nat (((z).natAbs) / Nat.gcd ((y).natAbs) ((z).natAbs)))), (18, .nat (((y).natAbs) / Nat.gcd ((y).natAbs) ((z).natAbs))), (19, .nat (((z).natAbs) / Nat.gcd ((y).natAbs) ((z).natAbs))), (6, .ptr 31 (.nat (0))), (7, .ptr 31 (.nat (0)))] [8, 9] [7] [] 29 10 ?_ ?_
    · refine so [] (fun w5 hw5 => .fin (yld_loadBox rfl rfl aggInt (B2.grow hw5) (shInt _))) ?_
      refine so [0] (fun w5 hw5 => by rintro v13 h13; exact .fin (yld_call rfl cal_integer_Int_Abs rfl (cIntAbs h13))) ?_
      refine so [] (fun w5 hw5 => .fin (yld_loadBox rfl rfl aggInt (B3.grow hw5) (shInt _))) ?_
      refine so [2] (fun w5 hw5 => by rintro v15 h15; exact .fin (yld_call rfl cal_integer_Int_Abs rfl (cIntAbs h15))) ?_
      refine so [1, 3] (fun w5 hw5 => by rintro v14 h14 v16 h16; exact .fin (yld_call rfl cal_gcd_Reduce rfl (cGcdReduce h14 h16 (by first | assumption | omega) (by first | assumption | omega)))) ?_
      refine so [4] (fun w5 hw5 => by rintro _ ⟨x17_0, x17_1, rfl, hx17_0, hx17_1⟩; exact .fin (yld_move rfl ⟨Grow.refl _, ⟨x17_0, x17_1, rfl, hx17_0, hx17_1⟩⟩)) ?_
      refine so [5] (fun w5 hw5 => by rintro _ ⟨x12_0, x12_1, rfl, hx12_0, hx12_1⟩; exact .fin (yld_extract rfl rfl rfl ⟨Grow.refl _, hx12_0⟩)) ?_
      refine sl [5] (fun w5 hw5 => by rintro _ ⟨x12_0, x12_1, rfl, hx12_0, hx12_1⟩; exact .fin (⟨_, fun w2 _ => pure_extract rfl rfl rfl w2, hx12_1⟩)) ?_
      refine sn [] (fun w5 hw5 => .fin (yld_newAlloc rfl zeroNat zNat)) ?_
      exact sn [] (fun w5 hw5 => .fin (yld_newAlloc rfl zeroNat zNat)) (.nil _ _)
    rintro w5 hw5 v13 - v14 - v15 - v16 - v17 - v12 - v18 h18 v19 h19 _ ⟨b6, rfl, B6⟩ _ ⟨b7, rfl, B7⟩ hN
    have W5 : Grow w w5 := W2.trans hw5
    have g_b6 : w.heap.size ≤ b6 := Nat.le_trans W2.size hN.1.1
    have n_b2_b6 : b2 ≠ b6 := Nat.ne_of_lt (Nat.lt_of_lt_of_le B2.lt hN.1.1)
    have n_b3_b6 : b3 ≠ b6 := Nat.ne_of_lt (Nat.lt_of_lt_of_le B3.lt hN.1.1)
    have n_b4_b6 : b4 ≠ b6 := Nat.ne_of_lt (Nat.lt_of_lt_of_le B4.lt hN.1.1)
    have n_b6_b7 : b6 ≠ b7 := hN.2.1 9 (by simp)
    have g_b7 : w.heap.size ≤ b7 := Nat.le_trans W2.size hN.2.2.1.1
    have n_b2_b7 : b2 ≠ b7 := Nat.ne_of_lt (Nat.lt_of_lt_of_le B2.lt hN.2.2.1.1)
    have n_b3_b7 : b3 ≠ b7 := Nat.ne_of_lt (Nat.lt_of_lt_of_le B3.lt hN.2.2.1.1)
    have n_b4_b7 : b4 ≠ b7 := Nat.ne_of_lt (Nat.lt_of_lt_of_le B4.lt hN.2.2.1.1)
    clear hN
    replace B2 := B2.grow hw5
    replace B3 := B3.grow hw5
    replace B4 := B4.grow hw5
    have KK : Kept [] w5 w5 := fun _ _ => rfl
    refine fr ([va, vb, pt b2, pt b3, pt b4, .bool (false), pt b6, pt b7, v8, v9, .bool (((z).sign : Int) == (0 : Int)), u, v12, v13, v14, v15, v16, v17, v18, v19] ++ us 9) ?_
    change wpListS _ _ _ _ [_, _] ⟨_, []⟩ _
    refine wpListS_yld rfl ?_
    refine yld_storeBox (R' := .nat (((y).natAbs) / Nat.gcd ((y).natAbs) ((z).natAbs))) (b := b6) rfl rfl aggNat.size B6 (shNat _) h18 (shNat _) (St.nat _) (by decide) g_b6 fun w6 P6 E6 B' => ⟨fun _ => Kept.put KK P6 (fun _ hk => (by cases hk)), ?_⟩
    replace KK := Kept.put KK P6 (fun _ hk => (by cases hk))
    have W6 : Grow w w6 := W5.put P6 g_b6
    replace B2 := B2.put (St.int _) P6 E6 n_b2_b6
    replace B3 := B3.put (St.int _) P6 E6 n_b3_b6
    replace B4 := B4.put (St.rat _) P6 E6 n_b4_b6
    replace B7 := B7.put (St.nat _) P6 E6 (Ne.symm n_b6_b7)
    replace B6 := B'; clear B'
    replace h19 := MR.put h19 (St.nat _) E6
    change wpListS _ _ _ _ [_] ⟨_, []⟩ _
    refine wpListS_yld rfl ?_
    refine yld_storeBox (R' := .nat (((z).natAbs) / Nat.gcd ((y).natAbs) ((z).natAbs))) (b := b7) rfl rfl aggNat.size B7 (shNat _) h19 (shNat _) (St.nat _) (by decide) g_b7 fun w7 P7 E7 B' => ⟨fun _ => Kept.put KK P7 (fun _ hk => (by cases hk)), ?_⟩
    replace KK := Kept.put KK P7 (fun _ hk => (by cases hk))
    have W7 : Grow w w7 := W6.put P7 g_b7
    replace B2 := B2.put (St.int _) P7 E7 n_b2_b7
    replace B3 := B3.put (St.int _) P7 E7 n_b3_b7
    replace B4 := B4.put (St.rat _) P7 E7 n_b4_b7
    replace B6 := B6.put (St.nat _) P7 E7 n_b6_b7
    replace B7 := B'; clear B'
    refine nx ?_
    refine wp_seq ?_
    refine rg (fun c d v a w h => NL c d v a w h) [(20, .int (y)), (21, .eq (.bool (decide (y < 0)))), (22, .int (z)), (23, .eq (.bool (decide (z < 0)))), (24, .eq (.bool ((decide (y < 0)) != (decide (z < 0))))), (25, .nat (((y).natAbs) / Nat.gcd ((y).natAbs) ((z).natAbs))), (26, .int (signed ((decide (y < 0)) != (decide (z < 0))) (((y).natAbs) / Nat.gcd ((y).natAbs) ((z).natAbs)))), (27, .nat (((z).natAbs) / Nat.gcd ((y).natAbs) ((z).natAbs))), (28, .rat (Rat.divInt y z))] [] [] [] 29 9 ?_ ?_
    · refine so [] (fun w8 hw8 => .fin (yld_loadBox rfl rfl aggInt (B2.grow hw8) (shInt _))) ?_
      refine so [0] (fun w8 hw8 => by rintro v20 h20; exact .fin (yld_call rfl cal_integer_Int_Below rfl (cIntBelow h20))) ?_
      refine so [] (fun w8 hw8 => .fin (yld_loadBox rfl rfl aggInt (B3.grow hw8) (shInt _))) ?_
      refine so [2] (fun w8 hw8 => by rintro v22 h22; exact .fin (yld_call rfl cal_integer_Int_Below rfl (cIntBelow h22))) ?_
      refine so [1, 3] (fun w8 hw8 => by rintro _ rfl _ rfl; exact .fin (yld_bneq rfl Try.underlying4 rfl rfl ⟨Grow.refl _, rfl⟩)) ?_
      refine so [] (fun w8 hw8 => .fin (yld_loadBox rfl rfl aggNat (B6.grow hw8) (shNat _))) ?_
      refine so [4, 5] (fun w8 hw8 => by rintro _ rfl v25 h25; exact .fin (yld_call rfl cal_integer_New rfl (cNew h25))) ?_
      refine so [] (fun w8 hw8 => .fin (yld_loadBox rfl rfl aggNat (B7.grow hw8) (shNat _))) ?_
      exact so [6, 7] (fun w8 hw8 => by rintro v26 h26 v27 h27; exact .fin (yld_call rfl cal_rat_bare rfl (cRatBare (q := Rat.divInt y z) (by rw [new_num y z hz]; exact h26) (by rw [new_den y z hz]; exact h27)))) (.nil _ _)
    rintro w8 hw8 v20 - v21 - v22 - v23 - v24 - v25 - v26 - v27 - v28 h28 -
    have W8 : Grow w w8 := W7.trans hw8
    replace B4 := B4.grow hw8
    have KK : Kept [] w8 w8 := fun _ _ => rfl
    refine fr [va, vb, pt b2, pt b3, pt b4, .bool (false), pt b6, pt b7, v8, v9, .bool (((z).sign : Int) == (0 : Int)), u, v12, v13, v14, v15, v16, v17, v18, v19, v20, v21, v22, v23, v24, v25, v26, v27, v28] ?_
    change wpListS _ _ _ _ [_, _] ⟨_, []⟩ _
    refine wpListS_yld rfl ?_
    refine yld_storeBox (R' := .rat (Rat.divInt y z)) (b := b4) rfl rfl aggRat.size B4 (shRat _) h28 (shRat _) (St.rat _) (by decide) g_b4 fun w9 P9 E9 B' => ⟨fun _ => Kept.put KK P9 (fun _ hk => (by cases hk)), ?_⟩
    replace KK := Kept.put KK P9 (fun _ hk => (by cases hk))
    have W9 : Grow w w9 := W8.put P9 g_b4
    replace B4 := B'; clear B'
    change wpListS _ _ _ _ [_] ⟨_, []⟩ _
    refine wpListS_yld rfl ?_
    refine yld_assign rfl ⟨fun _ => KK, ?_⟩
    refine wpListS_nil ?_
    change Code.wp _ _ _ ⟨List.toArray (List.set _ 5 _), []⟩ _
    have BR : Box w9 b4 35 (.rat (Rat.divInt y z)) := B4
    refine wp_ret ?_
    change bodyPost Try.prog Try.f53 (Ret (.tup2 (.rat (Rat.divInt y z)) (.eq (.bool (!decide (z = 0))))) w) .ret _ _
    exact body_cell_slot (b := b4) rfl rfl aggRat BR (shRat _) (by show Value.bool _ = Value.bool _; rw [show (true) = (!decide (z = 0)) from (by simp [hz])]) rfl W9
set_option maxRecDepth 100000 in
set_option maxHeartbeats 2000000 in
theorem cRatNum {q : Rat} {va : Value} {w : World}  (ha : (MR.rat (q)).R w va)  : Calls Try.prog 74 #[va] w (Ret (.int (q.num)) w) := by
  refine calls_enter (a := ⟨List.toArray ([va] ++ us 4), []⟩) Try.func74 rfl (by kernel_rfl) ?_
  have NL : NoLook (bodyPost Try.prog Try.f74 (Ret (.int (q.num)) w)) := noLook_body
  refine wp_seq ?_
  refine rg (fun c d v a w h => NL c d v a w h) [(1, .ptr 35 (.rat (q))), (2, .ptr 33 (.int (0)))] [0, 1] [] [] 5 2 ?_ ?_
  · refine sn [] (fun w1 hw1 => .fin (yld_newBox rfl rfl (MR.mono _ hw1 ha))) ?_
    exact sn [] (fun w1 hw1 => .fin (yld_newAlloc rfl zeroInt zInt)) (.nil _ _)
  rintro w1 hw1 _ ⟨b1, rfl, B1⟩ _ ⟨b2, rfl, B2⟩ hN
  have W1 : Grow w w1 := (Grow.refl w).trans hw1
  have g_b2 : w.heap.size ≤ b2 := Nat.le_trans (Grow.refl w).size hN.2.2.1.1
  clear hN
  refine fr [va, pt b1, pt b2, u, u] ?_
  refine nx ?_
  refine wp_seq ?_
  refine rg (fun c d v a w h => NL c d v a w h) [(3, .eq (.pointer (some ⟨b1, 0, none⟩))), (4, .int ((q).num))] [] [] [] 5 2 ?_ ?_
  · refine so [] (fun w2 hw2 => .fin (yld_fieldAddr rfl rfl fldRat0 ⟨Grow.refl _, rfl⟩)) ?_
    exact so [0] (fun w2 hw2 => by rintro _ rfl; exact .fin (yld_loadPart rfl rfl aggInt (B1.grow hw2) (paRatNum _))) (.nil _ _)
  rintro w2 hw2 v3 - v4 h4 -
  have W2 : Grow w w2 := W1.trans hw2
  replace B2 := B2.grow hw2
  have KK : Kept [] w2 w2 := fun _ _ => rfl
  refine fr [va, pt b1, pt b2, v3, v4] ?_
  change wpListS _ _ _ _ [_] ⟨_, []⟩ _
  refine wpListS_yld rfl ?_
  refine yld_storeBox (R' := .int ((q).num)) (b := b2) rfl rfl aggInt.size B2 (shInt _) h4 (shInt _) (St.int _) (by decide) g_b2 fun w3 P3 E3 B' => ⟨fun _ => Kept.put KK P3 (fun _ hk => (by cases hk)), ?_⟩
  have W3 : Grow w w3 := W2.put P3 g_b2
  replace B2 := B'; clear B'
  refine nx ?_
  have BR : Box w3 b2 33 (.int (q.num)) := (by have e : ((q).num : Int) = q.num := (by first | rfl | omega | (simp; done)); rw [← e]; exact B2)
  refine wp_ret ?_
  change bodyPost Try.prog Try.f74 (Ret (.int (q.num)) w) .ret _ _
  exact body_cell (b := b2) rfl rfl aggInt BR (shInt _) rfl W3
set_option maxRecDepth 100000 in
set_option maxHeartbeats 2000000 in
theorem cRatDen {q : Rat} {va : Value} {w : World}  (ha : (MR.rat (q)).R w va)  : Calls Try.prog 56 #[va] w (Ret (.nat (q.den)) w) := by
  refine calls_enter (a := ⟨List.toArray ([va] ++ us 9), []⟩) Try.func56 rfl (by kernel_rfl) ?_
  have NL : NoLook (bodyPost Try.prog Try.f56 (Ret (.nat (q.den)) w)) := noLook_body
  refine wp_seq ?_
  refine rg (fun c d v a w h => NL c d v a w h) [(1, .ptr 35 (.rat (q))), (2, .ptr 31 (.nat (0)))] [0, 1] [] [] 10 2 ?_ ?_
  · refine sn [] (fun w1 hw1 => .fin (yld_newBox rfl rfl (MR.mono _ hw1 ha))) ?_
    exact sn [] (fun w1 hw1 => .fin (yld_newAlloc rfl zeroNat zNat)) (.nil _ _)
  rintro w1 hw1 _ ⟨b1, rfl, B1⟩ _ ⟨b2, rfl, B2⟩ hN
  have W1 : Grow w w1 := (Grow.refl w).trans hw1
  have n_b1_b2 : b1 ≠ b2 := hN.2.1 1 (by simp)
  have g_b2 : w.heap.size ≤ b2 := Nat.le_trans (Grow.refl w).size hN.2.2.1.1
  clear hN
  refine fr ([va, pt b1, pt b2] ++ us 7) ?_
  refine nx ?_
  refine wp_seq ?_
  refine wp_seq ?_
  refine rg (fun c d v a w h => NL c d v a w h) [(3, .eq (.pointer (some ⟨b1, 2, none⟩))), (4, .nat (denW (q))), (5, .eq (.bool (decide ((denW (q)) = 0))))] [] [] [] 10 3 ?_ ?_
  · refine so [] (fun w2 hw2 => .fin (yld_fieldAddr rfl rfl fldRat1 ⟨Grow.refl _, rfl⟩)) ?_
    refine so [0] (fun w2 hw2 => by rintro _ rfl; exact .fin (yld_loadPart rfl rfl aggNat (B1.grow hw2) (paRatDen _))) ?_
    exact so [1] (fun w2 hw2 => by rintro v4 h4; exact .fin (yld_call rfl cal_nat_Nat_Zero rfl (cNatZero h4))) (.nil _ _)
  rintro w2 hw2 v3 - v4 - _ rfl -
  have W2 : Grow w w2 := W1.trans hw2
  replace B1 := B1.grow hw2
  replace B2 := B2.grow hw2
  refine fr ([va, pt b1, pt b2, v3, v4, .bool (decide ((denW (q)) = 0))] ++ us 4) ?_
  refine nx ?_
  refine wp_cond_split (t := decide ((denW (q)) = 0)) rfl (fun hc1 => ?_) (fun hc1 => ?_)
  · refine wp_seq ?_
    refine rg (fun c d v a w h => NL c d v a w h) [(6, .lits ([1])), (7, .nat (1))] [] [] [] 10 2 ?_ ?_
    · refine so [] (fun w3 hw3 => .fin (yld_lit rfl rfl)) ?_
      exact so [0] (fun w3 hw3 => by rintro v6 h6; exact .fin (yld_call rfl cal_nat_Of rfl (cNatOf1 h6 (by omega)))) (.nil _ _)
    rintro w3 hw3 v6 - v7 h7 -
    have W3 : Grow w w3 := W2.trans hw3
    replace B1 := B1.grow hw3
    replace B2 := B2.grow hw3
    have KK : Kept [] w3 w3 := fun _ _ => rfl
    refine fr [va, pt b1, pt b2, v3, v4, .bool (decide ((denW (q)) = 0)), v6, v7, u, u] ?_
    change wpListS _ _ _ _ [_] ⟨_, []⟩ _
    refine wpListS_yld rfl ?_
    refine yld_storeBox (R' := .nat (1)) (b := b2) rfl rfl aggNat.size B2 (shNat _) h7 (shNat _) (St.nat _) (by decide) g_b2 fun w4 P4 E4 B' => ⟨fun _ => Kept.put KK P4 (fun _ hk => (by cases hk)), ?_⟩
    replace KK := Kept.put KK P4 (fun _ hk => (by cases hk))
    have W4 : Grow w w4 := W3.put P4 g_b2
    replace B1 := B1.put (St.rat _) P4 E4 n_b1_b2
    replace B2 := B'; clear B'
    refine nx ?_
    have BR : Box w4 b2 31 (.nat (q.den)) := (by have e : (1 : Nat) = q.den := (by first | exact (((denW_zero q).1 (of_decide_eq_true hc1)).symm) | exact denW_ne (mt (denW_zero q).2 (of_decide_eq_false hc1))); rw [← e]; exact B2)
    refine wp_ret ?_
    change bodyPost Try.prog Try.f56 (Ret (.nat (q.den)) w) .ret _ _
    exact body_cell (b := b2) rfl rfl aggNat BR (shNat _) rfl W4
  · refine wp_skip ?_
    change Code.wp _ _ _ ⟨_, []⟩ _
    refine wp_seq ?_
    refine rg (fun c d v a w h => NL c d v a w h) [(8, .eq (.pointer (some ⟨b1, 2, none⟩))), (9, .nat (denW (q)))] [] [] [] 10 2 ?_ ?_
    · refine so [] (fun w5 hw5 => .fin (yld_fieldAddr rfl rfl fldRat1 ⟨Grow.refl _, rfl⟩)) ?_
      exact so [0] (fun w5 hw5 => by rintro _ rfl; exact .fin (yld_loadPart rfl rfl aggNat (B1.grow hw5) (paRatDen _))) (.nil _ _)
    rintro w5 hw5 v8 - v9 h9 -
    have W5 : Grow w w5 := W2.trans hw5
    replace B2 := B2.grow hw5
    have KK : Kept [] w5 w5 := fun _ _ => rfl
    refine fr [va, pt b1, pt b2, v3, v4, .bool (decide ((denW (q)) = 0)), u, u, v8, v9] ?_
    change wpListS _ _ _ _ [_] ⟨_, []⟩ _
    refine wpListS_yld rfl ?_
    refine yld_storeBox (R' := .nat (denW (q))) (b := b2) rfl rfl aggNat.size B2 (shNat _) h9 (shNat _) (St.nat _) (by decide) g_b2 fun w6 P6 E6 B' => ⟨fun _ => Kept.put KK P6 (fun _ hk => (by cases hk)), ?_⟩
    have W6 : Grow w w6 := W5.put P6 g_b2
    replace B2 := B'; clear B'
    refine nx ?_
    have BR : Box w6 b2 31 (.nat (q.den)) := (by have e : (denW (q) : Nat) = q.den := (by first | exact (((denW_zero q).1 (of_decide_eq_true hc1)).symm) | exact denW_ne (mt (denW_zero q).2 (of_decide_eq_false hc1))); rw [← e]; exact B2)
    refine wp_ret ?_
    change bodyPost Try.prog Try.f56 (Ret (.nat (q.den)) w) .ret _ _
    exact body_cell (b := b2) rfl rfl aggNat BR (shNat _) rfl W6
set_option maxRecDepth 100000 in
set_option maxHeartbeats 2000000 in
theorem cRatBelow {q : Rat} {va : Value} {w : World}  (ha : (MR.rat (q)).R w va)  : Calls Try.prog 52 #[va] w (Ret (.int ((q.den : Int))) w) := by
  refine calls_enter (a := ⟨List.toArray ([va] ++ us 5), []⟩) Try.func52 rfl (by kernel_rfl) ?_
  have NL : NoLook (bodyPost Try.prog Try.f52 (Ret (.int ((q.den : Int))) w)) := noLook_body
  refine wp_seq ?_
  refine rg (fun c d v a w h => NL c d v a w h) [(1, .ptr 35 (.rat (q))), (2, .ptr 33 (.int (0)))] [0, 1] [] [] 6 2 ?_ ?_
  · refine sn [] (fun w1 hw1 => .fin (yld_newBox rfl rfl (MR.mono _ hw1 ha))) ?_
    exact sn [] (fun w1 hw1 => .fin (yld_newAlloc rfl zeroInt zInt)) (.nil _ _)
  rintro w1 hw1 _ ⟨b1, rfl, B1⟩ _ ⟨b2, rfl, B2⟩ hN
  have W1 : Grow w w1 := (Grow.refl w).trans hw1
  have g_b2 : w.heap.size ≤ b2 := Nat.le_trans (Grow.refl w).size hN.2.2.1.1
  clear hN
  refine fr ([va, pt b1, pt b2] ++ us 3) ?_
  refine nx ?_
  refine wp_seq ?_
  refine rg (fun c d v a w h => NL c d v a w h) [(3, .rat (q)), (4, .nat (q.den)), (5, .int (signed (false) (q.den)))] [] [] [] 6 3 ?_ ?_
  · refine so [] (fun w2 hw2 => .fin (yld_loadBox rfl rfl aggRat (B1.grow hw2) (shRat _))) ?_
    refine so [0] (fun w2 hw2 => by rintro v3 h3; exact .fin (yld_call rfl cal_rat_Rat_Den rfl (cRatDen h3))) ?_
    exact so [1] (fun w2 hw2 => by rintro v4 h4; exact .fin (yld_call rfl cal_integer_New rfl (cNew h4))) (.nil _ _)
  rintro w2 hw2 v3 - v4 - v5 h5 -
  have W2 : Grow w w2 := W1.trans hw2
  replace B2 := B2.grow hw2
  have KK : Kept [] w2 w2 := fun _ _ => rfl
  refine fr [va, pt b1, pt b2, v3, v4, v5] ?_
  change wpListS _ _ _ _ [_] ⟨_, []⟩ _
  refine wpListS_yld rfl ?_
  refine yld_storeBox (R' := .int (signed (false) (q.den))) (b := b2) rfl rfl aggInt.size B2 (shInt _) h5 (shInt _) (St.int _) (by decide) g_b2 fun w3 P3 E3 B' => ⟨fun _ => Kept.put KK P3 (fun _ hk => (by cases hk)), ?_⟩
  have W3 : Grow w w3 := W2.put P3 g_b2
  replace B2 := B'; clear B'
  refine nx ?_
  have BR : Box w3 b2 33 (.int ((q.den : Int))) := (by have e : (signed (false) (q.den) : Int) = (q.den : Int) := (rfl); rw [← e]; exact B2)
  refine wp_ret ?_
  change bodyPost Try.prog Try.f52 (Ret (.int ((q.den : Int))) w) .ret _ _
  exact body_cell (b := b2) rfl rfl aggInt BR (shInt _) rfl W3
set_option maxRecDepth 100000 in
set_option maxHeartbeats 2000000 in
theorem cRatSign {q : Rat} {va : Value} {w : World}  (ha : (MR.rat (q)).R w va)  : Calls Try.prog 23 #[va] w (Ret (.eq (.int .i64 (q.num.sign))) w) := by
  refine calls_enter (a := ⟨List.toArray ([va] ++ us 5), []⟩) Try.func23 rfl (by kernel_rfl) ?_
  have NL : NoLook (bodyPost Try.prog Try.f23 (Ret (.eq (.int .i64 (q.num.sign))) w)) := noLook_body
  refine wp_seq ?_
  refine rg (fun c d v a w h => NL c d v a w h) [(1, .ptr 35 (.rat (q))), (2, .eq (.int .i64 (0)))] [0] [] [] 6 2 ?_ ?_
  · refine sn [] (fun w1 hw1 => .fin (yld_newBox rfl rfl (MR.mono _ hw1 ha))) ?_
    exact so [] (fun w1 hw1 => .fin (yld_assign rfl ⟨Grow.refl _, rfl⟩)) (.nil _ _)
  rintro w1 hw1 _ ⟨b1, rfl, B1⟩ _ rfl hN
  have W1 : Grow w w1 := (Grow.refl w).trans hw1
  clear hN
  refine fr ([va, pt b1, .int .i64 (0)] ++ us 3) ?_
  refine nx ?_
  refine wp_seq ?_
  refine rg (fun c d v a w h => NL c d v a w h) [(3, .eq (.pointer (some ⟨b1, 0, none⟩))), (4, .int ((q).num)), (5, .eq (.int .i64 (((q).num).sign))), (2, .eq (.int .i64 (((q).num).sign)))] [] [] [] 6 4 ?_ ?_
  · refine so [] (fun w2 hw2 => .fin (yld_fieldAddr rfl rfl fldRat0 ⟨Grow.refl _, rfl⟩)) ?_
    refine so [0] (fun w2 hw2 => by rintro _ rfl; exact .fin (yld_loadPart rfl rfl aggInt (B1.grow hw2) (paRatNum _))) ?_
    refine so [1] (fun w2 hw2 => by rintro v4 h4; exact .fin (yld_call rfl cal_integer_Int_Sign rfl (cIntSign h4))) ?_
    exact so [2] (fun w2 hw2 => by rintro _ rfl; exact .fin (yld_assign rfl ⟨Grow.refl _, rfl⟩)) (.nil _ _)
  rintro w2 hw2 v3 - v4 - v5 - _ rfl -
  have W2 : Grow w w2 := W1.trans hw2
  refine fr [va, pt b1, .int .i64 (((q).num).sign), v3, v4, v5] ?_
  refine nx ?_
  refine wp_ret ?_
  change bodyPost Try.prog Try.f23 (Ret (.eq (.int .i64 (q.num.sign))) w) .ret _ _
  exact body_slot rfl (by show Value.int _ _ = Value.int _ _; rw [show ((((q).num).sign : Int)) = (q.num.sign) from (by first | rfl | omega | (simp; done))]) rfl W2
set_option maxRecDepth 100000 in
set_option maxHeartbeats 2000000 in
theorem cRatZero {q : Rat} {va : Value} {w : World}  (ha : (MR.rat (q)).R w va)  : Calls Try.prog 24 #[va] w (Ret (.eq (.bool (decide (q = 0)))) w) := by
  refine calls_enter (a := ⟨List.toArray ([va] ++ us 6), []⟩) Try.func24 rfl (by kernel_rfl) ?_
  have NL : NoLook (bodyPost Try.prog Try.f24 (Ret (.eq (.bool (decide (q = 0)))) w)) := noLook_body
  refine wp_seq ?_
  refine rg (fun c d v a w h => NL c d v a w h) [(1, .ptr 35 (.rat (q))), (2, .eq (.bool (false)))] [0] [] [] 7 2 ?_ ?_
  · refine sn [] (fun w1 hw1 => .fin (yld_newBox rfl rfl (MR.mono _ hw1 ha))) ?_
    exact so [] (fun w1 hw1 => .fin (yld_assign rfl ⟨Grow.refl _, rfl⟩)) (.nil _ _)
  rintro w1 hw1 _ ⟨b1, rfl, B1⟩ _ rfl hN
  have W1 : Grow w w1 := (Grow.refl w).trans hw1
  clear hN
  refine fr ([va, pt b1, .bool (false)] ++ us 4) ?_
  refine nx ?_
  refine wp_seq ?_
  refine rg (fun c d v a w h => NL c d v a w h) [(3, .eq (.pointer (some ⟨b1, 0, none⟩))), (4, .int ((q).num)), (5, .eq (.int .i64 (((q).num).sign))), (6, .eq (.bool ((((q).num).sign : Int) == (0 : Int)))), (2, .eq (.bool ((((q).num).sign : Int) == (0 : Int))))] [] [] [] 7 5 ?_ ?_
  · refine so [] (fun w2 hw2 => .fin (yld_fieldAddr rfl rfl fldRat0 ⟨Grow.refl _, rfl⟩)) ?_
    refine so [0] (fun w2 hw2 => by rintro _ rfl; exact .fin (yld_loadPart rfl rfl aggInt (B1.grow hw2) (paRatNum _))) ?_
    refine so [1] (fun w2 hw2 => by rintro v4 h4; exact .fin (yld_call rfl cal_integer_Int_Sign rfl (cIntSign h4))) ?_
    refine so [2] (fun w2 hw2 => by rintro _ rfl; exact .fin (yld_eql rfl rfl rfl ⟨Grow.refl _, rfl⟩)) ?_
    exact so [3] (fun w2 hw2 => by rintro _ rfl; exact .fin (yld_assign rfl ⟨Grow.refl _, rfl⟩)) (.nil _ _)
  rintro w2 hw2 v3 - v4 - v5 - v6 - _ rfl -
  have W2 : Grow w w2 := W1.trans hw2
  refine fr [va, pt b1, .bool ((((q).num).sign : Int) == (0 : Int)), v3, v4, v5, v6] ?_
  refine nx ?_
  refine wp_ret ?_
  change bodyPost Try.prog Try.f24 (Ret (.eq (.bool (decide (q = 0)))) w) .ret _ _
  exact body_slot rfl (by show Value.bool _ = Value.bool _; rw [show ((((q).num).sign : Int) == (0 : Int)) = (decide (q = 0)) from (sign_zero q)]) rfl W2
set_option maxRecDepth 100000 in
set_option maxHeartbeats 2000000 in
theorem cRatBits {q : Rat} {va : Value} {w : World}  (ha : (MR.rat (q)).R w va)  : Calls Try.prog 68 #[va] w (Ret (.eq (.int .i64 (((Wd.blen q.num.natAbs + Wd.blen q.den : Nat) : Int)))) w) := by
  have ⟨hb1, hb2, hb3, hb4⟩ := rat_small ha
  refine calls_enter (a := ⟨List.toArray ([va] ++ us 10), []⟩) Try.func68 rfl (by kernel_rfl) ?_
  have NL : NoLook (bodyPost Try.prog Try.f68 (Ret (.eq (.int .i64 (((Wd.blen q.num.natAbs + Wd.blen q.den : Nat) : Int)))) w)) := noLook_body
  refine wp_seq ?_
  refine rg (fun c d v a w h => NL c d v a w h) [(1, .ptr 35 (.rat (q))), (2, .eq (.int .i64 (0)))] [0] [] [] 11 2 ?_ ?_
  · refine sn [] (fun w1 hw1 => .fin (yld_newBox rfl rfl (MR.mono _ hw1 ha))) ?_
    exact so [] (fun w1 hw1 => .fin (yld_assign rfl ⟨Grow.refl _, rfl⟩)) (.nil _ _)
  rintro w1 hw1 _ ⟨b1, rfl, B1⟩ _ rfl hN
  have W1 : Grow w w1 := (Grow.refl w).trans hw1
  clear hN
  refine fr ([va, pt b1, .int .i64 (0)] ++ us 8) ?_
  refine nx ?_
  refine wp_seq ?_
  refine rg (fun c d v a w h => NL c d v a w h) [(3, .eq (.pointer (some ⟨b1, 0, none⟩))), (4, .int ((q).num)), (5, .nat (((q).num).natAbs)), (6, .eq (.int .i64 ((Wd.blen (((q).num).natAbs) : Nat)))), (7, .rat (q)), (8, .nat (q.den)), (9, .eq (.int .i64 ((Wd.blen q.den : Nat)))), (10, .eq (.int .i64 (((Wd.blen (((q).num).natAbs) : Nat)) + ((Wd.blen q.den : Nat))))), (2, .eq (.int .i64 (((Wd.blen (((q).num).natAbs) : Nat)) + ((Wd.blen q.den : Nat)))))] [] [] [] 11 9 ?_ ?_
  · refine so [] (fun w2 hw2 => .fin (yld_fieldAddr rfl rfl fldRat0 ⟨Grow.refl _, rfl⟩)) ?_
    refine so [0] (fun w2 hw2 => by rintro _ rfl; exact .fin (yld_loadPart rfl rfl aggInt (B1.grow hw2) (paRatNum _))) ?_
    refine so [1] (fun w2 hw2 => by rintro v4 h4; exact .fin (yld_call rfl cal_integer_Int_Abs rfl (cIntAbs h4))) ?_
    refine so [2] (fun w2 hw2 => by rintro v5 h5; exact .fin (yld_call rfl cal_nat_Nat_Bits rfl (cNatBits h5))) ?_
    refine so [] (fun w2 hw2 => .fin (yld_loadBox rfl rfl aggRat (B1.grow hw2) (shRat _))) ?_
    refine so [4] (fun w2 hw2 => by rintro v7 h7; exact .fin (yld_call rfl cal_rat_Rat_Den rfl (cRatDen h7))) ?_
    refine so [5] (fun w2 hw2 => by rintro v8 h8; exact .fin (yld_call rfl cal_nat_Nat_Bits rfl (cNatBits h8))) ?_
    refine so [3, 6] (fun w2 hw2 => by rintro _ rfl _ rfl; exact .fin (yld_add rfl rfl rfl (r := ((Wd.blen (((q).num).natAbs) : Nat)) + ((Wd.blen q.den : Nat))) (by rw [IntKind.wrap_i64]; omega) ⟨Grow.refl _, rfl⟩)) ?_
    exact so [7] (fun w2 hw2 => by rintro _ rfl; exact .fin (yld_assign rfl ⟨Grow.refl _, rfl⟩)) (.nil _ _)
  rintro w2 hw2 v3 - v4 - v5 - v6 - v7 - v8 - v9 - v10 - _ rfl -
  have W2 : Grow w w2 := W1.trans hw2
  refine fr [va, pt b1, .int .i64 (((Wd.blen (((q).num).natAbs) : Nat)) + ((Wd.blen q.den : Nat))), v3, v4, v5, v6, v7, v8, v9, v10] ?_
  refine nx ?_
  refine wp_ret ?_
  change bodyPost Try.prog Try.f68 (Ret (.eq (.int .i64 (((Wd.blen q.num.natAbs + Wd.blen q.den : Nat) : Int)))) w) .ret _ _
  exact body_slot rfl (by show Value.int _ _ = Value.int _ _; rw [show ((((Wd.blen (((q).num).natAbs) : Nat)) + ((Wd.blen q.den : Nat)) : Int)) = (((Wd.blen q.num.natAbs + Wd.blen q.den : Nat) : Int)) from (by simp)]) rfl W2
set_option maxRecDepth 100000 in
set_option maxHeartbeats 2000000 in
theorem cRatAdd {p q : Rat} {va : Value} {vb : Value} {w : World}  (ha : (MR.rat (p)).R w va) (hb : (MR.rat (q)).R w vb) (hs : szq p + szq q ≤ 17179869184) : Calls Try.prog 15 #[va, vb] w (Ret (.rat (p + q)) w) := by
  have s1 := szq_num p
  have s2 := szq_num q
  have s3 := szq_den p
  have s4 := szq_den q
  have hA := small_add p q hs
  refine calls_enter (a := ⟨List.toArray ([va, vb] ++ us 29), []⟩) Try.func15 rfl (by kernel_rfl) ?_
  have NL : NoLook (bodyPost Try.prog Try.f15 (Ret (.rat (p + q)) w)) := noLook_body
  refine wp_seq ?_
  refine rg (fun c d v a w h => NL c d v a w h) [(2, .ptr 35 (.rat (p))), (3, .ptr 35 (.rat (q))), (4, .ptr 35 (.rat (0)))] [0, 1, 2] [] [] 31 3 ?_ ?_
  · refine sn [] (fun w1 hw1 => .fin (yld_newBox rfl rfl (MR.mono _ hw1 ha))) ?_
    refine sn [] (fun w1 hw1 => .fin (yld_newBox rfl rfl (MR.mono _ hw1 hb))) ?_
    exact sn [] (fun w1 hw1 => .fin (yld_newAlloc rfl zeroRat zRat)) (.nil _ _)
  rintro w1 hw1 _ ⟨b2, rfl, B2⟩ _ ⟨b3, rfl, B3⟩ _ ⟨b4, rfl, B4⟩ hN
  have W1 : Grow w w1 := (Grow.refl w).trans hw1
  have g_b4 : w.heap.size ≤ b4 := Nat.le_trans (Grow.refl w).size hN.2.2.2.2.1.1
  clear hN
  refine fr ([va, vb, pt b2, pt b3, pt b4] ++ us 26) ?_
  refine nx ?_
  refine wp_seq ?_
  refine rg (fun c d v a w h => NL c d v a w h) [(8, .eq (.pointer (some ⟨b2, 0, none⟩))), (9, .int ((p).num)), (10, .rat (q)), (11, .int ((q.den : Int))), (12, .int (((p).num) * ((q.den : Int)))), (13, .eq (.pointer (some ⟨b3, 0, none⟩))), (14, .int ((q).num)), (15, .rat (p)), (16, .int ((p.den : Int))), (17, .int (((q).num) * ((p.den : Int)))), (18, .int ((((p).num) * ((q.den : Int))) + (((q).num) * ((p.den : Int))))), (5, .ptr 33 (.int (0)))] [11] [] [] 31 12 ?_ ?_
  · refine so [] (fun w2 hw2 => .fin (yld_fieldAddr rfl rfl fldRat0 ⟨Grow.refl _, rfl⟩)) ?_
    refine so [0] (fun w2 hw2 => by rintro _ rfl; exact .fin (yld_loadPart rfl rfl aggInt (B2.grow hw2) (paRatNum _))) ?_
    refine so [] (fun w2 hw2 => .fin (yld_loadBox rfl rfl aggRat (B3.grow hw2) (shRat _))) ?_
    refine so [2] (fun w2 hw2 => by rintro v10 h10; exact .fin (yld_call rfl cal_rat_Rat_below rfl (cRatBelow h10))) ?_
    refine so [1, 3] (fun w2 hw2 => by rintro v9 h9 v11 h11; exact .fin (yld_call rfl cal_integer_Mul rfl (cIntMul h9 h11 (by unfold LIM; first | omega | (simp only [Int.natAbs_natCast]; omega))))) ?_
    refine so [] (fun w2 hw2 => .fin (yld_fieldAddr rfl rfl fldRat0 ⟨Grow.refl _, rfl⟩)) ?_
    refine so [5] (fun w2 hw2 => by rintro _ rfl; exact .fin (yld_loadPart rfl rfl aggInt (B3.grow hw2) (paRatNum _))) ?_
    refine so [] (fun w2 hw2 => .fin (yld_loadBox rfl rfl aggRat (B2.grow hw2) (shRat _))) ?_
    refine so [7] (fun w2 hw2 => by rintro v15 h15; exact .fin (yld_call rfl cal_rat_Rat_below rfl (cRatBelow h15))) ?_
    refine so [6, 8] (fun w2 hw2 => by rintro v14 h14 v16 h16; exact .fin (yld_call rfl cal_integer_Mul rfl (cIntMul h14 h16 (by unfold LIM; first | omega | (simp only [Int.natAbs_natCast]; omega))))) ?_
    refine so [4, 9] (fun w2 hw2 => by rintro v12 h12 v17 h17; exact .fin (yld_call rfl cal_integer_Add rfl (cIntAdd h12 h17 hA))) ?_
    exact sn [] (fun w2 hw2 => .fin (yld_newAlloc rfl zeroInt zInt)) (.nil _ _)
  rintro w2 hw2 v8 - v9 - v10 - v11 - v12 - v13 - v14 - v15 - v16 - v17 - v18 h18 _ ⟨b5, rfl, B5⟩ hN
  have W2 : Grow w w2 := W1.trans hw2
  have g_b5 : w.heap.size ≤ b5 := Nat.le_trans W1.size hN.1.1
  have n_b2_b5 : b2 ≠ b5 := Nat.ne_of_lt (Nat.lt_of_lt_of_le B2.lt hN.1.1)
  have n_b3_b5 : b3 ≠ b5 := Nat.ne_of_lt (Nat.lt_of_lt_of_le B3.lt hN.1.1)
  have n_b4_b5 : b4 ≠ b5 := Nat.ne_of_lt (Nat.lt_of_lt_of_le B4.lt hN.1.1)
  clear hN
  replace B2 := B2.grow hw2
  replace B3 := B3.grow hw2
  replace B4 := B4.grow hw2
  have KK : Kept [] w2 w2 := fun _ _ => rfl
  refine fr ([va, vb, pt b2, pt b3, pt b4, pt b5, u, u, v8, v9, v10, v11, v12, v13, v14, v15, v16, v17, v18] ++ us 12) ?_
  change wpListS _ _ _ _ [_] ⟨_, []⟩ _
  refine wpListS_yld rfl ?_
  refine yld_storeBox (R' := .int ((((p).num) * ((q.den : Int))) + (((q).num) * ((p.den : Int))))) (b := b5) rfl rfl aggInt.size B5 (shInt _) h18 (shInt _) (St.int _) (by decide) g_b5 fun w3 P3 E3 B' => ⟨fun _ => Kept.put KK P3 (fun _ hk => (by cases hk)), ?_⟩
  replace KK := Kept.put KK P3 (fun _ hk => (by cases hk))
  have W3 : Grow w w3 := W2.put P3 g_b5
  replace B2 := B2.put (St.rat _) P3 E3 n_b2_b5
  replace B3 := B3.put (St.rat _) P3 E3 n_b3_b5
  replace B4 := B4.put (St.rat _) P3 E3 n_b4_b5
  replace B5 := B'; clear B'
  refine nx ?_
  refine wp_seq ?_
  refine rg (fun c d v a w h => NL c d v a w h) [(20, .int ((((p).num) * ((q.den : Int))) + (((q).num) * ((p.den : Int))))), (21, .rat (p)), (22, .nat (p.den)), (23, .rat (q)), (24, .nat (q.den)), (25, .nat (p.den * q.den)), (26, .int (signed (false) (p.den * q.den))), (27, .tup2 (.rat (Rat.divInt ((((p).num) * ((q.den : Int))) + (((q).num) * ((p.den : Int)))) (signed (false) (p.den * q.den)))) (.eq (.bool (!decide ((signed (false) (p.den * q.den)) = 0))))), (19, .tup2 (.rat (Rat.divInt ((((p).num) * ((q.den : Int))) + (((q).num) * ((p.den : Int)))) (signed (false) (p.den * q.den)))) (.eq (.bool (!decide ((signed (false) (p.den * q.den)) = 0))))), (28, .rat (Rat.divInt ((((p).num) * ((q.den : Int))) + (((q).num) * ((p.den : Int)))) (signed (false) (p.den * q.den)))), (29, .eq (.bool (!decide ((signed (false) (p.den * q.den)) = 0)))), (6, .ptr 35 (.rat (0)))] [11] [10] [] 31 12 ?_ ?_
  · refine so [] (fun w4 hw4 => .fin (yld_loadBox rfl rfl aggInt (B5.grow hw4) (shInt _))) ?_
    refine so [] (fun w4 hw4 => .fin (yld_loadBox rfl rfl aggRat (B2.grow hw4) (shRat _))) ?_
    refine so [1] (fun w4 hw4 => by rintro v21 h21; exact .fin (yld_call rfl cal_rat_Rat_Den rfl (cRatDen h21))) ?_
    refine so [] (fun w4 hw4 => .fin (yld_loadBox rfl rfl aggRat (B3.grow hw4) (shRat _))) ?_
    refine so [3] (fun w4 hw4 => by rintro v23 h23; exact .fin (yld_call rfl cal_rat_Rat_Den rfl (cRatDen h23))) ?_
    refine so [2, 4] (fun w4 hw4 => by rintro v22 h22 v24 h24; exact .fin (yld_call rfl cal_prod_Mul rfl (cMul h22 h24 (by unfold LIM; omega)))) ?_
    refine so [5] (fun w4 hw4 => by rintro v25 h25; exact .fin (yld_call rfl cal_integer_New rfl (cNew h25))) ?_
    refine so [0, 6] (fun w4 hw4 => by rintro v20 h20 v26 h26; exact .fin (yld_call rfl cal_rat_New rfl (cRatNew h20 h26 (new_add p q hs).1 (new_add p q hs).2))) ?_
    refine so [7] (fun w4 hw4 => by rintro _ ⟨x27_0, x27_1, rfl, hx27_0, hx27_1⟩; exact .fin (yld_move rfl ⟨Grow.refl _, ⟨x27_0, x27_1, rfl, hx27_0, hx27_1⟩⟩)) ?_
    refine so [8] (fun w4 hw4 => by rintro _ ⟨x19_0, x19_1, rfl, hx19_0, hx19_1⟩; exact .fin (yld_extract rfl rfl rfl ⟨Grow.refl _, hx19_0⟩)) ?_
    refine sl [8] (fun w4 hw4 => by rintro _ ⟨x19_0, x19_1, rfl, hx19_0, hx19_1⟩; exact .fin (⟨_, fun w2 _ => pure_extract rfl rfl rfl w2, hx19_1⟩)) ?_
    exact sn [] (fun w4 hw4 => .fin (yld_newAlloc rfl zeroRat zRat)) (.nil _ _)
  rintro w4 hw4 v20 - v21 - v22 - v23 - v24 - v25 - v26 - v27 - v19 - v28 h28 _ rfl _ ⟨b6, rfl, B6⟩ hN
  have W4 : Grow w w4 := W3.trans hw4
  have g_b6 : w.heap.size ≤ b6 := Nat.le_trans W3.size hN.1.1
  have n_b4_b6 : b4 ≠ b6 := Nat.ne_of_lt (Nat.lt_of_lt_of_le B4.lt hN.1.1)
  clear hN
  replace B4 := B4.grow hw4
  have KK : Kept [] w4 w4 := fun _ _ => rfl
  refine fr [va, vb, pt b2, pt b3, pt b4, pt b5, pt b6, u, v8, v9, v10, v11, v12, v13, v14, v15, v16, v17, v18, v19, v20, v21, v22, v23, v24, v25, v26, v27, v28, .bool (!decide ((signed (false) (p.den * q.den)) = 0)), u] ?_
  change wpListS _ _ _ _ [_, _] ⟨_, []⟩ _
  refine wpListS_yld rfl ?_
  refine yld_storeBox (R' := .rat (Rat.divInt ((((p).num) * ((q.den : Int))) + (((q).num) * ((p.den : Int)))) (signed (false) (p.den * q.den)))) (b := b6) rfl rfl aggRat.size B6 (shRat _) h28 (shRat _) (St.rat _) (by decide) g_b6 fun w5 P5 E5 B' => ⟨fun _ => Kept.put KK P5 (fun _ hk => (by cases hk)), ?_⟩
  replace KK := Kept.put KK P5 (fun _ hk => (by cases hk))
  have W5 : Grow w w5 := W4.put P5 g_b6
  replace B4 := B4.put (St.rat _) P5 E5 n_b4_b6
  replace B6 := B'; clear B'
  change wpListS _ _ _ _ [_] ⟨_, []⟩ _
  refine wpListS_yld rfl ?_
  refine yld_assign rfl ⟨fun _ => KK, ?_⟩
  refine wpListS_nil ?_
  change Code.wp _ _ _ ⟨List.toArray (List.set _ 7 _), []⟩ _
  refine wp_seq ?_
  refine rg (fun c d v a w h => NL c d v a w h) [(30, .rat (Rat.divInt ((((p).num) * ((q.den : Int))) + (((q).num) * ((p.den : Int)))) (signed (false) (p.den * q.den))))] [] [] [] 31 1 ?_ ?_
  · exact so [] (fun w6 hw6 => .fin (yld_loadBox rfl rfl aggRat (B6.grow hw6) (shRat _))) (.nil _ _)
  rintro w6 hw6 v30 h30 -
  have W6 : Grow w w6 := W5.trans hw6
  replace B4 := B4.grow hw6
  have KK : Kept [] w6 w6 := fun _ _ => rfl
  refine fr [va, vb, pt b2, pt b3, pt b4, pt b5, pt b6, .bool (!decide ((signed (false) (p.den * q.den)) = 0)), v8, v9, v10, v11, v12, v13, v14, v15, v16, v17, v18, v19, v20, v21, v22, v23, v24, v25, v26, v27, v28, .bool (!decide ((signed (false) (p.den * q.den)) = 0)), v30] ?_
  change wpListS _ _ _ _ [_] ⟨_, []⟩ _
  refine wpListS_yld rfl ?_
  refine yld_storeBox (R' := .rat (Rat.divInt ((((p).num) * ((q.den : Int))) + (((q).num) * ((p.den : Int)))) (signed (false) (p.den * q.den)))) (b := b4) rfl rfl aggRat.size B4 (shRat _) h30 (shRat _) (St.rat _) (by decide) g_b4 fun w7 P7 E7 B' => ⟨fun _ => Kept.put KK P7 (fun _ hk => (by cases hk)), ?_⟩
  have W7 : Grow w w7 := W6.put P7 g_b4
  replace B4 := B'; clear B'
  refine nx ?_
  have BR : Box w7 b4 35 (.rat (p + q)) := (by have e : (Rat.divInt ((((p).num) * ((q.den : Int))) + (((q).num) * ((p.den : Int)))) (signed (false) (p.den * q.den)) : Rat) = p + q := ((add_as p q).symm); rw [← e]; exact B4)
  refine wp_ret ?_
  change bodyPost Try.prog Try.f15 (Ret (.rat (p + q)) w) .ret _ _
  exact body_cell (b := b4) rfl rfl aggRat BR (shRat _) rfl W7
set_option maxRecDepth 100000 in
set_option maxHeartbeats 2000000 in
theorem cRatMul {p q : Rat} {va : Value} {vb : Value} {w : World}  (ha : (MR.rat (p)).R w va) (hb : (MR.rat (q)).R w vb) (hs : szq p + szq q ≤ 17179869184) : Calls Try.prog 58 #[va, vb] w (Ret (.rat (p * q)) w) := by
  have s1 := szq_num p
  have s2 := szq_num q
  have s3 := szq_den p
  have s4 := szq_den q
  refine calls_enter (a := ⟨List.toArray ([va, vb] ++ us 21), []⟩) Try.func58 rfl (by kernel_rfl) ?_
  have NL : NoLook (bodyPost Try.prog Try.f58 (Ret (.rat (p * q)) w)) := noLook_body
  refine wp_seq ?_
  refine rg (fun c d v a w h => NL c d v a w h) [(2, .ptr 35 (.rat (p))), (3, .ptr 35 (.rat (q))), (4, .ptr 35 (.rat (0)))] [0, 1, 2] [] [] 23 3 ?_ ?_
  · refine sn [] (fun w1 hw1 => .fin (yld_newBox rfl rfl (MR.mono _ hw1 ha))) ?_
    refine sn [] (fun w1 hw1 => .fin (yld_newBox rfl rfl (MR.mono _ hw1 hb))) ?_
    exact sn [] (fun w1 hw1 => .fin (yld_newAlloc rfl zeroRat zRat)) (.nil _ _)
  rintro w1 hw1 _ ⟨b2, rfl, B2⟩ _ ⟨b3, rfl, B3⟩ _ ⟨b4, rfl, B4⟩ hN
  have W1 : Grow w w1 := (Grow.refl w).trans hw1
  have g_b4 : w.heap.size ≤ b4 := Nat.le_trans (Grow.refl w).size hN.2.2.2.2.1.1
  clear hN
  refine fr ([va, vb, pt b2, pt b3, pt b4] ++ us 18) ?_
  refine nx ?_
  refine wp_seq ?_
  refine rg (fun c d v a w h => NL c d v a w h) [(8, .eq (.pointer (some ⟨b2, 0, none⟩))), (9, .int ((p).num)), (10, .eq (.pointer (some ⟨b3, 0, none⟩))), (11, .int ((q).num)), (12, .int (((p).num) * ((q).num))), (13, .rat (p)), (14, .nat (p.den)), (15, .rat (q)), (16, .nat (q.den)), (17, .nat (p.den * q.den)), (18, .int (signed (false) (p.den * q.den))), (19, .tup2 (.rat (Rat.divInt (((p).num) * ((q).num)) (signed (false) (p.den * q.den)))) (.eq (.bool (!decide ((signed (false) (p.den * q.den)) = 0))))), (7, .tup2 (.rat (Rat.divInt (((p).num) * ((q).num)) (signed (false) (p.den * q.den)))) (.eq (.bool (!decide ((signed (false) (p.den * q.den)) = 0))))), (20, .rat (Rat.divInt (((p).num) * ((q).num)) (signed (false) (p.den * q.den)))), (21, .eq (.bool (!decide ((signed (false) (p.den * q.den)) = 0)))), (5, .ptr 35 (.rat (0)))] [15] [14] [] 23 16 ?_ ?_
  · refine so [] (fun w2 hw2 => .fin (yld_fieldAddr rfl rfl fldRat0 ⟨Grow.refl _, rfl⟩)) ?_
    refine so [0] (fun w2 hw2 => by rintro _ rfl; exact .fin (yld_loadPart rfl rfl aggInt (B2.grow hw2) (paRatNum _))) ?_
    refine so [] (fun w2 hw2 => .fin (yld_fieldAddr rfl rfl fldRat0 ⟨Grow.refl _, rfl⟩)) ?_
    refine so [2] (fun w2 hw2 => by rintro _ rfl; exact .fin (yld_loadPart rfl rfl aggInt (B3.grow hw2) (paRatNum _))) ?_
    refine so [1, 3] (fun w2 hw2 => by rintro v9 h9 v11 h11; exact .fin (yld_call rfl cal_integer_Mul rfl (cIntMul h9 h11 (by unfold LIM; first | omega | (simp only [Int.natAbs_natCast]; omega))))) ?_
    refine so [] (fun w2 hw2 => .fin (yld_loadBox rfl rfl aggRat (B2.grow hw2) (shRat _))) ?_
    refine so [5] (fun w2 hw2 => by rintro v13 h13; exact .fin (yld_call rfl cal_rat_Rat_Den rfl (cRatDen h13))) ?_
    refine so [] (fun w2 hw2 => .fin (yld_loadBox rfl rfl aggRat (B3.grow hw2) (shRat _))) ?_
    refine so [7] (fun w2 hw2 => by rintro v15 h15; exact .fin (yld_call rfl cal_rat_Rat_Den rfl (cRatDen h15))) ?_
    refine so [6, 8] (fun w2 hw2 => by rintro v14 h14 v16 h16; exact .fin (yld_call rfl cal_prod_Mul rfl (cMul h14 h16 (by unfold LIM; omega)))) ?_
    refine so [9] (fun w2 hw2 => by rintro v17 h17; exact .fin (yld_call rfl cal_integer_New rfl (cNew h17))) ?_
    refine so [4, 10] (fun w2 hw2 => by rintro v12 h12 v18 h18; exact .fin (yld_call rfl cal_rat_New rfl (cRatNew h12 h18 (new_mul p q hs).1 (new_mul p q hs).2))) ?_
    refine so [11] (fun w2 hw2 => by rintro _ ⟨x19_0, x19_1, rfl, hx19_0, hx19_1⟩; exact .fin (yld_move rfl ⟨Grow.refl _, ⟨x19_0, x19_1, rfl, hx19_0, hx19_1⟩⟩)) ?_
    refine so [12] (fun w2 hw2 => by rintro _ ⟨x7_0, x7_1, rfl, hx7_0, hx7_1⟩; exact .fin (yld_extract rfl rfl rfl ⟨Grow.refl _, hx7_0⟩)) ?_
    refine sl [12] (fun w2 hw2 => by rintro _ ⟨x7_0, x7_1, rfl, hx7_0, hx7_1⟩; exact .fin (⟨_, fun w2 _ => pure_extract rfl rfl rfl w2, hx7_1⟩)) ?_
    exact sn [] (fun w2 hw2 => .fin (yld_newAlloc rfl zeroRat zRat)) (.nil _ _)
  rintro w2 hw2 v8 - v9 - v10 - v11 - v12 - v13 - v14 - v15 - v16 - v17 - v18 - v19 - v7 - v20 h20 _ rfl _ ⟨b5, rfl, B5⟩ hN
  have W2 : Grow w w2 := W1.trans hw2
  have g_b5 : w.heap.size ≤ b5 := Nat.le_trans W1.size hN.1.1
  have n_b4_b5 : b4 ≠ b5 := Nat.ne_of_lt (Nat.lt_of_lt_of_le B4.lt hN.1.1)
  clear hN
  replace B4 := B4.grow hw2
  have KK : Kept [] w2 w2 := fun _ _ => rfl
  refine fr [va, vb, pt b2, pt b3, pt b4, pt b5, u, v7, v8, v9, v10, v11, v12, v13, v14, v15, v16, v17, v18, v19, v20, .bool (!decide ((signed (false) (p.den * q.den)) = 0)), u] ?_
  change wpListS _ _ _ _ [_, _] ⟨_, []⟩ _
  refine wpListS_yld rfl ?_
  refine yld_storeBox (R' := .rat (Rat.divInt (((p).num) * ((q).num)) (signed (false) (p.den * q.den)))) (b := b5) rfl rfl aggRat.size B5 (shRat _) h20 (shRat _) (St.rat _) (by decide) g_b5 fun w3 P3 E3 B' => ⟨fun _ => Kept.put KK P3 (fun _ hk => (by cases hk)), ?_⟩
  replace KK := Kept.put KK P3 (fun _ hk => (by cases hk))
  have W3 : Grow w w3 := W2.put P3 g_b5
  replace B4 := B4.put (St.rat _) P3 E3 n_b4_b5
  replace B5 := B'; clear B'
  change wpListS _ _ _ _ [_] ⟨_, []⟩ _
  refine wpListS_yld rfl ?_
  refine yld_assign rfl ⟨fun _ => KK, ?_⟩
  refine wpListS_nil ?_
  change Code.wp _ _ _ ⟨List.toArray (List.set _ 6 _), []⟩ _
  refine wp_seq ?_
  refine rg (fun c d v a w h => NL c d v a w h) [(22, .rat (Rat.divInt (((p).num) * ((q).num)) (signed (false) (p.den * q.den))))] [] [] [] 23 1 ?_ ?_
  · exact so [] (fun w4 hw4 => .fin (yld_loadBox rfl rfl aggRat (B5.grow hw4) (shRat _))) (.nil _ _)
  rintro w4 hw4 v22 h22 -
  have W4 : Grow w w4 := W3.trans hw4
  replace B4 := B4.grow hw4
  have KK : Kept [] w4 w4 := fun _ _ => rfl
  refine fr [va, vb, pt b2, pt b3, pt b4, pt b5, .bool (!decide ((signed (false) (p.den * q.den)) = 0)), v7, v8, v9, v10, v11, v12, v13, v14, v15, v16, v17, v18, v19, v20, .bool (!decide ((signed (false) (p.den * q.den)) = 0)), v22] ?_
  change wpListS _ _ _ _ [_] ⟨_, []⟩ _
  refine wpListS_yld rfl ?_
  refine yld_storeBox (R' := .rat (Rat.divInt (((p).num) * ((q).num)) (signed (false) (p.den * q.den)))) (b := b4) rfl rfl aggRat.size B4 (shRat _) h22 (shRat _) (St.rat _) (by decide) g_b4 fun w5 P5 E5 B' => ⟨fun _ => Kept.put KK P5 (fun _ hk => (by cases hk)), ?_⟩
  have W5 : Grow w w5 := W4.put P5 g_b4
  replace B4 := B'; clear B'
  refine nx ?_
  have BR : Box w5 b4 35 (.rat (p * q)) := (by have e : (Rat.divInt (((p).num) * ((q).num)) (signed (false) (p.den * q.den)) : Rat) = p * q := ((mul_as p q).symm); rw [← e]; exact B4)
  refine wp_ret ?_
  change bodyPost Try.prog Try.f58 (Ret (.rat (p * q)) w) .ret _ _
  exact body_cell (b := b4) rfl rfl aggRat BR (shRat _) rfl W5
set_option maxRecDepth 100000 in
set_option maxHeartbeats 2000000 in
theorem cRatCmp {p q : Rat} {va : Value} {vb : Value} {w : World}  (ha : (MR.rat (p)).R w va) (hb : (MR.rat (q)).R w vb) (hs : szq p + szq q ≤ 17179869184) : Calls Try.prog 49 #[va, vb] w (Ret (.eq (.int .i64 (cmpQ p q))) w) := by
  have _ := hs
  have s1 := szq_num p
  have s2 := szq_num q
  have s3 := szq_den p
  have s4 := szq_den q
  refine calls_enter (a := ⟨List.toArray ([va, vb] ++ us 14), []⟩) Try.func49 rfl (by kernel_rfl) ?_
  have NL : NoLook (bodyPost Try.prog Try.f49 (Ret (.eq (.int .i64 (cmpQ p q))) w)) := noLook_body
  refine wp_seq ?_
  refine rg (fun c d v a w h => NL c d v a w h) [(2, .ptr 35 (.rat (p))), (3, .ptr 35 (.rat (q))), (4, .eq (.int .i64 (0)))] [0, 1] [] [] 16 3 ?_ ?_
  · refine sn [] (fun w1 hw1 => .fin (yld_newBox rfl rfl (MR.mono _ hw1 ha))) ?_
    refine sn [] (fun w1 hw1 => .fin (yld_newBox rfl rfl (MR.mono _ hw1 hb))) ?_
    exact so [] (fun w1 hw1 => .fin (yld_assign rfl ⟨Grow.refl _, rfl⟩)) (.nil _ _)
  rintro w1 hw1 _ ⟨b2, rfl, B2⟩ _ ⟨b3, rfl, B3⟩ _ rfl hN
  have W1 : Grow w w1 := (Grow.refl w).trans hw1
  clear hN
  refine fr ([va, vb, pt b2, pt b3, .int .i64 (0)] ++ us 11) ?_
  refine nx ?_
  refine wp_seq ?_
  refine rg (fun c d v a w h => NL c d v a w h) [(5, .eq (.pointer (some ⟨b2, 0, none⟩))), (6, .int ((p).num)), (7, .rat (q)), (8, .int ((q.den : Int))), (9, .int (((p).num) * ((q.den : Int)))), (10, .eq (.pointer (some ⟨b3, 0, none⟩))), (11, .int ((q).num)), (12, .rat (p)), (13, .int ((p.den : Int))), (14, .int (((q).num) * ((p.den : Int)))), (15, .eq (.int .i64 (cmpV (((p).num) * ((q.den : Int))) (((q).num) * ((p.den : Int)))))), (4, .eq (.int .i64 (cmpV (((p).num) * ((q.den : Int))) (((q).num) * ((p.den : Int))))))] [] [] [] 16 12 ?_ ?_
  · refine so [] (fun w2 hw2 => .fin (yld_fieldAddr rfl rfl fldRat0 ⟨Grow.refl _, rfl⟩)) ?_
    refine so [0] (fun w2 hw2 => by rintro _ rfl; exact .fin (yld_loadPart rfl rfl aggInt (B2.grow hw2) (paRatNum _))) ?_
    refine so [] (fun w2 hw2 => .fin (yld_loadBox rfl rfl aggRat (B3.grow hw2) (shRat _))) ?_
    refine so [2] (fun w2 hw2 => by rintro v7 h7; exact .fin (yld_call rfl cal_rat_Rat_below rfl (cRatBelow h7))) ?_
    refine so [1, 3] (fun w2 hw2 => by rintro v6 h6 v8 h8; exact .fin (yld_call rfl cal_integer_Mul rfl (cIntMul h6 h8 (by unfold LIM; first | omega | (simp only [Int.natAbs_natCast]; omega))))) ?_
    refine so [] (fun w2 hw2 => .fin (yld_fieldAddr rfl rfl fldRat0 ⟨Grow.refl _, rfl⟩)) ?_
    refine so [5] (fun w2 hw2 => by rintro _ rfl; exact .fin (yld_loadPart rfl rfl aggInt (B3.grow hw2) (paRatNum _))) ?_
    refine so [] (fun w2 hw2 => .fin (yld_loadBox rfl rfl aggRat (B2.grow hw2) (shRat _))) ?_
    refine so [7] (fun w2 hw2 => by rintro v12 h12; exact .fin (yld_call rfl cal_rat_Rat_below rfl (cRatBelow h12))) ?_
    refine so [6, 8] (fun w2 hw2 => by rintro v11 h11 v13 h13; exact .fin (yld_call rfl cal_integer_Mul rfl (cIntMul h11 h13 (by unfold LIM; first | omega | (simp only [Int.natAbs_natCast]; omega))))) ?_
    refine so [4, 9] (fun w2 hw2 => by rintro v9 h9 v14 h14; exact .fin (yld_call rfl cal_integer_Cmp rfl (cIntCmp h9 h14))) ?_
    exact so [10] (fun w2 hw2 => by rintro _ rfl; exact .fin (yld_assign rfl ⟨Grow.refl _, rfl⟩)) (.nil _ _)
  rintro w2 hw2 v5 - v6 - v7 - v8 - v9 - v10 - v11 - v12 - v13 - v14 - v15 - _ rfl -
  have W2 : Grow w w2 := W1.trans hw2
  refine fr [va, vb, pt b2, pt b3, .int .i64 (cmpV (((p).num) * ((q.den : Int))) (((q).num) * ((p.den : Int)))), v5, v6, v7, v8, v9, v10, v11, v12, v13, v14, v15] ?_
  refine nx ?_
  refine wp_ret ?_
  change bodyPost Try.prog Try.f49 (Ret (.eq (.int .i64 (cmpQ p q))) w) .ret _ _
  exact body_slot rfl (by show Value.int _ _ = Value.int _ _; rw [show ((cmpV (((p).num) * ((q.den : Int))) (((q).num) * ((p.den : Int))) : Int)) = (cmpQ p q) from (cmpQ_eq p q)]) rfl W2
set_option maxRecDepth 100000 in
set_option maxHeartbeats 2000000 in
theorem cRatSame {p q : Rat} {va : Value} {vb : Value} {w : World}  (ha : (MR.rat (p)).R w va) (hb : (MR.rat (q)).R w vb) (hs : szq p + szq q ≤ 17179869184) : Calls Try.prog 28 #[va, vb] w (Ret (.eq (.bool (decide (p = q)))) w) := by
  refine calls_enter (a := ⟨List.toArray ([va, vb] ++ us 7), []⟩) Try.func28 rfl (by kernel_rfl) ?_
  have NL : NoLook (bodyPost Try.prog Try.f28 (Ret (.eq (.bool (decide (p = q)))) w)) := noLook_body
  refine wp_seq ?_
  refine rg (fun c d v a w h => NL c d v a w h) [(2, .ptr 35 (.rat (p))), (3, .ptr 35 (.rat (q))), (4, .eq (.bool (false)))] [0, 1] [] [] 9 3 ?_ ?_
  · refine sn [] (fun w1 hw1 => .fin (yld_newBox rfl rfl (MR.mono _ hw1 ha))) ?_
    refine sn [] (fun w1 hw1 => .fin (yld_newBox rfl rfl (MR.mono _ hw1 hb))) ?_
    exact so [] (fun w1 hw1 => .fin (yld_assign rfl ⟨Grow.refl _, rfl⟩)) (.nil _ _)
  rintro w1 hw1 _ ⟨b2, rfl, B2⟩ _ ⟨b3, rfl, B3⟩ _ rfl hN
  have W1 : Grow w w1 := (Grow.refl w).trans hw1
  clear hN
  refine fr ([va, vb, pt b2, pt b3, .bool (false)] ++ us 4) ?_
  refine nx ?_
  refine wp_seq ?_
  refine rg (fun c d v a w h => NL c d v a w h) [(5, .rat (p)), (6, .rat (q)), (7, .eq (.int .i64 (cmpQ p q))), (8, .eq (.bool ((cmpQ p q : Int) == (0 : Int)))), (4, .eq (.bool ((cmpQ p q : Int) == (0 : Int))))] [] [] [] 9 5 ?_ ?_
  · refine so [] (fun w2 hw2 => .fin (yld_loadBox rfl rfl aggRat (B2.grow hw2) (shRat _))) ?_
    refine so [] (fun w2 hw2 => .fin (yld_loadBox rfl rfl aggRat (B3.grow hw2) (shRat _))) ?_
    refine so [0, 1] (fun w2 hw2 => by rintro v5 h5 v6 h6; exact .fin (yld_call rfl cal_rat_Cmp rfl (cRatCmp h5 h6 hs))) ?_
    refine so [2] (fun w2 hw2 => by rintro _ rfl; exact .fin (yld_eql rfl rfl rfl ⟨Grow.refl _, rfl⟩)) ?_
    exact so [3] (fun w2 hw2 => by rintro _ rfl; exact .fin (yld_assign rfl ⟨Grow.refl _, rfl⟩)) (.nil _ _)
  rintro w2 hw2 v5 - v6 - v7 - v8 - _ rfl -
  have W2 : Grow w w2 := W1.trans hw2
  refine fr [va, vb, pt b2, pt b3, .bool ((cmpQ p q : Int) == (0 : Int)), v5, v6, v7, v8] ?_
  refine nx ?_
  refine wp_ret ?_
  change bodyPost Try.prog Try.f28 (Ret (.eq (.bool (decide (p = q)))) w) .ret _ _
  exact body_slot rfl (by show Value.bool _ = Value.bool _; rw [show ((cmpQ p q : Int) == (0 : Int)) = (decide (p = q)) from (cmp_same p q)]) rfl W2
set_option maxRecDepth 100000 in
set_option maxHeartbeats 2000000 in
theorem cRatInt {x : Int}  {w : World}   (hl : -9223372036854775808 ≤ x) (hu : x < 9223372036854775808) : Calls Try.prog 16 #[.int .i64 (x)] w (Ret (.rat (((x : Int) : Rat))) w) := by
  have _ := hu
  have _ := hl
  refine calls_enter (a := ⟨List.toArray ([.int .i64 (x)] ++ us 5), []⟩) Try.func16 rfl (by kernel_rfl) ?_
  have NL : NoLook (bodyPost Try.prog Try.f16 (Ret (.rat (((x : Int) : Rat))) w)) := noLook_body
  refine wp_seq ?_
  refine rg (fun c d v a w h => NL c d v a w h) [(2, .ptr 35 (.rat (0)))] [0] [] [] 6 1 ?_ ?_
  · exact sn [] (fun w1 hw1 => .fin (yld_newAlloc rfl zeroRat zRat)) (.nil _ _)
  rintro w1 hw1 _ ⟨b2, rfl, B2⟩ hN
  have W1 : Grow w w1 := (Grow.refl w).trans hw1
  have g_b2 : w.heap.size ≤ b2 := Nat.le_trans (Grow.refl w).size hN.1.1
  clear hN
  refine fr ([.int .i64 (x), u, pt b2] ++ us 3) ?_
  refine nx ?_
  refine wp_seq ?_
  refine rg (fun c d v a w h => NL c d v a w h) [(3, .eq (.int .i64 (x))), (4, .int (x)), (5, .rat (((x : Int) : Rat)))] [] [] [] 6 3 ?_ ?_
  · refine so [] (fun w2 hw2 => .fin (yld_move rfl ⟨Grow.refl _, rfl⟩)) ?_
    refine so [0] (fun w2 hw2 => by rintro _ rfl; exact .fin (yld_call rfl cal_integer_Of rfl (cIntOf (x := x) (by omega) (by omega)))) ?_
    exact so [1] (fun w2 hw2 => by rintro v4 h4; exact .fin (yld_buildRat1 rfl h4)) (.nil _ _)
  rintro w2 hw2 v3 - v4 - v5 h5 -
  have W2 : Grow w w2 := W1.trans hw2
  replace B2 := B2.grow hw2
  have KK : Kept [] w2 w2 := fun _ _ => rfl
  refine fr [.int .i64 (x), u, pt b2, v3, v4, v5] ?_
  change wpListS _ _ _ _ [_] ⟨_, []⟩ _
  refine wpListS_yld rfl ?_
  refine yld_storeBox (R' := .rat (((x : Int) : Rat))) (b := b2) rfl rfl aggRat.size B2 (shRat _) h5 (shRat _) (St.rat _) (by decide) g_b2 fun w3 P3 E3 B' => ⟨fun _ => Kept.put KK P3 (fun _ hk => (by cases hk)), ?_⟩
  have W3 : Grow w w3 := W2.put P3 g_b2
  replace B2 := B'; clear B'
  refine nx ?_
  have BR : Box w3 b2 35 (.rat (((x : Int) : Rat))) := B2
  refine wp_ret ?_
  change bodyPost Try.prog Try.f16 (Ret (.rat (((x : Int) : Rat))) w) .ret _ _
  exact body_cell (b := b2) rfl rfl aggRat BR (shRat _) rfl W3
set_option maxRecDepth 100000 in
set_option maxHeartbeats 2000000 in
theorem cRatOf {p q : Int}  {w : World}   (hl : -9223372036854775808 ≤ p) (hu : p < 9223372036854775808) (hl2 : -9223372036854775808 ≤ q) (hu2 : q < 9223372036854775808) : Calls Try.prog 59 #[.int .i64 (p), .int .i64 (q)] w (Ret (.tup2 (.rat (Rat.divInt p q)) (.eq (.bool (!decide (q = 0))))) w) := by
  refine calls_enter (a := ⟨List.toArray ([.int .i64 (p), .int .i64 (q)] ++ us 11), []⟩) Try.func59 rfl (by kernel_rfl) ?_
  have NL : NoLook (bodyPost Try.prog Try.f59 (Ret (.tup2 (.rat (Rat.divInt p q)) (.eq (.bool (!decide (q = 0))))) w)) := noLook_body
  refine wp_seq ?_
  refine rg (fun c d v a w h => NL c d v a w h) [(4, .ptr 35 (.rat (0))), (5, .eq (.bool (false)))] [0] [] [] 13 2 ?_ ?_
  · refine sn [] (fun w1 hw1 => .fin (yld_newAlloc rfl zeroRat zRat)) ?_
    exact so [] (fun w1 hw1 => .fin (yld_assign rfl ⟨Grow.refl _, rfl⟩)) (.nil _ _)
  rintro w1 hw1 _ ⟨b4, rfl, B4⟩ _ rfl hN
  have W1 : Grow w w1 := (Grow.refl w).trans hw1
  have g_b4 : w.heap.size ≤ b4 := Nat.le_trans (Grow.refl w).size hN.1.1
  clear hN
  refine fr ([.int .i64 (p), .int .i64 (q), u, u, pt b4, .bool (false)] ++ us 7) ?_
  refine nx ?_
  refine wp_seq ?_
  refine rg (fun c d v a w h => NL c d v a w h) [(6, .eq (.int .i64 (p))), (7, .int (p)), (8, .eq (.int .i64 (q))), (9, .int (q)), (10, .tup2 (.rat (Rat.divInt p q)) (.eq (.bool (!decide (q = 0))))), (11, .rat (Rat.divInt p q)), (12, .eq (.bool (!decide (q = 0))))] [] [] [] 13 7 ?_ ?_
  · refine so [] (fun w2 hw2 => .fin (yld_move rfl ⟨Grow.refl _, rfl⟩)) ?_
    refine so [0] (fun w2 hw2 => by rintro _ rfl; exact .fin (yld_call rfl cal_integer_Of rfl (cIntOf (x := p) (by omega) (by omega)))) ?_
    refine so [] (fun w2 hw2 => .fin (yld_move rfl ⟨Grow.refl _, rfl⟩)) ?_
    refine so [2] (fun w2 hw2 => by rintro _ rfl; exact .fin (yld_call rfl cal_integer_Of rfl (cIntOf (x := q) (by omega) (by omega)))) ?_
    refine so [1, 3] (fun w2 hw2 => by rintro v7 h7 v9 h9; exact .fin (yld_call rfl cal_rat_New rfl (cRatNew h7 h9 (new_of hl hu) (new_of hl2 hu2)))) ?_
    refine so [4] (fun w2 hw2 => by rintro _ ⟨x10_0, x10_1, rfl, hx10_0, hx10_1⟩; exact .fin (yld_extract rfl rfl rfl ⟨Grow.refl _, hx10_0⟩)) ?_
    exact so [4] (fun w2 hw2 => by rintro _ ⟨x10_0, x10_1, rfl, hx10_0, hx10_1⟩; exact .fin (yld_extract rfl rfl rfl ⟨Grow.refl _, hx10_1⟩)) (.nil _ _)
  rintro w2 hw2 v6 - v7 - v8 - v9 - v10 - v11 h11 _ rfl -
  have W2 : Grow w w2 := W1.trans hw2
  replace B4 := B4.grow hw2
  have KK : Kept [] w2 w2 := fun _ _ => rfl
  refine fr [.int .i64 (p), .int .i64 (q), u, u, pt b4, .bool (false), v6, v7, v8, v9, v10, v11, .bool (!decide (q = 0))] ?_
  change wpListS _ _ _ _ [_, _] ⟨_, []⟩ _
  refine wpListS_yld rfl ?_
  refine yld_storeBox (R' := .rat (Rat.divInt p q)) (b := b4) rfl rfl aggRat.size B4 (shRat _) h11 (shRat _) (St.rat _) (by decide) g_b4 fun w3 P3 E3 B' => ⟨fun _ => Kept.put KK P3 (fun _ hk => (by cases hk)), ?_⟩
  replace KK := Kept.put KK P3 (fun _ hk => (by cases hk))
  have W3 : Grow w w3 := W2.put P3 g_b4
  replace B4 := B'; clear B'
  change wpListS _ _ _ _ [_] ⟨_, []⟩ _
  refine wpListS_yld rfl ?_
  refine yld_assign rfl ⟨fun _ => KK, ?_⟩
  refine wpListS_nil ?_
  change Code.wp _ _ _ ⟨List.toArray (List.set _ 5 _), []⟩ _
  have BR : Box w3 b4 35 (.rat (Rat.divInt p q)) := B4
  refine wp_ret ?_
  change bodyPost Try.prog Try.f59 (Ret (.tup2 (.rat (Rat.divInt p q)) (.eq (.bool (!decide (q = 0))))) w) .ret _ _
  exact body_cell_slot (b := b4) rfl rfl aggRat BR (shRat _) rfl rfl W3
end Go.Proofs.Ytngghjhmfpmilaa
