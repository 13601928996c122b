/- package rat. -/
import Derived.Test.YtknflfnkdieomaaRatA
import Derived.Test.YtknflfnkdieomaaRatM2
namespace Go.Proofs.Ytknflfnkdieomaa
open Go.RowKit
theorem cal_rat_New : Callable Try.prog 21 := callable_of Try.func21 rfl (by kernel_rfl)
theorem cal_integer_Int_Sign : Callable Try.prog 29 := callable_of Try.func29 rfl (by kernel_rfl)
theorem cal_rat_Cmp : Callable Try.prog 31 := callable_of Try.func31 rfl (by kernel_rfl)
theorem cal_rat_Add : Callable Try.prog 32 := callable_of Try.func32 rfl (by kernel_rfl)
theorem cal_rat_Mul : Callable Try.prog 33 := callable_of Try.func33 rfl (by kernel_rfl)
theorem cal_integer_Cmp : Callable Try.prog 36 := callable_of Try.func36 rfl (by kernel_rfl)
theorem cal_rat_Rat_Den : Callable Try.prog 38 := callable_of Try.func38 rfl (by kernel_rfl)
theorem cal_integer_Int_Abs : Callable Try.prog 40 := callable_of Try.func40 rfl (by kernel_rfl)
theorem cal_rat_Rat_Floor : Callable Try.prog 45 := callable_of Try.func45 rfl (by kernel_rfl)
theorem cal_rat_Rat_Neg : Callable Try.prog 50 := callable_of Try.func50 rfl (by kernel_rfl)
theorem cal_rat_Rat_Inv : Callable Try.prog 52 := callable_of Try.func52 rfl (by kernel_rfl)
theorem cal_integer_Of : Callable Try.prog 60 := callable_of Try.func60 rfl (by kernel_rfl)
theorem cal_gcd_Reduce : Callable Try.prog 63 := callable_of Try.func63 rfl (by kernel_rfl)
theorem cal_rat_bare : Callable Try.prog 64 := callable_of Try.func64 rfl (by kernel_rfl)
theorem cal_integer_Int_Below : Callable Try.prog 65 := callable_of Try.func65 rfl (by kernel_rfl)
theorem cal_integer_Mul : Callable Try.prog 75 := callable_of Try.func75 rfl (by kernel_rfl)
theorem cal_rat_Rat_below : Callable Try.prog 76 := callable_of Try.func76 rfl (by kernel_rfl)
theorem cal_integer_Add : Callable Try.prog 77 := callable_of Try.func77 rfl (by kernel_rfl)
theorem cal_integer_Div : Callable Try.prog 83 := callable_of Try.func83 rfl (by kernel_rfl)
theorem cal_integer_Int_Neg : Callable Try.prog 84 := callable_of Try.func84 rfl (by kernel_rfl)
theorem cal_nat_Nat_Bits : Callable Try.prog 90 := callable_of Try.func90 rfl (by kernel_rfl)
theorem small_succ {x y : Nat} (h : nw x ≤ LIM) : Small (x / y + 1) := by
  have h1 := nw_mono' (Nat.div_le_self x y)
  have h2 := nw_add (x / y) 1
  have h3 : nw 1 ≤ 1 := by decide
  unfold Small
  unfold LIM at h
  omega
set_option maxRecDepth 100000 in
set_option maxHeartbeats 2000000 in
theorem cRatNew {y z : Int} {va : Value} {vb : Value} {w : World}  (ha : (MR.int (y)).R w va) (hb : (MR.int (z)).R w vb) (hsy : nw y.natAbs < 1099511627776) (hsz : nw z.natAbs < 1099511627776) : Calls Try.prog 21 #[va, vb] w (Ret (.tup2 (.rat (Rat.divInt y z)) (.eq (.bool (!decide (z = 0))))) w) := by
  have _ := hsz
  have _ := hsy
  refine calls_enter (a := ⟨List.toArray ([va, vb] ++ us 27), []⟩) Try.func21 rfl (by kernel_rfl) ?_
  have NL : NoLook (bodyPost Try.prog Try.f21 (Ret (.tup2 (.rat (Rat.divInt y z)) (.eq (.bool (!decide (z = 0))))) w)) := noLook_body
  refine wp_seq ?_
  refine rg (fun c d v a w h => NL c d v a w h) [(2, .ptr 35 (.int (y))), (3, .ptr 35 (.int (z))), (4, .ptr 37 (.rat (0))), (5, .eq (.bool (false)))] [0, 1, 2] [] [] 29 4 ?_ ?_
  · refine sn [] (fun w1 hw1 => .fin (yld_newBox rfl rfl (MR.mono _ hw1 ha))) ?_
    refine sn [] (fun w1 hw1 => .fin (yld_newBox rfl rfl (MR.mono _ hw1 hb))) ?_
    refine sn [] (fun w1 hw1 => .fin (yld_newAlloc rfl zeroRat zRat)) ?_
    exact so [] (fun w1 hw1 => .fin (yld_assign rfl ⟨Grow.refl _, rfl⟩)) (.nil _ _)
  rintro w1 hw1 _ ⟨b2, rfl, B2⟩ _ ⟨b3, rfl, B3⟩ _ ⟨b4, rfl, B4⟩ _ rfl hN
  have W1 : Grow w w1 := (Grow.refl w).trans hw1
  have n_b2_b4 : b2 ≠ b4 := hN.2.1 2 (by simp)
  have n_b3_b4 : b3 ≠ b4 := hN.2.2.2.1 2 (by simp)
  have g_b4 : w.heap.size ≤ b4 := Nat.le_trans (Grow.refl w).size hN.2.2.2.2.1.1
  clear hN
  refine fr ([va, vb, pt b2, pt b3, pt b4, .bool (false)] ++ us 23) ?_
  refine nx ?_
  refine wp_seq ?_
  refine wp_seq ?_
  refine rg (fun c d v a w h => NL c d v a w h) [(8, .int (z)), (9, .eq (.int .i64 ((z).sign))), (10, .eq (.bool (((z).sign : Int) == (0 : Int))))] [] [] [] 29 3 ?_ ?_
  · refine so [] (fun w2 hw2 => .fin (yld_loadBox rfl rfl aggInt (B3.grow hw2) (shInt _))) ?_
    refine so [0] (fun w2 hw2 => by rintro v8 h8; exact .fin (yld_call rfl cal_integer_Int_Sign rfl (cIntSign h8))) ?_
    exact so [1] (fun w2 hw2 => by rintro _ rfl; exact .fin (yld_eql rfl rfl rfl ⟨Grow.refl _, rfl⟩)) (.nil _ _)
  rintro w2 hw2 v8 - v9 - _ rfl -
  have W2 : Grow w w2 := W1.trans hw2
  replace B2 := B2.grow hw2
  replace B3 := B3.grow hw2
  replace B4 := B4.grow hw2
  refine fr ([va, vb, pt b2, pt b3, pt b4, .bool (false), u, u, v8, v9, .bool (((z).sign : Int) == (0 : Int))] ++ us 18) ?_
  refine nx ?_
  refine wp_cond_split (t := ((z).sign : Int) == (0 : Int)) rfl (fun hc1 => ?_) (fun hc1 => ?_)
  · have hz : z = 0 := Int.sign_eq_zero_iff_zero.1 (by simpa using hc1)
    refine wp_seq ?_
    refine rg (fun c d v a w h => NL c d v a w h) [(11, .rat (0))] [] [] [] 29 1 ?_ ?_
    · exact so [] (fun w3 hw3 => .fin (yld_build (ps := []) rfl rfl (by kernel_rfl) ⟨Grow.refl _, zRat _⟩)) (.nil _ _)
    rintro w3 hw3 v11 h11 -
    have W3 : Grow w w3 := W2.trans hw3
    replace B2 := B2.grow hw3
    replace B3 := B3.grow hw3
    replace B4 := B4.grow hw3
    have KK : Kept [] w3 w3 := fun _ _ => rfl
    refine fr ([va, vb, pt b2, pt b3, pt b4, .bool (false), u, u, v8, v9, .bool (((z).sign : Int) == (0 : Int)), v11] ++ us 17) ?_
    change wpListS _ _ _ _ [_, _] ⟨_, []⟩ _
    refine wpListS_yld rfl ?_
    refine yld_storeBox (R' := .rat (0)) (b := b4) rfl rfl aggRat.size B4 (shRat _) h11 (shRat _) (St.rat _) (by decide) g_b4 fun w4 P4 E4 B' => ⟨fun _ => Kept.put KK P4 (fun _ hk => (by cases hk)), ?_⟩
    replace KK := Kept.put KK P4 (fun _ hk => (by cases hk))
    have W4 : Grow w w4 := W3.put P4 g_b4
    replace B2 := B2.put (St.int _) P4 E4 n_b2_b4
    replace B3 := B3.put (St.int _) P4 E4 n_b3_b4
    replace B4 := B'; clear B'
    change wpListS _ _ _ _ [_] ⟨_, []⟩ _
    refine wpListS_yld rfl ?_
    refine yld_assign rfl ⟨fun _ => KK, ?_⟩
    refine wpListS_nil ?_
    change Code.wp _ _ _ ⟨List.toArray (List.set _ 5 _), []⟩ _
    have BR : Box w4 b4 37 (.rat (Rat.divInt y z)) := (by have e : (0 : Rat) = Rat.divInt y z := (by simp [hz]); rw [← e]; exact B4)
    refine wp_ret ?_
    change bodyPost Try.prog Try.f21 (Ret (.tup2 (.rat (Rat.divInt y z)) (.eq (.bool (!decide (z = 0))))) w) .ret _ _
    exact body_cell_slot (b := b4) rfl rfl aggRat BR (shRat _) (by show Value.bool _ = Value.bool _; rw [show (false) = (!decide (z = 0)) from (by simp [hz])]) rfl W4
  · have hz : z ≠ 0 := fun e => (by subst e; simp at hc1)
    refine wp_skip ?_
    change Code.wp _ _ _ ⟨_, []⟩ _
    refine wp_seq ?_
    refine rg (fun c d v a w h => NL c d v a w h) [(13, .int (y)), (14, .nat ((y).natAbs)), (15, .int (z)), (16, .nat ((z).natAbs)), (17, .tup2 (.nat (((y).natAbs) / Nat.gcd ((y).natAbs) ((z).natAbs))) (.nat (((z).natAbs) / Nat.gcd ((y).natAbs) ((z).natAbs)))), (12, .tup2 (.nat (((y).natAbs) / Nat.gcd ((y).natAbs) ((z).natAbs))) (.nat (((z).natAbs) / Nat.gcd ((y).natAbs) ((z).natAbs)))), (18, .nat (((y).natAbs) / Nat.gcd ((y).natAbs) ((z).natAbs))), (19, .nat (((z).natAbs) / Nat.gcd ((y).natAbs) ((z).natAbs))), (6, .ptr 33 (.nat (0))), (7, .ptr 33 (.nat (0)))] [8, 9] [7] [] 29 10 ?_ ?_
    · refine so [] (fun w5 hw5 => .fin (yld_loadBox rfl rfl aggInt (B2.grow hw5) (shInt _))) ?_
      refine so [0] (fun w5 hw5 => by rintro v13 h13; exact .fin (yld_call rfl cal_integer_Int_Abs rfl (cIntAbs h13))) ?_
      refine so [] (fun w5 hw5 => .fin (yld_loadBox rfl rfl aggInt (B3.grow hw5) (shInt _))) ?_
      refine so [2] (fun w5 hw5 => by rintro v15 h15; exact .fin (yld_call rfl cal_integer_Int_Abs rfl (cIntAbs h15))) ?_
      refine so [1, 3] (fun w5 hw5 => by rintro v14 h14 v16 h16; exact .fin (yld_call rfl cal_gcd_Reduce rfl (cGcdReduce h14 h16 (by first | assumption | omega) (by first | assumption | omega)))) ?_
      refine so [4] (fun w5 hw5 => by rintro _ ⟨x17_0, x17_1, rfl, hx17_0, hx17_1⟩; exact .fin (yld_move rfl ⟨Grow.refl _, ⟨x17_0, x17_1, rfl, hx17_0, hx17_1⟩⟩)) ?_
      refine so [5] (fun w5 hw5 => by rintro _ ⟨x12_0, x12_1, rfl, hx12_0, hx12_1⟩; exact .fin (yld_extract rfl rfl rfl ⟨Grow.refl _, hx12_0⟩)) ?_
      refine sl [5] (fun w5 hw5 => by rintro _ ⟨x12_0, x12_1, rfl, hx12_0, hx12_1⟩; exact .fin (⟨_, fun w2 _ => pure_extract rfl rfl rfl w2, hx12_1⟩)) ?_
      refine sn [] (fun w5 hw5 => .fin (yld_newAlloc rfl zeroNat zNat)) ?_
      exact sn [] (fun w5 hw5 => .fin (yld_newAlloc rfl zeroNat zNat)) (.nil _ _)
    rintro w5 hw5 v13 - v14 - v15 - v16 - v17 - v12 - v18 h18 v19 h19 _ ⟨b6, rfl, B6⟩ _ ⟨b7, rfl, B7⟩ hN
    have W5 : Grow w w5 := W2.trans hw5
    have g_b6 : w.heap.size ≤ b6 := Nat.le_trans W2.size hN.1.1
    have n_b2_b6 : b2 ≠ b6 := Nat.ne_of_lt (Nat.lt_of_lt_of_le B2.lt hN.1.1)
    have n_b3_b6 : b3 ≠ b6 := Nat.ne_of_lt (Nat.lt_of_lt_of_le B3.lt hN.1.1)
    have n_b4_b6 : b4 ≠ b6 := Nat.ne_of_lt (Nat.lt_of_lt_of_le B4.lt hN.1.1)
    have n_b6_b7 : b6 ≠ b7 := hN.2.1 9 (by simp)
    have g_b7 : w.heap.size ≤ b7 := Nat.le_trans W2.size hN.2.2.1.1
    have n_b2_b7 : b2 ≠ b7 := Nat.ne_of_lt (Nat.lt_of_lt_of_le B2.lt hN.2.2.1.1)
    have n_b3_b7 : b3 ≠ b7 := Nat.ne_of_lt (Nat.lt_of_lt_of_le B3.lt hN.2.2.1.1)
    have n_b4_b7 : b4 ≠ b7 := Nat.ne_of_lt (Nat.lt_of_lt_of_le B4.lt hN.2.2.1.1)
    clear hN
    replace B2 := B2.grow hw5
    replace B3 := B3.grow hw5
    replace B4 := B4.grow hw5
    have KK : Kept [] w5 w5 := fun _ _ => rfl
    refine fr ([va, vb, pt b2, pt b3, pt b4, .bool (false), pt b6, pt b7, v8, v9, .bool (((z).sign : Int) == (0 : Int)), u, v12, v13, v14, v15, v16, v17, v18, v19] ++ us 9) ?_
    change wpListS _ _ _ _ [_, _] ⟨_, []⟩ _
    refine wpListS_yld rfl ?_
    refine yld_storeBox (R' := .nat (((y).natAbs) / Nat.gcd ((y).natAbs) ((z).natAbs))) (b := b6) rfl rfl aggNat.size B6 (shNat _) h18 (shNat _) (St.nat _) (by decide) g_b6 fun w6 P6 E6 B' => ⟨fun _ => Kept.put KK P6 (fun _ hk => (by cases hk)), ?_⟩
    replace KK := Kept.put KK P6 (fun _ hk => (by cases hk))
    have W6 : Grow w w6 := W5.put P6 g_b6
    replace B2 := B2.put (St.int _) P6 E6 n_b2_b6
    replace B3 := B3.put (St.int _) P6 E6 n_b3_b6
    replace B4 := B4.put (St.rat _) P6 E6 n_b4_b6
    replace B7 := B7.put (St.nat _) P6 E6 (Ne.symm n_b6_b7)
    replace B6 := B'; clear B'
    replace h19 := MR.put h19 (St.nat _) E6
    change wpListS _ _ _ _ [_] ⟨_, []⟩ _
    refine wpListS_yld rfl ?_
    refine yld_storeBox (R' := .nat (((z).natAbs) / Nat.gcd ((y).natAbs) ((z).natAbs))) (b := b7) rfl rfl aggNat.size B7 (shNat _) h19 (shNat _) (St.nat _) (by decide) g_b7 fun w7 P7 E7 B' => ⟨fun _ => Kept.put KK P7 (fun _ hk => (by cases hk)), ?_⟩
    replace KK := Kept.put KK P7 (fun _ hk => (by cases hk))
    have W7 : Grow w w7 := W6.put P7 g_b7
    replace B2 := B2.put (St.int _) P7 E7 n_b2_b7
    replace B3 := B3.put (St.int _) P7 E7 n_b3_b7
    replace B4 := B4.put (St.rat _) P7 E7 n_b4_b7
    replace B6 := B6.put (St.nat _) P7 E7 n_b6_b7
    replace B7 := B'; clear B'
    refine nx ?_
    refine wp_seq ?_
    refine rg (fun c d v a w h => NL c d v a w h) [(20, .int (y)), (21, .eq (.bool (decide (y < 0)))), (22, .int (z)), (23, .eq (.bool (decide (z < 0)))), (24, .eq (.bool ((decide (y < 0)) != (decide (z < 0))))), (25, .nat (((y).natAbs) / Nat.gcd ((y).natAbs) ((z).natAbs))), (26, .int (signed ((decide (y < 0)) != (decide (z < 0))) (((y).natAbs) / Nat.gcd ((y).natAbs) ((z).natAbs)))), (27, .nat (((z).natAbs) / Nat.gcd ((y).natAbs) ((z).natAbs))), (28, .rat (Rat.divInt y z))] [] [] [] 29 9 ?_ ?_
    · refine so [] (fun w8 hw8 => .fin (yld_loadBox rfl rfl aggInt (B2.grow hw8) (shInt _))) ?_
      refine so [0] (fun w8 hw8 => by rintro v20 h20; exact .fin (yld_call rfl cal_integer_Int_Below rfl (cIntBelow h20))) ?_
      refine so [] (fun w8 hw8 => .fin (yld_loadBox rfl rfl aggInt (B3.grow hw8) (shInt _))) ?_
      refine so [2] (fun w8 hw8 => by rintro v22 h22; exact .fin (yld_call rfl cal_integer_Int_Below rfl (cIntBelow h22))) ?_
      refine so [1, 3] (fun w8 hw8 => by rintro _ rfl _ rfl; exact .fin (yld_bneq rfl Try.underlying4 rfl rfl ⟨Grow.refl _, rfl⟩)) ?_
      refine so [] (fun w8 hw8 => .fin (yld_loadBox rfl rfl aggNat (B6.grow hw8) (shNat _))) ?_
      refine so [4, 5] (fun w8 hw8 => by rintro _ rfl v25 h25; exact .fin (yld_call rfl cal_integer_New rfl (cNew h25))) ?_
      refine so [] (fun w8 hw8 => .fin (yld_loadBox rfl rfl aggNat (B7.grow hw8) (shNat _))) ?_
      exact so [6, 7] (fun w8 hw8 => by rintro v26 h26 v27 h27; exact .fin (yld_call rfl cal_rat_bare rfl (cRatBare (q := Rat.divInt y z) (by rw [new_num y z hz]; exact h26) (by rw [new_den y z hz]; exact h27)))) (.nil _ _)
    rintro w8 hw8 v20 - v21 - v22 - v23 - v24 - v25 - v26 - v27 - v28 h28 -
    have W8 : Grow w w8 := W7.trans hw8
    replace B4 := B4.grow hw8
    have KK : Kept [] w8 w8 := fun _ _ => rfl
    refine fr [va, vb, pt b2, pt b3, pt b4, .bool (false), pt b6, pt b7, v8, v9, .bool (((z).sign : Int) == (0 : Int)), u, v12, v13, v14, v15, v16, v17, v18, v19, v20, v21, v22, v23, v24, v25, v26, v27, v28] ?_
    change wpListS _ _ _ _ [_, _] ⟨_, []⟩ _
    refine wpListS_yld rfl ?_
    refine yld_storeBox (R' := .rat (Rat.divInt y z)) (b := b4) rfl rfl aggRat.size B4 (shRat _) h28 (shRat _) (St.rat _) (by decide) g_b4 fun w9 P9 E9 B' => ⟨fun _ => Kept.put KK P9 (fun _ hk => (by cases hk)), ?_⟩
    replace KK := Kept.put KK P9 (fun _ hk => (by cases hk))
    have W9 : Grow w w9 := W8.put P9 g_b4
    replace B4 := B'; clear B'
    change wpListS _ _ _ _ [_] ⟨_, []⟩ _
    refine wpListS_yld rfl ?_
    refine yld_assign rfl ⟨fun _ => KK, ?_⟩
    refine wpListS_nil ?_
    change Code.wp _ _ _ ⟨List.toArray (List.set _ 5 _), []⟩ _
    have BR : Box w9 b4 37 (.rat (Rat.divInt y z)) := B4
    refine wp_ret ?_
    change bodyPost Try.prog Try.f21 (Ret (.tup2 (.rat (Rat.divInt y z)) (.eq (.bool (!decide (z = 0))))) w) .ret _ _
    exact body_cell_slot (b := b4) rfl rfl aggRat BR (shRat _) (by show Value.bool _ = Value.bool _; rw [show (true) = (!decide (z = 0)) from (by simp [hz])]) rfl W9
set_option maxRecDepth 100000 in
set_option maxHeartbeats 2000000 in
theorem cRatNum {q : Rat} {va : Value} {w : World}  (ha : (MR.rat (q)).R w va)  : Calls Try.prog 28 #[va] w (Ret (.int (q.num)) w) := by
  refine calls_enter (a := ⟨List.toArray ([va] ++ us 4), []⟩) Try.func28 rfl (by kernel_rfl) ?_
  have NL : NoLook (bodyPost Try.prog Try.f28 (Ret (.int (q.num)) w)) := noLook_body
  refine wp_seq ?_
  refine rg (fun c d v a w h => NL c d v a w h) [(1, .ptr 37 (.rat (q))), (2, .ptr 35 (.int (0)))] [0, 1] [] [] 5 2 ?_ ?_
  · refine sn [] (fun w1 hw1 => .fin (yld_newBox rfl rfl (MR.mono _ hw1 ha))) ?_
    exact sn [] (fun w1 hw1 => .fin (yld_newAlloc rfl zeroInt zInt)) (.nil _ _)
  rintro w1 hw1 _ ⟨b1, rfl, B1⟩ _ ⟨b2, rfl, B2⟩ hN
  have W1 : Grow w w1 := (Grow.refl w).trans hw1
  have g_b2 : w.heap.size ≤ b2 := Nat.le_trans (Grow.refl w).size hN.2.2.1.1
  clear hN
  refine fr [va, pt b1, pt b2, u, u] ?_
  refine nx ?_
  refine wp_seq ?_
  refine rg (fun c d v a w h => NL c d v a w h) [(3, .eq (.pointer (some ⟨b1, 0, none⟩))), (4, .int ((q).num))] [] [] [] 5 2 ?_ ?_
  · refine so [] (fun w2 hw2 => .fin (yld_fieldAddr rfl rfl fldRat0 ⟨Grow.refl _, rfl⟩)) ?_
    exact so [0] (fun w2 hw2 => by rintro _ rfl; exact .fin (yld_loadPart rfl rfl aggInt (B1.grow hw2) (paRatNum _))) (.nil _ _)
  rintro w2 hw2 v3 - v4 h4 -
  have W2 : Grow w w2 := W1.trans hw2
  replace B2 := B2.grow hw2
  have KK : Kept [] w2 w2 := fun _ _ => rfl
  refine fr [va, pt b1, pt b2, v3, v4] ?_
  change wpListS _ _ _ _ [_] ⟨_, []⟩ _
  refine wpListS_yld rfl ?_
  refine yld_storeBox (R' := .int ((q).num)) (b := b2) rfl rfl aggInt.size B2 (shInt _) h4 (shInt _) (St.int _) (by decide) g_b2 fun w3 P3 E3 B' => ⟨fun _ => Kept.put KK P3 (fun _ hk => (by cases hk)), ?_⟩
  have W3 : Grow w w3 := W2.put P3 g_b2
  replace B2 := B'; clear B'
  refine nx ?_
  have BR : Box w3 b2 35 (.int (q.num)) := (by have e : ((q).num : Int) = q.num := (by first | rfl | omega | (simp; done)); rw [← e]; exact B2)
  refine wp_ret ?_
  change bodyPost Try.prog Try.f28 (Ret (.int (q.num)) w) .ret _ _
  exact body_cell (b := b2) rfl rfl aggInt BR (shInt _) rfl W3
set_option maxRecDepth 100000 in
set_option maxHeartbeats 2000000 in
theorem cRatDen {q : Rat} {va : Value} {w : World}  (ha : (MR.rat (q)).R w va)  : Calls Try.prog 38 #[va] w (Ret (.nat (q.den)) w) := by
  refine calls_enter (a := ⟨List.toArray ([va] ++ us 9), []⟩) Try.func38 rfl (by kernel_rfl) ?_
  have NL : NoLook (bodyPost Try.prog Try.f38 (Ret (.nat (q.den)) w)) := noLook_body
  refine wp_seq ?_
  refine rg (fun c d v a w h => NL c d v a w h) [(1, .ptr 37 (.rat (q))), (2, .ptr 33 (.nat (0)))] [0, 1] [] [] 10 2 ?_ ?_
  · refine sn [] (fun w1 hw1 => .fin (yld_newBox rfl rfl (MR.mono _ hw1 ha))) ?_
    exact sn [] (fun w1 hw1 => .fin (yld_newAlloc rfl zeroNat zNat)) (.nil _ _)
  rintro w1 hw1 _ ⟨b1, rfl, B1⟩ _ ⟨b2, rfl, B2⟩ hN
  have W1 : Grow w w1 := (Grow.refl w).trans hw1
  have n_b1_b2 : b1 ≠ b2 := hN.2.1 1 (by simp)
  have g_b2 : w.heap.size ≤ b2 := Nat.le_trans (Grow.refl w).size hN.2.2.1.1
  clear hN
  refine fr ([va, pt b1, pt b2] ++ us 7) ?_
  refine nx ?_
  refine wp_seq ?_
  refine wp_seq ?_
  refine rg (fun c d v a w h => NL c d v a w h) [(3, .eq (.pointer (some ⟨b1, 2, none⟩))), (4, .nat (denW (q))), (5, .eq (.bool (decide ((denW (q)) = 0))))] [] [] [] 10 3 ?_ ?_
  · refine so [] (fun w2 hw2 => .fin (yld_fieldAddr rfl rfl fldRat1 ⟨Grow.refl _, rfl⟩)) ?_
    refine so [0] (fun w2 hw2 => by rintro _ rfl; exact .fin (yld_loadPart rfl rfl aggNat (B1.grow hw2) (paRatDen _))) ?_
    exact so [1] (fun w2 hw2 => by rintro v4 h4; exact .fin (yld_call rfl cal_nat_Nat_Zero rfl (cNatZero h4))) (.nil _ _)
  rintro w2 hw2 v3 - v4 - _ rfl -
  have W2 : Grow w w2 := W1.trans hw2
  replace B1 := B1.grow hw2
  replace B2 := B2.grow hw2
  refine fr ([va, pt b1, pt b2, v3, v4, .bool (decide ((denW (q)) = 0))] ++ us 4) ?_
  refine nx ?_
  refine wp_cond_split (t := decide ((denW (q)) = 0)) rfl (fun hc1 => ?_) (fun hc1 => ?_)
  · refine wp_seq ?_
    refine rg (fun c d v a w h => NL c d v a w h) [(6, .lits ([1])), (7, .nat (1))] [] [] [] 10 2 ?_ ?_
    · refine so [] (fun w3 hw3 => .fin (yld_lit rfl rfl)) ?_
      exact so [0] (fun w3 hw3 => by rintro v6 h6; exact .fin (yld_call rfl cal_nat_Of rfl (cNatOf1 h6 (by omega)))) (.nil _ _)
    rintro w3 hw3 v6 - v7 h7 -
    have W3 : Grow w w3 := W2.trans hw3
    replace B1 := B1.grow hw3
    replace B2 := B2.grow hw3
    have KK : Kept [] w3 w3 := fun _ _ => rfl
    refine fr [va, pt b1, pt b2, v3, v4, .bool (decide ((denW (q)) = 0)), v6, v7, u, u] ?_
    change wpListS _ _ _ _ [_] ⟨_, []⟩ _
    refine wpListS_yld rfl ?_
    refine yld_storeBox (R' := .nat (1)) (b := b2) rfl rfl aggNat.size B2 (shNat _) h7 (shNat _) (St.nat _) (by decide) g_b2 fun w4 P4 E4 B' => ⟨fun _ => Kept.put KK P4 (fun _ hk => (by cases hk)), ?_⟩
    replace KK := Kept.put KK P4 (fun _ hk => (by cases hk))
    have W4 : Grow w w4 := W3.put P4 g_b2
    replace B1 := B1.put (St.rat _) P4 E4 n_b1_b2
    replace B2 := B'; clear B'
    refine nx ?_
    have BR : Box w4 b2 33 (.nat (q.den)) := (by have e : (1 : Nat) = q.den := (by first | exact (((denW_zero q).1 (of_decide_eq_true hc1)).symm) | exact denW_ne (mt (denW_zero q).2 (of_decide_eq_false hc1))); rw [← e]; exact B2)
    refine wp_ret ?_
    change bodyPost Try.prog Try.f38 (Ret (.nat (q.den)) w) .ret _ _
    exact body_cell (b := b2) rfl rfl aggNat BR (shNat _) rfl W4
  · refine wp_skip ?_
    change Code.wp _ _ _ ⟨_, []⟩ _
    refine wp_seq ?_
    refine rg (fun c d v a w h => NL c d v a w h) [(8, .eq (.pointer (some ⟨b1, 2, none⟩))), (9, .nat (denW (q)))] [] [] [] 10 2 ?_ ?_
    · refine so [] (fun w5 hw5 => .fin (yld_fieldAddr rfl rfl fldRat1 ⟨Grow.refl _, rfl⟩)) ?_
      exact so [0] (fun w5 hw5 => by rintro _ rfl; exact .fin (yld_loadPart rfl rfl aggNat (B1.grow hw5) (paRatDen _))) (.nil _ _)
    rintro w5 hw5 v8 - v9 h9 -
    have W5 : Grow w w5 := W2.trans hw5
    replace B2 := B2.grow hw5
    have KK : Kept [] w5 w5 := fun _ _ => rfl
    refine fr [va, pt b1, pt b2, v3, v4, .bool (decide ((denW (q)) = 0)), u, u, v8, v9] ?_
    change wpListS _ _ _ _ [_] ⟨_, []⟩ _
    refine wpListS_yld rfl ?_
    refine yld_storeBox (R' := .nat (denW (q))) (b := b2) rfl rfl aggNat.size B2 (shNat _) h9 (shNat _) (St.nat _) (by decide) g_b2 fun w6 P6 E6 B' => ⟨fun _ => Kept.put KK P6 (fun _ hk => (by cases hk)), ?_⟩
    have W6 : Grow w w6 := W5.put P6 g_b2
    replace B2 := B'; clear B'
    refine nx ?_
    have BR : Box w6 b2 33 (.nat (q.den)) := (by have e : (denW (q) : Nat) = q.den := (by first | exact (((denW_zero q).1 (of_decide_eq_true hc1)).symm) | exact denW_ne (mt (denW_zero q).2 (of_decide_eq_false hc1))); rw [← e]; exact B2)
    refine wp_ret ?_
    change bodyPost Try.prog Try.f38 (Ret (.nat (q.den)) w) .ret _ _
    exact body_cell (b := b2) rfl rfl aggNat BR (shNat _) rfl W6
set_option maxRecDepth 100000 in
set_option maxHeartbeats 2000000 in
theorem cRatBelow {q : Rat} {va : Value} {w : World}  (ha : (MR.rat (q)).R w va)  : Calls Try.prog 76 #[va] w (Ret (.int ((q.den : Int))) w) := by
  refine calls_enter (a := ⟨List.toArray ([va] ++ us 5), []⟩) Try.func76 rfl (by kernel_rfl) ?_
  have NL : NoLook (bodyPost Try.prog Try.f76 (Ret (.int ((q.den : Int))) w)) := noLook_body
  refine wp_seq ?_
  refine rg (fun c d v a w h => NL c d v a w h) [(1, .ptr 37 (.rat (q))), (2, .ptr 35 (.int (0)))] [0, 1] [] [] 6 2 ?_ ?_
  · refine sn [] (fun w1 hw1 => .fin (yld_newBox rfl rfl (MR.mono _ hw1 ha))) ?_
    exact sn [] (fun w1 hw1 => .fin (yld_newAlloc rfl zeroInt zInt)) (.nil _ _)
  rintro w1 hw1 _ ⟨b1, rfl, B1⟩ _ ⟨b2, rfl, B2⟩ hN
  have W1 : Grow w w1 := (Grow.refl w).trans hw1
  have g_b2 : w.heap.size ≤ b2 := Nat.le_trans (Grow.refl w).size hN.2.2.1.1
  clear hN
  refine fr ([va, pt b1, pt b2] ++ us 3) ?_
  refine nx ?_
  refine wp_seq ?_
  refine rg (fun c d v a w h => NL c d v a w h) [(3, .rat (q)), (4, .nat (q.den)), (5, .int (signed (false) (q.den)))] [] [] [] 6 3 ?_ ?_
  · refine so [] (fun w2 hw2 => .fin (yld_loadBox rfl rfl aggRat (B1.grow hw2) (shRat _))) ?_
    refine so [0] (fun w2 hw2 => by rintro v3 h3; exact .fin (yld_call rfl cal_rat_Rat_Den rfl (cRatDen h3))) ?_
    exact so [1] (fun w2 hw2 => by rintro v4 h4; exact .fin (yld_call rfl cal_integer_New rfl (cNew h4))) (.nil _ _)
  rintro w2 hw2 v3 - v4 - v5 h5 -
  have W2 : Grow w w2 := W1.trans hw2
  replace B2 := B2.grow hw2
  have KK : Kept [] w2 w2 := fun _ _ => rfl
  refine fr [va, pt b1, pt b2, v3, v4, v5] ?_
  change wpListS _ _ _ _ [_] ⟨_, []⟩ _
  refine wpListS_yld rfl ?_
  refine yld_storeBox (R' := .int (signed (false) (q.den))) (b := b2) rfl rfl aggInt.size B2 (shInt _) h5 (shInt _) (St.int _) (by decide) g_b2 fun w3 P3 E3 B' => ⟨fun _ => Kept.put KK P3 (fun _ hk => (by cases hk)), ?_⟩
  have W3 : Grow w w3 := W2.put P3 g_b2
  replace B2 := B'; clear B'
  refine nx ?_
  have BR : Box w3 b2 35 (.int ((q.den : Int))) := (by have e : (signed (false) (q.den) : Int) = (q.den : Int) := (rfl); rw [← e]; exact B2)
  refine wp_ret ?_
  change bodyPost Try.prog Try.f76 (Ret (.int ((q.den : Int))) w) .ret _ _
  exact body_cell (b := b2) rfl rfl aggInt BR (shInt _) rfl W3
set_option maxRecDepth 100000 in
set_option maxHeartbeats 2000000 in
theorem cRatSign {q : Rat} {va : Value} {w : World}  (ha : (MR.rat (q)).R w va)  : Calls Try.prog 27 #[va] w (Ret (.eq (.int .i64 (q.num.sign))) w) := by
  refine calls_enter (a := ⟨List.toArray ([va] ++ us 5), []⟩) Try.func27 rfl (by kernel_rfl) ?_
  have NL : NoLook (bodyPost Try.prog Try.f27 (Ret (.eq (.int .i64 (q.num.sign))) w)) := noLook_body
  refine wp_seq ?_
  refine rg (fun c d v a w h => NL c d v a w h) [(1, .ptr 37 (.rat (q))), (2, .eq (.int .i64 (0)))] [0] [] [] 6 2 ?_ ?_
  · refine sn [] (fun w1 hw1 => .fin (yld_newBox rfl rfl (MR.mono _ hw1 ha))) ?_
    exact so [] (fun w1 hw1 => .fin (yld_assign rfl ⟨Grow.refl _, rfl⟩)) (.nil _ _)
  rintro w1 hw1 _ ⟨b1, rfl, B1⟩ _ rfl hN
  have W1 : Grow w w1 := (Grow.refl w).trans hw1
  clear hN
  refine fr ([va, pt b1, .int .i64 (0)] ++ us 3) ?_
  refine nx ?_
  refine wp_seq ?_
  refine rg (fun c d v a w h => NL c d v a w h) [(3, .eq (.pointer (some ⟨b1, 0, none⟩))), (4, .int ((q).num)), (5, .eq (.int .i64 (((q).num).sign))), (2, .eq (.int .i64 (((q).num).sign)))] [] [] [] 6 4 ?_ ?_
  · refine so [] (fun w2 hw2 => .fin (yld_fieldAddr rfl rfl fldRat0 ⟨Grow.refl _, rfl⟩)) ?_
    refine so [0] (fun w2 hw2 => by rintro _ rfl; exact .fin (yld_loadPart rfl rfl aggInt (B1.grow hw2) (paRatNum _))) ?_
    refine so [1] (fun w2 hw2 => by rintro v4 h4; exact .fin (yld_call rfl cal_integer_Int_Sign rfl (cIntSign h4))) ?_
    exact so [2] (fun w2 hw2 => by rintro _ rfl; exact .fin (yld_assign rfl ⟨Grow.refl _, rfl⟩)) (.nil _ _)
  rintro w2 hw2 v3 - v4 - v5 - _ rfl -
  have W2 : Grow w w2 := W1.trans hw2
  refine fr [va, pt b1, .int .i64 (((q).num).sign), v3, v4, v5] ?_
  refine nx ?_
  refine wp_ret ?_
  change bodyPost Try.prog Try.f27 (Ret (.eq (.int .i64 (q.num.sign))) w) .ret _ _
  exact body_slot rfl (by show Value.int _ _ = Value.int _ _; rw [show ((((q).num).sign : Int)) = (q.num.sign) from (by first | rfl | omega | (simp; done))]) rfl W2
set_option maxRecDepth 100000 in
set_option maxHeartbeats 2000000 in
theorem cRatZero {q : Rat} {va : Value} {w : World}  (ha : (MR.rat (q)).R w va)  : Calls Try.prog 24 #[va] w (Ret (.eq (.bool (decide (q = 0)))) w) := by
  refine calls_enter (a := ⟨List.toArray ([va] ++ us 6), []⟩) Try.func24 rfl (by kernel_rfl) ?_
  have NL : NoLook (bodyPost Try.prog Try.f24 (Ret (.eq (.bool (decide (q = 0)))) w)) := noLook_body
  refine wp_seq ?_
  refine rg (fun c d v a w h => NL c d v a w h) [(1, .ptr 37 (.rat (q))), (2, .eq (.bool (false)))] [0] [] [] 7 2 ?_ ?_
  · refine sn [] (fun w1 hw1 => .fin (yld_newBox rfl rfl (MR.mono _ hw1 ha))) ?_
    exact so [] (fun w1 hw1 => .fin (yld_assign rfl ⟨Grow.refl _, rfl⟩)) (.nil _ _)
  rintro w1 hw1 _ ⟨b1, rfl, B1⟩ _ rfl hN
  have W1 : Grow w w1 := (Grow.refl w).trans hw1
  clear hN
  refine fr ([va, pt b1, .bool (false)] ++ us 4) ?_
  refine nx ?_
  refine wp_seq ?_
  refine rg (fun c d v a w h => NL c d v a w h) [(3, .eq (.pointer (some ⟨b1, 0, none⟩))), (4, .int ((q).num)), (5, .eq (.int .i64 (((q).num).sign))), (6, .eq (.bool ((((q).num).sign : Int) == (0 : Int)))), (2, .eq (.bool ((((q).num).sign : Int) == (0 : Int))))] [] [] [] 7 5 ?_ ?_
  · refine so [] (fun w2 hw2 => .fin (yld_fieldAddr rfl rfl fldRat0 ⟨Grow.refl _, rfl⟩)) ?_
    refine so [0] (fun w2 hw2 => by rintro _ rfl; exact .fin (yld_loadPart rfl rfl aggInt (B1.grow hw2) (paRatNum _))) ?_
    refine so [1] (fun w2 hw2 => by rintro v4 h4; exact .fin (yld_call rfl cal_integer_Int_Sign rfl (cIntSign h4))) ?_
    refine so [2] (fun w2 hw2 => by rintro _ rfl; exact .fin (yld_eql rfl rfl rfl ⟨Grow.refl _, rfl⟩)) ?_
    exact so [3] (fun w2 hw2 => by rintro _ rfl; exact .fin (yld_assign rfl ⟨Grow.refl _, rfl⟩)) (.nil _ _)
  rintro w2 hw2 v3 - v4 - v5 - v6 - _ rfl -
  have W2 : Grow w w2 := W1.trans hw2
  refine fr [va, pt b1, .bool ((((q).num).sign : Int) == (0 : Int)), v3, v4, v5, v6] ?_
  refine nx ?_
  refine wp_ret ?_
  change bodyPost Try.prog Try.f24 (Ret (.eq (.bool (decide (q = 0)))) w) .ret _ _
  exact body_slot rfl (by show Value.bool _ = Value.bool _; rw [show ((((q).num).sign : Int) == (0 : Int)) = (decide (q = 0)) from (sign_zero q)]) rfl W2
set_option maxRecDepth 100000 in
set_option maxHeartbeats 2000000 in
theorem cRatIsInt {q : Rat} {va : Value} {w : World}  (ha : (MR.rat (q)).R w va)  : Calls Try.prog 42 #[va] w (Ret (.eq (.bool (decide (q.den = 1)))) w) := by
  refine calls_enter (a := ⟨List.toArray ([va] ++ us 5), []⟩) Try.func42 rfl (by kernel_rfl) ?_
  have NL : NoLook (bodyPost Try.prog Try.f42 (Ret (.eq (.bool (decide (q.den = 1)))) w)) := noLook_body
  refine wp_seq ?_
  refine rg (fun c d v a w h => NL c d v a w h) [(1, .ptr 37 (.rat (q))), (2, .eq (.bool (false)))] [0] [] [] 6 2 ?_ ?_
  · refine sn [] (fun w1 hw1 => .fin (yld_newBox rfl rfl (MR.mono _ hw1 ha))) ?_
    exact so [] (fun w1 hw1 => .fin (yld_assign rfl ⟨Grow.refl _, rfl⟩)) (.nil _ _)
  rintro w1 hw1 _ ⟨b1, rfl, B1⟩ _ rfl hN
  have W1 : Grow w w1 := (Grow.refl w).trans hw1
  clear hN
  refine fr ([va, pt b1, .bool (false)] ++ us 3) ?_
  refine nx ?_
  refine wp_seq ?_
  refine rg (fun c d v a w h => NL c d v a w h) [(3, .eq (.pointer (some ⟨b1, 2, none⟩))), (4, .nat (denW (q))), (5, .eq (.bool (decide ((denW (q)) = 0)))), (2, .eq (.bool (decide ((denW (q)) = 0))))] [] [] [] 6 4 ?_ ?_
  · refine so [] (fun w2 hw2 => .fin (yld_fieldAddr rfl rfl fldRat1 ⟨Grow.refl _, rfl⟩)) ?_
    refine so [0] (fun w2 hw2 => by rintro _ rfl; exact .fin (yld_loadPart rfl rfl aggNat (B1.grow hw2) (paRatDen _))) ?_
    refine so [1] (fun w2 hw2 => by rintro v4 h4; exact .fin (yld_call rfl cal_nat_Nat_Zero rfl (cNatZero h4))) ?_
    exact so [2] (fun w2 hw2 => by rintro _ rfl; exact .fin (yld_assign rfl ⟨Grow.refl _, rfl⟩)) (.nil _ _)
  rintro w2 hw2 v3 - v4 - v5 - _ rfl -
  have W2 : Grow w w2 := W1.trans hw2
  refine fr [va, pt b1, .bool (decide ((denW (q)) = 0)), v3, v4, v5] ?_
  refine nx ?_
  refine wp_ret ?_
  change bodyPost Try.prog Try.f42 (Ret (.eq (.bool (decide (q.den = 1)))) w) .ret _ _
  exact body_slot rfl (by show Value.bool _ = Value.bool _; rw [show (decide ((denW (q)) = 0)) = (decide (q.den = 1)) from (decide_eq_decide.2 (denW_zero q))]) rfl W2
set_option maxRecDepth 100000 in
set_option maxHeartbeats 2000000 in
theorem cRatBits {q : Rat} {va : Value} {w : World}  (ha : (MR.rat (q)).R w va)  : Calls Try.prog 62 #[va] w (Ret (.eq (.int .i64 (((Wd.blen q.num.natAbs + Wd.blen q.den : Nat) : Int)))) w) := by
  have ⟨hb1, hb2, hb3, hb4⟩ := rat_small ha
  refine calls_enter (a := ⟨List.toArray ([va] ++ us 10), []⟩) Try.func62 rfl (by kernel_rfl) ?_
  have NL : NoLook (bodyPost Try.prog Try.f62 (Ret (.eq (.int .i64 (((Wd.blen q.num.natAbs + Wd.blen q.den : Nat) : Int)))) w)) := noLook_body
  refine wp_seq ?_
  refine rg (fun c d v a w h => NL c d v a w h) [(1, .ptr 37 (.rat (q))), (2, .eq (.int .i64 (0)))] [0] [] [] 11 2 ?_ ?_
  · refine sn [] (fun w1 hw1 => .fin (yld_newBox rfl rfl (MR.mono _ hw1 ha))) ?_
    exact so [] (fun w1 hw1 => .fin (yld_assign rfl ⟨Grow.refl _, rfl⟩)) (.nil _ _)
  rintro w1 hw1 _ ⟨b1, rfl, B1⟩ _ rfl hN
  have W1 : Grow w w1 := (Grow.refl w).trans hw1
  clear hN
  refine fr ([va, pt b1, .int .i64 (0)] ++ us 8) ?_
  refine nx ?_
  refine wp_seq ?_
  refine rg (fun c d v a w h => NL c d v a w h) [(3, .eq (.pointer (some ⟨b1, 0, none⟩))), (4, .int ((q).num)), (5, .nat (((q).num).natAbs)), (6, .eq (.int .i64 ((Wd.blen (((q).num).natAbs) : Nat)))), (7, .rat (q)), (8, .nat (q.den)), (9, .eq (.int .i64 ((Wd.blen q.den : Nat)))), (10, .eq (.int .i64 (((Wd.blen (((q).num).natAbs) : Nat)) + ((Wd.blen q.den : Nat))))), (2, .eq (.int .i64 (((Wd.blen (((q).num).natAbs) : Nat)) + ((Wd.blen q.den : Nat)))))] [] [] [] 11 9 ?_ ?_
  · refine so [] (fun w2 hw2 => .fin (yld_fieldAddr rfl rfl fldRat0 ⟨Grow.refl _, rfl⟩)) ?_
    refine so [0] (fun w2 hw2 => by rintro _ rfl; exact .fin (yld_loadPart rfl rfl aggInt (B1.grow hw2) (paRatNum _))) ?_
    refine so [1] (fun w2 hw2 => by rintro v4 h4; exact .fin (yld_call rfl cal_integer_Int_Abs rfl (cIntAbs h4))) ?_
    refine so [2] (fun w2 hw2 => by rintro v5 h5; exact .fin (yld_call rfl cal_nat_Nat_Bits rfl (cNatBits h5))) ?_
    refine so [] (fun w2 hw2 => .fin (yld_loadBox rfl rfl aggRat (B1.grow hw2) (shRat _))) ?_
    refine so [4] (fun w2 hw2 => by rintro v7 h7; exact .fin (yld_call rfl cal_rat_Rat_Den rfl (cRatDen h7))) ?_
    refine so [5] (fun w2 hw2 => by rintro v8 h8; exact .fin (yld_call rfl cal_nat_Nat_Bits rfl (cNatBits h8))) ?_
    refine so [3, 6] (fun w2 hw2 => by rintro _ rfl _ rfl; exact .fin (yld_add rfl rfl rfl (r := ((Wd.blen (((q).num).natAbs) : Nat)) + ((Wd.blen q.den : Nat))) (by rw [IntKind.wrap_i64]; omega) ⟨Grow.refl _, rfl⟩)) ?_
    exact so [7] (fun w2 hw2 => by rintro _ rfl; exact .fin (yld_assign rfl ⟨Grow.refl _, rfl⟩)) (.nil _ _)
  rintro w2 hw2 v3 - v4 - v5 - v6 - v7 - v8 - v9 - v10 - _ rfl -
  have W2 : Grow w w2 := W1.trans hw2
  refine fr [va, pt b1, .int .i64 (((Wd.blen (((q).num).natAbs) : Nat)) + ((Wd.blen q.den : Nat))), v3, v4, v5, v6, v7, v8, v9, v10] ?_
  refine nx ?_
  refine wp_ret ?_
  change bodyPost Try.prog Try.f62 (Ret (.eq (.int .i64 (((Wd.blen q.num.natAbs + Wd.blen q.den : Nat) : Int)))) w) .ret _ _
  exact body_slot rfl (by show Value.int _ _ = Value.int _ _; rw [show ((((Wd.blen (((q).num).natAbs) : Nat)) + ((Wd.blen q.den : Nat)) : Int)) = (((Wd.blen q.num.natAbs + Wd.blen q.den : Nat) : Int)) from (by simp)]) rfl W2
set_option maxRecDepth 100000 in
set_option maxHeartbeats 2000000 in
theorem cRatNeg {q : Rat} {va : Value} {w : World}  (ha : (MR.rat (q)).R w va)  : Calls Try.prog 50 #[va] w (Ret (.rat (-q)) w) := by
  refine calls_enter (a := ⟨List.toArray ([va] ++ us 8), []⟩) Try.func50 rfl (by kernel_rfl) ?_
  have NL : NoLook (bodyPost Try.prog Try.f50 (Ret (.rat (-q)) w)) := noLook_body
  refine wp_seq ?_
  refine rg (fun c d v a w h => NL c d v a w h) [(1, .ptr 37 (.rat (q))), (2, .ptr 37 (.rat (0)))] [0, 1] [] [] 9 2 ?_ ?_
  · refine sn [] (fun w1 hw1 => .fin (yld_newBox rfl rfl (MR.mono _ hw1 ha))) ?_
    exact sn [] (fun w1 hw1 => .fin (yld_newAlloc rfl zeroRat zRat)) (.nil _ _)
  rintro w1 hw1 _ ⟨b1, rfl, B1⟩ _ ⟨b2, rfl, B2⟩ hN
  have W1 : Grow w w1 := (Grow.refl w).trans hw1
  have g_b2 : w.heap.size ≤ b2 := Nat.le_trans (Grow.refl w).size hN.2.2.1.1
  clear hN
  refine fr ([va, pt b1, pt b2] ++ us 6) ?_
  refine nx ?_
  refine wp_seq ?_
  refine rg (fun c d v a w h => NL c d v a w h) [(3, .eq (.pointer (some ⟨b1, 0, none⟩))), (4, .int ((q).num)), (5, .int (-((q).num))), (6, .eq (.pointer (some ⟨b1, 2, none⟩))), (7, .nat (denW (q))), (8, .rat (-q))] [] [] [] 9 6 ?_ ?_
  · refine so [] (fun w2 hw2 => .fin (yld_fieldAddr rfl rfl fldRat0 ⟨Grow.refl _, rfl⟩)) ?_
    refine so [0] (fun w2 hw2 => by rintro _ rfl; exact .fin (yld_loadPart rfl rfl aggInt (B1.grow hw2) (paRatNum _))) ?_
    refine so [1] (fun w2 hw2 => by rintro v4 h4; exact .fin (yld_call rfl cal_integer_Int_Neg rfl (cIntNeg h4))) ?_
    refine so [] (fun w2 hw2 => .fin (yld_fieldAddr rfl rfl fldRat1 ⟨Grow.refl _, rfl⟩)) ?_
    refine so [3] (fun w2 hw2 => by rintro _ rfl; exact .fin (yld_loadPart rfl rfl aggNat (B1.grow hw2) (paRatDen _))) ?_
    exact so [2, 4] (fun w2 hw2 => by rintro v5 h5 v7 h7; exact .fin (yld_buildRat2 (q := -q) rfl h5 ((neg_denW q).symm ▸ h7))) (.nil _ _)
  rintro w2 hw2 v3 - v4 - v5 - v6 - v7 - v8 h8 -
  have W2 : Grow w w2 := W1.trans hw2
  replace B2 := B2.grow hw2
  have KK : Kept [] w2 w2 := fun _ _ => rfl
  refine fr [va, pt b1, pt b2, v3, v4, v5, v6, v7, v8] ?_
  change wpListS _ _ _ _ [_] ⟨_, []⟩ _
  refine wpListS_yld rfl ?_
  refine yld_storeBox (R' := .rat (-q)) (b := b2) rfl rfl aggRat.size B2 (shRat _) h8 (shRat _) (St.rat _) (by decide) g_b2 fun w3 P3 E3 B' => ⟨fun _ => Kept.put KK P3 (fun _ hk => (by cases hk)), ?_⟩
  have W3 : Grow w w3 := W2.put P3 g_b2
  replace B2 := B'; clear B'
  refine nx ?_
  have BR : Box w3 b2 37 (.rat (-q)) := B2
  refine wp_ret ?_
  change bodyPost Try.prog Try.f50 (Ret (.rat (-q)) w) .ret _ _
  exact body_cell (b := b2) rfl rfl aggRat BR (shRat _) rfl W3
set_option maxRecDepth 100000 in
set_option maxHeartbeats 2000000 in
theorem cRatAbs {q : Rat} {va : Value} {w : World}  (ha : (MR.rat (q)).R w va)  : Calls Try.prog 48 #[va] w (Ret (.rat (absQ q)) w) := by
  refine calls_enter (a := ⟨List.toArray ([va] ++ us 9), []⟩) Try.func48 rfl (by kernel_rfl) ?_
  have NL : NoLook (bodyPost Try.prog Try.f48 (Ret (.rat (absQ q)) w)) := noLook_body
  refine wp_seq ?_
  refine rg (fun c d v a w h => NL c d v a w h) [(1, .ptr 37 (.rat (q))), (2, .ptr 37 (.rat (0)))] [0, 1] [] [] 10 2 ?_ ?_
  · refine sn [] (fun w1 hw1 => .fin (yld_newBox rfl rfl (MR.mono _ hw1 ha))) ?_
    exact sn [] (fun w1 hw1 => .fin (yld_newAlloc rfl zeroRat zRat)) (.nil _ _)
  rintro w1 hw1 _ ⟨b1, rfl, B1⟩ _ ⟨b2, rfl, B2⟩ hN
  have W1 : Grow w w1 := (Grow.refl w).trans hw1
  have g_b2 : w.heap.size ≤ b2 := Nat.le_trans (Grow.refl w).size hN.2.2.1.1
  clear hN
  refine fr ([va, pt b1, pt b2] ++ us 7) ?_
  refine nx ?_
  refine wp_seq ?_
  refine rg (fun c d v a w h => NL c d v a w h) [(3, .eq (.pointer (some ⟨b1, 0, none⟩))), (4, .int ((q).num)), (5, .nat (((q).num).natAbs)), (6, .int (signed (false) (((q).num).natAbs))), (7, .eq (.pointer (some ⟨b1, 2, none⟩))), (8, .nat (denW (q))), (9, .rat (absQ q))] [] [] [] 10 7 ?_ ?_
  · refine so [] (fun w2 hw2 => .fin (yld_fieldAddr rfl rfl fldRat0 ⟨Grow.refl _, rfl⟩)) ?_
    refine so [0] (fun w2 hw2 => by rintro _ rfl; exact .fin (yld_loadPart rfl rfl aggInt (B1.grow hw2) (paRatNum _))) ?_
    refine so [1] (fun w2 hw2 => by rintro v4 h4; exact .fin (yld_call rfl cal_integer_Int_Abs rfl (cIntAbs h4))) ?_
    refine so [2] (fun w2 hw2 => by rintro v5 h5; exact .fin (yld_call rfl cal_integer_New rfl (cNew h5))) ?_
    refine so [] (fun w2 hw2 => .fin (yld_fieldAddr rfl rfl fldRat1 ⟨Grow.refl _, rfl⟩)) ?_
    refine so [4] (fun w2 hw2 => by rintro _ rfl; exact .fin (yld_loadPart rfl rfl aggNat (B1.grow hw2) (paRatDen _))) ?_
    exact so [3, 5] (fun w2 hw2 => by rintro v6 h6 v8 h8; exact .fin (yld_buildRat2 (q := absQ q) rfl (by rw [← abs_signed]; exact h6) ((abs_den q).symm ▸ h8))) (.nil _ _)
  rintro w2 hw2 v3 - v4 - v5 - v6 - v7 - v8 - v9 h9 -
  have W2 : Grow w w2 := W1.trans hw2
  replace B2 := B2.grow hw2
  have KK : Kept [] w2 w2 := fun _ _ => rfl
  refine fr [va, pt b1, pt b2, v3, v4, v5, v6, v7, v8, v9] ?_
  change wpListS _ _ _ _ [_] ⟨_, []⟩ _
  refine wpListS_yld rfl ?_
  refine yld_storeBox (R' := .rat (absQ q)) (b := b2) rfl rfl aggRat.size B2 (shRat _) h9 (shRat _) (St.rat _) (by decide) g_b2 fun w3 P3 E3 B' => ⟨fun _ => Kept.put KK P3 (fun _ hk => (by cases hk)), ?_⟩
  have W3 : Grow w w3 := W2.put P3 g_b2
  replace B2 := B'; clear B'
  refine nx ?_
  have BR : Box w3 b2 37 (.rat (absQ q)) := B2
  refine wp_ret ?_
  change bodyPost Try.prog Try.f48 (Ret (.rat (absQ q)) w) .ret _ _
  exact body_cell (b := b2) rfl rfl aggRat BR (shRat _) rfl W3
set_option maxRecDepth 100000 in
set_option maxHeartbeats 2000000 in
theorem cRatInv {q : Rat} {va : Value} {w : World}  (ha : (MR.rat (q)).R w va) (hs : szq q ≤ 17179869184) : Calls Try.prog 52 #[va] w (Ret (.tup2 (.rat ((q)⁻¹)) (.eq (.bool (!decide (q = 0))))) w) := by
  have _ := hs
  have s1 := szq_num q
  have s2 := szq_den q
  refine calls_enter (a := ⟨List.toArray ([va] ++ us 10), []⟩) Try.func52 rfl (by kernel_rfl) ?_
  have NL : NoLook (bodyPost Try.prog Try.f52 (Ret (.tup2 (.rat ((q)⁻¹)) (.eq (.bool (!decide (q = 0))))) w)) := noLook_body
  refine wp_seq ?_
  refine rg (fun c d v a w h => NL c d v a w h) [(1, .ptr 37 (.rat (q))), (2, .ptr 37 (.rat (0))), (3, .eq (.bool (false)))] [0, 1] [] [] 11 3 ?_ ?_
  · refine sn [] (fun w1 hw1 => .fin (yld_newBox rfl rfl (MR.mono _ hw1 ha))) ?_
    refine sn [] (fun w1 hw1 => .fin (yld_newAlloc rfl zeroRat zRat)) ?_
    exact so [] (fun w1 hw1 => .fin (yld_assign rfl ⟨Grow.refl _, rfl⟩)) (.nil _ _)
  rintro w1 hw1 _ ⟨b1, rfl, B1⟩ _ ⟨b2, rfl, B2⟩ _ rfl hN
  have W1 : Grow w w1 := (Grow.refl w).trans hw1
  have g_b2 : w.heap.size ≤ b2 := Nat.le_trans (Grow.refl w).size hN.2.2.1.1
  clear hN
  refine fr ([va, pt b1, pt b2, .bool (false)] ++ us 7) ?_
  refine nx ?_
  refine wp_seq ?_
  refine rg (fun c d v a w h => NL c d v a w h) [(4, .rat (q)), (5, .int ((q.den : Int))), (6, .eq (.pointer (some ⟨b1, 0, none⟩))), (7, .int ((q).num)), (8, .tup2 (.rat (Rat.divInt ((q.den : Int)) ((q).num))) (.eq (.bool (!decide (((q).num) = 0))))), (9, .rat (Rat.divInt ((q.den : Int)) ((q).num))), (10, .eq (.bool (!decide (((q).num) = 0))))] [] [] [] 11 7 ?_ ?_
  · refine so [] (fun w2 hw2 => .fin (yld_loadBox rfl rfl aggRat (B1.grow hw2) (shRat _))) ?_
    refine so [0] (fun w2 hw2 => by rintro v4 h4; exact .fin (yld_call rfl cal_rat_Rat_below rfl (cRatBelow h4))) ?_
    refine so [] (fun w2 hw2 => .fin (yld_fieldAddr rfl rfl fldRat0 ⟨Grow.refl _, rfl⟩)) ?_
    refine so [2] (fun w2 hw2 => by rintro _ rfl; exact .fin (yld_loadPart rfl rfl aggInt (B1.grow hw2) (paRatNum _))) ?_
    refine so [1, 3] (fun w2 hw2 => by rintro v5 h5 v7 h7; exact .fin (yld_call rfl cal_rat_New rfl (cRatNew h5 h7 (by simp only [Int.natAbs_natCast]; omega) (by omega)))) ?_
    refine so [4] (fun w2 hw2 => by rintro _ ⟨x8_0, x8_1, rfl, hx8_0, hx8_1⟩; exact .fin (yld_extract rfl rfl rfl ⟨Grow.refl _, hx8_0⟩)) ?_
    exact so [4] (fun w2 hw2 => by rintro _ ⟨x8_0, x8_1, rfl, hx8_0, hx8_1⟩; exact .fin (yld_extract rfl rfl rfl ⟨Grow.refl _, hx8_1⟩)) (.nil _ _)
  rintro w2 hw2 v4 - v5 - v6 - v7 - v8 - v9 h9 _ rfl -
  have W2 : Grow w w2 := W1.trans hw2
  replace B2 := B2.grow hw2
  have KK : Kept [] w2 w2 := fun _ _ => rfl
  refine fr [va, pt b1, pt b2, .bool (false), v4, v5, v6, v7, v8, v9, .bool (!decide (((q).num) = 0))] ?_
  change wpListS _ _ _ _ [_, _] ⟨_, []⟩ _
  refine wpListS_yld rfl ?_
  refine yld_storeBox (R' := .rat (Rat.divInt ((q.den : Int)) ((q).num))) (b := b2) rfl rfl aggRat.size B2 (shRat _) h9 (shRat _) (St.rat _) (by decide) g_b2 fun w3 P3 E3 B' => ⟨fun _ => Kept.put KK P3 (fun _ hk => (by cases hk)), ?_⟩
  replace KK := Kept.put KK P3 (fun _ hk => (by cases hk))
  have W3 : Grow w w3 := W2.put P3 g_b2
  replace B2 := B'; clear B'
  change wpListS _ _ _ _ [_] ⟨_, []⟩ _
  refine wpListS_yld rfl ?_
  refine yld_assign rfl ⟨fun _ => KK, ?_⟩
  refine wpListS_nil ?_
  change Code.wp _ _ _ ⟨List.toArray (List.set _ 3 _), []⟩ _
  have BR : Box w3 b2 37 (.rat ((q)⁻¹)) := (by have e : (Rat.divInt ((q.den : Int)) ((q).num) : Rat) = (q)⁻¹ := (by first | exact (Rat.inv_def q).symm | exact num_zero q); rw [← e]; exact B2)
  refine wp_ret ?_
  change bodyPost Try.prog Try.f52 (Ret (.tup2 (.rat ((q)⁻¹)) (.eq (.bool (!decide (q = 0))))) w) .ret _ _
  exact body_cell_slot (b := b2) rfl rfl aggRat BR (shRat _) (by show Value.bool _ = Value.bool _; rw [show (!decide (((q).num) = 0)) = (!decide (q = 0)) from (by first | exact (Rat.inv_def q).symm | exact num_zero q)]) rfl W3
set_option maxRecDepth 100000 in
set_option maxHeartbeats 2000000 in
theorem cRatAdd {p q : Rat} {va : Value} {vb : Value} {w : World}  (ha : (MR.rat (p)).R w va) (hb : (MR.rat (q)).R w vb) (hs : szq p + szq q ≤ 17179869184) : Calls Try.prog 32 #[va, vb] w (Ret (.rat (p + q)) w) := by
  have s1 := szq_num p
  have s2 := szq_num q
  have s3 := szq_den p
  have s4 := szq_den q
  have hA := small_add p q hs
  refine calls_enter (a := ⟨List.toArray ([va, vb] ++ us 29), []⟩) Try.func32 rfl (by kernel_rfl) ?_
  have NL : NoLook (bodyPost Try.prog Try.f32 (Ret (.rat (p + q)) w)) := noLook_body
  refine wp_seq ?_
  refine rg (fun c d v a w h => NL c d v a w h) [(2, .ptr 37 (.rat (p))), (3, .ptr 37 (.rat (q))), (4, .ptr 37 (.rat (0)))] [0, 1, 2] [] [] 31 3 ?_ ?_
  · refine sn [] (fun w1 hw1 => .fin (yld_newBox rfl rfl (MR.mono _ hw1 ha))) ?_
    refine sn [] (fun w1 hw1 => .fin (yld_newBox rfl rfl (MR.mono _ hw1 hb))) ?_
    exact sn [] (fun w1 hw1 => .fin (yld_newAlloc rfl zeroRat zRat)) (.nil _ _)
  rintro w1 hw1 _ ⟨b2, rfl, B2⟩ _ ⟨b3, rfl, B3⟩ _ ⟨b4, rfl, B4⟩ hN
  have W1 : Grow w w1 := (Grow.refl w).trans hw1
  have g_b4 : w.heap.size ≤ b4 := Nat.le_trans (Grow.refl w).size hN.2.2.2.2.1.1
  clear hN
  refine fr ([va, vb, pt b2, pt b3, pt b4] ++ us 26) ?_
  refine nx ?_
  refine wp_seq ?_
  refine rg (fun c d v a w h => NL c d v a w h) [(8, .eq (.pointer (some ⟨b2, 0, none⟩))), (9, .int ((p).num)), (10, .rat (q)), (11, .int ((q.den : Int))), (12, .int (((p).num) * ((q.den : Int)))), (13, .eq (.pointer (some ⟨b3, 0, none⟩))), (14, .int ((q).num)), (15, .rat (p)), (16, .int ((p.den : Int))), (17, .int (((q).num) * ((p.den : Int)))), (18, .int ((((p).num) * ((q.den : Int))) + (((q).num) * ((p.den : Int))))), (5, .ptr 35 (.int (0)))] [11] [] [] 31 12 ?_ ?_
  · refine so [] (fun w2 hw2 => .fin (yld_fieldAddr rfl rfl fldRat0 ⟨Grow.refl _, rfl⟩)) ?_
    refine so [0] (fun w2 hw2 => by rintro _ rfl; exact .fin (yld_loadPart rfl rfl aggInt (B2.grow hw2) (paRatNum _))) ?_
    refine so [] (fun w2 hw2 => .fin (yld_loadBox rfl rfl aggRat (B3.grow hw2) (shRat _))) ?_
    refine so [2] (fun w2 hw2 => by rintro v10 h10; exact .fin (yld_call rfl cal_rat_Rat_below rfl (cRatBelow h10))) ?_
    refine so [1, 3] (fun w2 hw2 => by rintro v9 h9 v11 h11; exact .fin (yld_call rfl cal_integer_Mul rfl (cIntMul h9 h11 (by unfold LIM; first | omega | (simp only [Int.natAbs_natCast]; omega))))) ?_
    refine so [] (fun w2 hw2 => .fin (yld_fieldAddr rfl rfl fldRat0 ⟨Grow.refl _, rfl⟩)) ?_
    refine so [5] (fun w2 hw2 => by rintro _ rfl; exact .fin (yld_loadPart rfl rfl aggInt (B3.grow hw2) (paRatNum _))) ?_
    refine so [] (fun w2 hw2 => .fin (yld_loadBox rfl rfl aggRat (B2.grow hw2) (shRat _))) ?_
    refine so [7] (fun w2 hw2 => by rintro v15 h15; exact .fin (yld_call rfl cal_rat_Rat_below rfl (cRatBelow h15))) ?_
    refine so [6, 8] (fun w2 hw2 => by rintro v14 h14 v16 h16; exact .fin (yld_call rfl cal_integer_Mul rfl (cIntMul h14 h16 (by unfold LIM; first | omega | (simp only [Int.natAbs_natCast]; omega))))) ?_
    refine so [4, 9] (fun w2 hw2 => by rintro v12 h12 v17 h17; exact .fin (yld_call rfl cal_integer_Add rfl (cIntAdd h12 h17 hA))) ?_
    exact sn [] (fun w2 hw2 => .fin (yld_newAlloc rfl zeroInt zInt)) (.nil _ _)
  rintro w2 hw2 v8 - v9 - v10 - v11 - v12 - v13 - v14 - v15 - v16 - v17 - v18 h18 _ ⟨b5, rfl, B5⟩ hN
  have W2 : Grow w w2 := W1.trans hw2
  have g_b5 : w.heap.size ≤ b5 := Nat.le_trans W1.size hN.1.1
  have n_b2_b5 : b2 ≠ b5 := Nat.ne_of_lt (Nat.lt_of_lt_of_le B2.lt hN.1.1)
  have n_b3_b5 : b3 ≠ b5 := Nat.ne_of_lt (Nat.lt_of_lt_of_le B3.lt hN.1.1)
  have n_b4_b5 : b4 ≠ b5 := Nat.ne_of_lt (Nat.lt_of_lt_of_le B4.lt hN.1.1)
  clear hN
  replace B2 := B2.grow hw2
  replace B3 := B3.grow hw2
  replace B4 := B4.grow hw2
  have KK : Kept [] w2 w2 := fun _ _ => rfl
  refine fr ([va, vb, pt b2, pt b3, pt b4, pt b5, u, u, v8, v9, v10, v11, v12, v13, v14, v15, v16, v17, v18] ++ us 12) ?_
  change wpListS _ _ _ _ [_] ⟨_, []⟩ _
  refine wpListS_yld rfl ?_
  refine yld_storeBox (R' := .int ((((p).num) * ((q.den : Int))) + (((q).num) * ((p.den : Int))))) (b := b5) rfl rfl aggInt.size B5 (shInt _) h18 (shInt _) (St.int _) (by decide) g_b5 fun w3 P3 E3 B' => ⟨fun _ => Kept.put KK P3 (fun _ hk => (by cases hk)), ?_⟩
  replace KK := Kept.put KK P3 (fun _ hk => (by cases hk))
  have W3 : Grow w w3 := W2.put P3 g_b5
  replace B2 := B2.put (St.rat _) P3 E3 n_b2_b5
  replace B3 := B3.put (St.rat _) P3 E3 n_b3_b5
  replace B4 := B4.put (St.rat _) P3 E3 n_b4_b5
  replace B5 := B'; clear B'
  refine nx ?_
  refine wp_seq ?_
  refine rg (fun c d v a w h => NL c d v a w h) [(20, .int ((((p).num) * ((q.den : Int))) + (((q).num) * ((p.den : Int))))), (21, .rat (p)), (22, .nat (p.den)), (23, .rat (q)), (24, .nat (q.den)), (25, .nat (p.den * q.den)), (26, .int (signed (false) (p.den * q.den))), (27, .tup2 (.rat (Rat.divInt ((((p).num) * ((q.den : Int))) + (((q).num) * ((p.den : Int)))) (signed (false) (p.den * q.den)))) (.eq (.bool (!decide ((signed (false) (p.den * q.den)) = 0))))), (19, .tup2 (.rat (Rat.divInt ((((p).num) * ((q.den : Int))) + (((q).num) * ((p.den : Int)))) (signed (false) (p.den * q.den)))) (.eq (.bool (!decide ((signed (false) (p.den * q.den)) = 0))))), (28, .rat (Rat.divInt ((((p).num) * ((q.den : Int))) + (((q).num) * ((p.den : Int)))) (signed (false) (p.den * q.den)))), (29, .eq (.bool (!decide ((signed (false) (p.den * q.den)) = 0)))), (6, .ptr 37 (.rat (0)))] [11] [10] [] 31 12 ?_ ?_
  · refine so [] (fun w4 hw4 => .fin (yld_loadBox rfl rfl aggInt (B5.grow hw4) (shInt _))) ?_
    refine so [] (fun w4 hw4 => .fin (yld_loadBox rfl rfl aggRat (B2.grow hw4) (shRat _))) ?_
    refine so [1] (fun w4 hw4 => by rintro v21 h21; exact .fin (yld_call rfl cal_rat_Rat_Den rfl (cRatDen h21))) ?_
    refine so [] (fun w4 hw4 => .fin (yld_loadBox rfl rfl aggRat (B3.grow hw4) (shRat _))) ?_
    refine so [3] (fun w4 hw4 => by rintro v23 h23; exact .fin (yld_call rfl cal_rat_Rat_Den rfl (cRatDen h23))) ?_
    refine so [2, 4] (fun w4 hw4 => by rintro v22 h22 v24 h24; exact .fin (yld_call rfl cal_prod_Mul rfl (cMul h22 h24 (by unfold LIM; omega)))) ?_
    refine so [5] (fun w4 hw4 => by rintro v25 h25; exact .fin (yld_call rfl cal_integer_New rfl (cNew h25))) ?_
    refine so [0, 6] (fun w4 hw4 => by rintro v20 h20 v26 h26; exact .fin (yld_call rfl cal_rat_New rfl (cRatNew h20 h26 (new_add p q hs).1 (new_add p q hs).2))) ?_
    refine so [7] (fun w4 hw4 => by rintro _ ⟨x27_0, x27_1, rfl, hx27_0, hx27_1⟩; exact .fin (yld_move rfl ⟨Grow.refl _, ⟨x27_0, x27_1, rfl, hx27_0, hx27_1⟩⟩)) ?_
    refine so [8] (fun w4 hw4 => by rintro _ ⟨x19_0, x19_1, rfl, hx19_0, hx19_1⟩; exact .fin (yld_extract rfl rfl rfl ⟨Grow.refl _, hx19_0⟩)) ?_
    refine sl [8] (fun w4 hw4 => by rintro _ ⟨x19_0, x19_1, rfl, hx19_0, hx19_1⟩; exact .fin (⟨_, fun w2 _ => pure_extract rfl rfl rfl w2, hx19_1⟩)) ?_
    exact sn [] (fun w4 hw4 => .fin (yld_newAlloc rfl zeroRat zRat)) (.nil _ _)
  rintro w4 hw4 v20 - v21 - v22 - v23 - v24 - v25 - v26 - v27 - v19 - v28 h28 _ rfl _ ⟨b6, rfl, B6⟩ hN
  have W4 : Grow w w4 := W3.trans hw4
  have g_b6 : w.heap.size ≤ b6 := Nat.le_trans W3.size hN.1.1
  have n_b4_b6 : b4 ≠ b6 := Nat.ne_of_lt (Nat.lt_of_lt_of_le B4.lt hN.1.1)
  clear hN
  replace B4 := B4.grow hw4
  have KK : Kept [] w4 w4 := fun _ _ => rfl
  refine fr [va, vb, pt b2, pt b3, pt b4, pt b5, pt b6, u, v8, v9, v10, v11, v12, v13, v14, v15, v16, v17, v18, v19, v20, v21, v22, v23, v24, v25, v26, v27, v28, .bool (!decide ((signed (false) (p.den * q.den)) = 0)), u] ?_
  change wpListS _ _ _ _ [_, _] ⟨_, []⟩ _
  refine wpListS_yld rfl ?_
  refine yld_storeBox (R' := .rat (Rat.divInt ((((p).num) * ((q.den : Int))) + (((q).num) * ((p.den : Int)))) (signed (false) (p.den * q.den)))) (b := b6) rfl rfl aggRat.size B6 (shRat _) h28 (shRat _) (St.rat _) (by decide) g_b6 fun w5 P5 E5 B' => ⟨fun _ => Kept.put KK P5 (fun _ hk => (by cases hk)), ?_⟩
  replace KK := Kept.put KK P5 (fun _ hk => (by cases hk))
  have W5 : Grow w w5 := W4.put P5 g_b6
  replace B4 := B4.put (St.rat _) P5 E5 n_b4_b6
  replace B6 := B'; clear B'
  change wpListS _ _ _ _ [_] ⟨_, []⟩ _
  refine wpListS_yld rfl ?_
  refine yld_assign rfl ⟨fun _ => KK, ?_⟩
  refine wpListS_nil ?_
  change Code.wp _ _ _ ⟨List.toArray (List.set _ 7 _), []⟩ _
  refine wp_seq ?_
  refine rg (fun c d v a w h => NL c d v a w h) [(30, .rat (Rat.divInt ((((p).num) * ((q.den : Int))) + (((q).num) * ((p.den : Int)))) (signed (false) (p.den * q.den))))] [] [] [] 31 1 ?_ ?_
  · exact so [] (fun w6 hw6 => .fin (yld_loadBox rfl rfl aggRat (B6.grow hw6) (shRat _))) (.nil _ _)
  rintro w6 hw6 v30 h30 -
  have W6 : Grow w w6 := W5.trans hw6
  replace B4 := B4.grow hw6
  have KK : Kept [] w6 w6 := fun _ _ => rfl
  refine fr [va, vb, pt b2, pt b3, pt b4, pt b5, pt b6, .bool (!decide ((signed (false) (p.den * q.den)) = 0)), v8, v9, v10, v11, v12, v13, v14, v15, v16, v17, v18, v19, v20, v21, v22, v23, v24, v25, v26, v27, v28, .bool (!decide ((signed (false) (p.den * q.den)) = 0)), v30] ?_
  change wpListS _ _ _ _ [_] ⟨_, []⟩ _
  refine wpListS_yld rfl ?_
  refine yld_storeBox (R' := .rat (Rat.divInt ((((p).num) * ((q.den : Int))) + (((q).num) * ((p.den : Int)))) (signed (false) (p.den * q.den)))) (b := b4) rfl rfl aggRat.size B4 (shRat _) h30 (shRat _) (St.rat _) (by decide) g_b4 fun w7 P7 E7 B' => ⟨fun _ => Kept.put KK P7 (fun _ hk => (by cases hk)), ?_⟩
  have W7 : Grow w w7 := W6.put P7 g_b4
  replace B4 := B'; clear B'
  refine nx ?_
  have BR : Box w7 b4 37 (.rat (p + q)) := (by have e : (Rat.divInt ((((p).num) * ((q.den : Int))) + (((q).num) * ((p.den : Int)))) (signed (false) (p.den * q.den)) : Rat) = p + q := ((add_as p q).symm); rw [← e]; exact B4)
  refine wp_ret ?_
  change bodyPost Try.prog Try.f32 (Ret (.rat (p + q)) w) .ret _ _
  exact body_cell (b := b4) rfl rfl aggRat BR (shRat _) rfl W7
set_option maxRecDepth 100000 in
set_option maxHeartbeats 2000000 in
theorem cRatSub {p q : Rat} {va : Value} {vb : Value} {w : World}  (ha : (MR.rat (p)).R w va) (hb : (MR.rat (q)).R w vb) (hs : szq p + szq q ≤ 17179869184) : Calls Try.prog 51 #[va, vb] w (Ret (.rat (p - q)) w) := by
  refine calls_enter (a := ⟨List.toArray ([va, vb] ++ us 7), []⟩) Try.func51 rfl (by kernel_rfl) ?_
  have NL : NoLook (bodyPost Try.prog Try.f51 (Ret (.rat (p - q)) w)) := noLook_body
  refine wp_seq ?_
  refine rg (fun c d v a w h => NL c d v a w h) [(2, .ptr 37 (.rat (p))), (3, .ptr 37 (.rat (q))), (4, .ptr 37 (.rat (0)))] [0, 1, 2] [] [] 9 3 ?_ ?_
  · refine sn [] (fun w1 hw1 => .fin (yld_newBox rfl rfl (MR.mono _ hw1 ha))) ?_
    refine sn [] (fun w1 hw1 => .fin (yld_newBox rfl rfl (MR.mono _ hw1 hb))) ?_
    exact sn [] (fun w1 hw1 => .fin (yld_newAlloc rfl zeroRat zRat)) (.nil _ _)
  rintro w1 hw1 _ ⟨b2, rfl, B2⟩ _ ⟨b3, rfl, B3⟩ _ ⟨b4, rfl, B4⟩ hN
  have W1 : Grow w w1 := (Grow.refl w).trans hw1
  have g_b4 : w.heap.size ≤ b4 := Nat.le_trans (Grow.refl w).size hN.2.2.2.2.1.1
  clear hN
  refine fr ([va, vb, pt b2, pt b3, pt b4] ++ us 4) ?_
  refine nx ?_
  refine wp_seq ?_
  refine rg (fun c d v a w h => NL c d v a w h) [(5, .rat (p)), (6, .rat (q)), (7, .rat (-q)), (8, .rat (p + (-q)))] [] [] [] 9 4 ?_ ?_
  · refine so [] (fun w2 hw2 => .fin (yld_loadBox rfl rfl aggRat (B2.grow hw2) (shRat _))) ?_
    refine so [] (fun w2 hw2 => .fin (yld_loadBox rfl rfl aggRat (B3.grow hw2) (shRat _))) ?_
    refine so [1] (fun w2 hw2 => by rintro v6 h6; exact .fin (yld_call rfl cal_rat_Rat_Neg rfl (cRatNeg h6))) ?_
    exact so [0, 2] (fun w2 hw2 => by rintro v5 h5 v7 h7; exact .fin (yld_call rfl cal_rat_Add rfl (cRatAdd h5 h7 (by rw [szq_neg]; exact hs)))) (.nil _ _)
  rintro w2 hw2 v5 - v6 - v7 - v8 h8 -
  have W2 : Grow w w2 := W1.trans hw2
  replace B4 := B4.grow hw2
  have KK : Kept [] w2 w2 := fun _ _ => rfl
  refine fr [va, vb, pt b2, pt b3, pt b4, v5, v6, v7, v8] ?_
  change wpListS _ _ _ _ [_] ⟨_, []⟩ _
  refine wpListS_yld rfl ?_
  refine yld_storeBox (R' := .rat (p + (-q))) (b := b4) rfl rfl aggRat.size B4 (shRat _) h8 (shRat _) (St.rat _) (by decide) g_b4 fun w3 P3 E3 B' => ⟨fun _ => Kept.put KK P3 (fun _ hk => (by cases hk)), ?_⟩
  have W3 : Grow w w3 := W2.put P3 g_b4
  replace B4 := B'; clear B'
  refine nx ?_
  have BR : Box w3 b4 37 (.rat (p - q)) := (by have e : (p + (-q) : Rat) = p - q := ((Rat.sub_eq_add_neg p q).symm); rw [← e]; exact B4)
  refine wp_ret ?_
  change bodyPost Try.prog Try.f51 (Ret (.rat (p - q)) w) .ret _ _
  exact body_cell (b := b4) rfl rfl aggRat BR (shRat _) rfl W3
set_option maxRecDepth 100000 in
set_option maxHeartbeats 2000000 in
theorem cRatMul {p q : Rat} {va : Value} {vb : Value} {w : World}  (ha : (MR.rat (p)).R w va) (hb : (MR.rat (q)).R w vb) (hs : szq p + szq q ≤ 17179869184) : Calls Try.prog 33 #[va, vb] w (Ret (.rat (p * q)) w) := by
  have s1 := szq_num p
  have s2 := szq_num q
  have s3 := szq_den p
  have s4 := szq_den q
  refine calls_enter (a := ⟨List.toArray ([va, vb] ++ us 21), []⟩) Try.func33 rfl (by kernel_rfl) ?_
  have NL : NoLook (bodyPost Try.prog Try.f33 (Ret (.rat (p * q)) w)) := noLook_body
  refine wp_seq ?_
  refine rg (fun c d v a w h => NL c d v a w h) [(2, .ptr 37 (.rat (p))), (3, .ptr 37 (.rat (q))), (4, .ptr 37 (.rat (0)))] [0, 1, 2] [] [] 23 3 ?_ ?_
  · refine sn [] (fun w1 hw1 => .fin (yld_newBox rfl rfl (MR.mono _ hw1 ha))) ?_
    refine sn [] (fun w1 hw1 => .fin (yld_newBox rfl rfl (MR.mono _ hw1 hb))) ?_
    exact sn [] (fun w1 hw1 => .fin (yld_newAlloc rfl zeroRat zRat)) (.nil _ _)
  rintro w1 hw1 _ ⟨b2, rfl, B2⟩ _ ⟨b3, rfl, B3⟩ _ ⟨b4, rfl, B4⟩ hN
  have W1 : Grow w w1 := (Grow.refl w).trans hw1
  have g_b4 : w.heap.size ≤ b4 := Nat.le_trans (Grow.refl w).size hN.2.2.2.2.1.1
  clear hN
  refine fr ([va, vb, pt b2, pt b3, pt b4] ++ us 18) ?_
  refine nx ?_
  refine wp_seq ?_
  refine rg (fun c d v a w h => NL c d v a w h) [(8, .eq (.pointer (some ⟨b2, 0, none⟩))), (9, .int ((p).num)), (10, .eq (.pointer (some ⟨b3, 0, none⟩))), (11, .int ((q).num)), (12, .int (((p).num) * ((q).num))), (13, .rat (p)), (14, .nat (p.den)), (15, .rat (q)), (16, .nat (q.den)), (17, .nat (p.den * q.den)), (18, .int (signed (false) (p.den * q.den))), (19, .tup2 (.rat (Rat.divInt (((p).num) * ((q).num)) (signed (false) (p.den * q.den)))) (.eq (.bool (!decide ((signed (false) (p.den * q.den)) = 0))))), (7, .tup2 (.rat (Rat.divInt (((p).num) * ((q).num)) (signed (false) (p.den * q.den)))) (.eq (.bool (!decide ((signed (false) (p.den * q.den)) = 0))))), (20, .rat (Rat.divInt (((p).num) * ((q).num)) (signed (false) (p.den * q.den)))), (21, .eq (.bool (!decide ((signed (false) (p.den * q.den)) = 0)))), (5, .ptr 37 (.rat (0)))] [15] [14] [] 23 16 ?_ ?_
  · refine so [] (fun w2 hw2 => .fin (yld_fieldAddr rfl rfl fldRat0 ⟨Grow.refl _, rfl⟩)) ?_
    refine so [0] (fun w2 hw2 => by rintro _ rfl; exact .fin (yld_loadPart rfl rfl aggInt (B2.grow hw2) (paRatNum _))) ?_
    refine so [] (fun w2 hw2 => .fin (yld_fieldAddr rfl rfl fldRat0 ⟨Grow.refl _, rfl⟩)) ?_
    refine so [2] (fun w2 hw2 => by rintro _ rfl; exact .fin (yld_loadPart rfl rfl aggInt (B3.grow hw2) (paRatNum _))) ?_
    refine so [1, 3] (fun w2 hw2 => by rintro v9 h9 v11 h11; exact .fin (yld_call rfl cal_integer_Mul rfl (cIntMul h9 h11 (by unfold LIM; first | omega | (simp only [Int.natAbs_natCast]; omega))))) ?_
    refine so [] (fun w2 hw2 => .fin (yld_loadBox rfl rfl aggRat (B2.grow hw2) (shRat _))) ?_
    refine so [5] (fun w2 hw2 => by rintro v13 h13; exact .fin (yld_call rfl cal_rat_Rat_Den rfl (cRatDen h13))) ?_
    refine so [] (fun w2 hw2 => .fin (yld_loadBox rfl rfl aggRat (B3.grow hw2) (shRat _))) ?_
    refine so [7] (fun w2 hw2 => by rintro v15 h15; exact .fin (yld_call rfl cal_rat_Rat_Den rfl (cRatDen h15))) ?_
    refine so [6, 8] (fun w2 hw2 => by rintro v14 h14 v16 h16; exact .fin (yld_call rfl cal_prod_Mul rfl (cMul h14 h16 (by unfold LIM; omega)))) ?_
    refine so [9] (fun w2 hw2 => by rintro v17 h17; exact .fin (yld_call rfl cal_integer_New rfl (cNew h17))) ?_
    refine so [4, 10] (fun w2 hw2 => by rintro v12 h12 v18 h18; exact .fin (yld_call rfl cal_rat_New rfl (cRatNew h12 h18 (new_mul p q hs).1 (new_mul p q hs).2))) ?_
    refine so [11] (fun w2 hw2 => by rintro _ ⟨x19_0, x19_1, rfl, hx19_0, hx19_1⟩; exact .fin (yld_move rfl ⟨Grow.refl _, ⟨x19_0, x19_1, rfl, hx19_0, hx19_1⟩⟩)) ?_
    refine so [12] (fun w2 hw2 => by rintro _ ⟨x7_0, x7_1, rfl, hx7_0, hx7_1⟩; exact .fin (yld_extract rfl rfl rfl ⟨Grow.refl _, hx7_0⟩)) ?_
    refine sl [12] (fun w2 hw2 => by rintro _ ⟨x7_0, x7_1, rfl, hx7_0, hx7_1⟩; exact .fin (⟨_, fun w2 _ => pure_extract rfl rfl rfl w2, hx7_1⟩)) ?_
    exact sn [] (fun w2 hw2 => .fin (yld_newAlloc rfl zeroRat zRat)) (.nil _ _)
  rintro w2 hw2 v8 - v9 - v10 - v11 - v12 - v13 - v14 - v15 - v16 - v17 - v18 - v19 - v7 - v20 h20 _ rfl _ ⟨b5, rfl, B5⟩ hN
  have W2 : Grow w w2 := W1.trans hw2
  have g_b5 : w.heap.size ≤ b5 := Nat.le_trans W1.size hN.1.1
  have n_b4_b5 : b4 ≠ b5 := Nat.ne_of_lt (Nat.lt_of_lt_of_le B4.lt hN.1.1)
  clear hN
  replace B4 := B4.grow hw2
  have KK : Kept [] w2 w2 := fun _ _ => rfl
  refine fr [va, vb, pt b2, pt b3, pt b4, pt b5, u, v7, v8, v9, v10, v11, v12, v13, v14, v15, v16, v17, v18, v19, v20, .bool (!decide ((signed (false) (p.den * q.den)) = 0)), u] ?_
  change wpListS _ _ _ _ [_, _] ⟨_, []⟩ _
  refine wpListS_yld rfl ?_
  refine yld_storeBox (R' := .rat (Rat.divInt (((p).num) * ((q).num)) (signed (false) (p.den * q.den)))) (b := b5) rfl rfl aggRat.size B5 (shRat _) h20 (shRat _) (St.rat _) (by decide) g_b5 fun w3 P3 E3 B' => ⟨fun _ => Kept.put KK P3 (fun _ hk => (by cases hk)), ?_⟩
  replace KK := Kept.put KK P3 (fun _ hk => (by cases hk))
  have W3 : Grow w w3 := W2.put P3 g_b5
  replace B4 := B4.put (St.rat _) P3 E3 n_b4_b5
  replace B5 := B'; clear B'
  change wpListS _ _ _ _ [_] ⟨_, []⟩ _
  refine wpListS_yld rfl ?_
  refine yld_assign rfl ⟨fun _ => KK, ?_⟩
  refine wpListS_nil ?_
  change Code.wp _ _ _ ⟨List.toArray (List.set _ 6 _), []⟩ _
  refine wp_seq ?_
  refine rg (fun c d v a w h => NL c d v a w h) [(22, .rat (Rat.divInt (((p).num) * ((q).num)) (signed (false) (p.den * q.den))))] [] [] [] 23 1 ?_ ?_
  · exact so [] (fun w4 hw4 => .fin (yld_loadBox rfl rfl aggRat (B5.grow hw4) (shRat _))) (.nil _ _)
  rintro w4 hw4 v22 h22 -
  have W4 : Grow w w4 := W3.trans hw4
  replace B4 := B4.grow hw4
  have KK : Kept [] w4 w4 := fun _ _ => rfl
  refine fr [va, vb, pt b2, pt b3, pt b4, pt b5, .bool (!decide ((signed (false) (p.den * q.den)) = 0)), v7, v8, v9, v10, v11, v12, v13, v14, v15, v16, v17, v18, v19, v20, .bool (!decide ((signed (false) (p.den * q.den)) = 0)), v22] ?_
  change wpListS _ _ _ _ [_] ⟨_, []⟩ _
  refine wpListS_yld rfl ?_
  refine yld_storeBox (R' := .rat (Rat.divInt (((p).num) * ((q).num)) (signed (false) (p.den * q.den)))) (b := b4) rfl rfl aggRat.size B4 (shRat _) h22 (shRat _) (St.rat _) (by decide) g_b4 fun w5 P5 E5 B' => ⟨fun _ => Kept.put KK P5 (fun _ hk => (by cases hk)), ?_⟩
  have W5 : Grow w w5 := W4.put P5 g_b4
  replace B4 := B'; clear B'
  refine nx ?_
  have BR : Box w5 b4 37 (.rat (p * q)) := (by have e : (Rat.divInt (((p).num) * ((q).num)) (signed (false) (p.den * q.den)) : Rat) = p * q := ((mul_as p q).symm); rw [← e]; exact B4)
  refine wp_ret ?_
  change bodyPost Try.prog Try.f33 (Ret (.rat (p * q)) w) .ret _ _
  exact body_cell (b := b4) rfl rfl aggRat BR (shRat _) rfl W5
set_option maxRecDepth 100000 in
set_option maxHeartbeats 2000000 in
theorem cRatDiv {p q : Rat} {va : Value} {vb : Value} {w : World}  (ha : (MR.rat (p)).R w va) (hb : (MR.rat (q)).R w vb) (hs : szq p + szq q + 1 ≤ 17179869184) : Calls Try.prog 53 #[va, vb] w (Ret (.tup2 (.rat (p / q)) (.eq (.bool (!decide (q = 0))))) w) := by
  have _ := hs
  have si := szq_inv q
  refine calls_enter (a := ⟨List.toArray ([va, vb] ++ us 17), []⟩) Try.func53 rfl (by kernel_rfl) ?_
  have NL : NoLook (bodyPost Try.prog Try.f53 (Ret (.tup2 (.rat (p / q)) (.eq (.bool (!decide (q = 0))))) w)) := noLook_body
  refine wp_seq ?_
  refine rg (fun c d v a w h => NL c d v a w h) [(2, .ptr 37 (.rat (p))), (3, .ptr 37 (.rat (q))), (4, .ptr 37 (.rat (0))), (5, .eq (.bool (false)))] [0, 1, 2] [] [] 19 4 ?_ ?_
  · refine sn [] (fun w1 hw1 => .fin (yld_newBox rfl rfl (MR.mono _ hw1 ha))) ?_
    refine sn [] (fun w1 hw1 => .fin (yld_newBox rfl rfl (MR.mono _ hw1 hb))) ?_
    refine sn [] (fun w1 hw1 => .fin (yld_newAlloc rfl zeroRat zRat)) ?_
    exact so [] (fun w1 hw1 => .fin (yld_assign rfl ⟨Grow.refl _, rfl⟩)) (.nil _ _)
  rintro w1 hw1 _ ⟨b2, rfl, B2⟩ _ ⟨b3, rfl, B3⟩ _ ⟨b4, rfl, B4⟩ _ rfl hN
  have W1 : Grow w w1 := (Grow.refl w).trans hw1
  have n_b2_b4 : b2 ≠ b4 := hN.2.1 2 (by simp)
  have g_b4 : w.heap.size ≤ b4 := Nat.le_trans (Grow.refl w).size hN.2.2.2.2.1.1
  clear hN
  refine fr ([va, vb, pt b2, pt b3, pt b4, .bool (false)] ++ us 13) ?_
  refine nx ?_
  refine wp_seq ?_
  refine rg (fun c d v a w h => NL c d v a w h) [(9, .rat (q)), (10, .tup2 (.rat ((q)⁻¹)) (.eq (.bool (!decide (q = 0))))), (8, .tup2 (.rat ((q)⁻¹)) (.eq (.bool (!decide (q = 0))))), (11, .rat ((q)⁻¹)), (12, .eq (.bool (!decide (q = 0)))), (6, .ptr 37 (.rat (0)))] [5] [4] [] 19 6 ?_ ?_
  · refine so [] (fun w2 hw2 => .fin (yld_loadBox rfl rfl aggRat (B3.grow hw2) (shRat _))) ?_
    refine so [0] (fun w2 hw2 => by rintro v9 h9; exact .fin (yld_call rfl cal_rat_Rat_Inv rfl (cRatInv h9 (by omega)))) ?_
    refine so [1] (fun w2 hw2 => by rintro _ ⟨x10_0, x10_1, rfl, hx10_0, hx10_1⟩; exact .fin (yld_move rfl ⟨Grow.refl _, ⟨x10_0, x10_1, rfl, hx10_0, hx10_1⟩⟩)) ?_
    refine so [2] (fun w2 hw2 => by rintro _ ⟨x8_0, x8_1, rfl, hx8_0, hx8_1⟩; exact .fin (yld_extract rfl rfl rfl ⟨Grow.refl _, hx8_0⟩)) ?_
    refine sl [2] (fun w2 hw2 => by rintro _ ⟨x8_0, x8_1, rfl, hx8_0, hx8_1⟩; exact .fin (⟨_, fun w2 _ => pure_extract rfl rfl rfl w2, hx8_1⟩)) ?_
    exact sn [] (fun w2 hw2 => .fin (yld_newAlloc rfl zeroRat zRat)) (.nil _ _)
  rintro w2 hw2 v9 - v10 - v8 - v11 h11 _ rfl _ ⟨b6, rfl, B6⟩ hN
  have W2 : Grow w w2 := W1.trans hw2
  have g_b6 : w.heap.size ≤ b6 := Nat.le_trans W1.size hN.1.1
  have n_b2_b6 : b2 ≠ b6 := Nat.ne_of_lt (Nat.lt_of_lt_of_le B2.lt hN.1.1)
  have n_b4_b6 : b4 ≠ b6 := Nat.ne_of_lt (Nat.lt_of_lt_of_le B4.lt hN.1.1)
  clear hN
  replace B2 := B2.grow hw2
  replace B4 := B4.grow hw2
  have KK : Kept [] w2 w2 := fun _ _ => rfl
  refine fr ([va, vb, pt b2, pt b3, pt b4, .bool (false), pt b6, u, v8, v9, v10, v11, .bool (!decide (q = 0))] ++ us 6) ?_
  change wpListS _ _ _ _ [_, _] ⟨_, []⟩ _
  refine wpListS_yld rfl ?_
  refine yld_storeBox (R' := .rat ((q)⁻¹)) (b := b6) rfl rfl aggRat.size B6 (shRat _) h11 (shRat _) (St.rat _) (by decide) g_b6 fun w3 P3 E3 B' => ⟨fun _ => Kept.put KK P3 (fun _ hk => (by cases hk)), ?_⟩
  replace KK := Kept.put KK P3 (fun _ hk => (by cases hk))
  have W3 : Grow w w3 := W2.put P3 g_b6
  replace B2 := B2.put (St.rat _) P3 E3 n_b2_b6
  replace B4 := B4.put (St.rat _) P3 E3 n_b4_b6
  replace B6 := B'; clear B'
  change wpListS _ _ _ _ [_] ⟨_, []⟩ _
  refine wpListS_yld rfl ?_
  refine yld_assign rfl ⟨fun _ => KK, ?_⟩
  refine wpListS_nil ?_
  change Code.wp _ _ _ ⟨List.toArray (List.set _ 7 _), []⟩ _
  refine wp_seq ?_
  refine wp_seq ?_
  refine rg (fun c d v a w h => NL c d v a w h) [(13, .eq (.bool (!decide (q = 0)))), (14, .eq (.bool (!(!decide (q = 0)))))] [] [] [] 19 2 ?_ ?_
  · refine so [] (fun w4 hw4 => .fin (yld_move rfl ⟨Grow.refl _, rfl⟩)) ?_
    exact so [0] (fun w4 hw4 => by rintro _ rfl; exact .fin (yld_not rfl rfl ⟨Grow.refl _, rfl⟩)) (.nil _ _)
  rintro w4 hw4 v13 - _ rfl -
  have W4 : Grow w w4 := W3.trans hw4
  replace B2 := B2.grow hw4
  replace B4 := B4.grow hw4
  replace B6 := B6.grow hw4
  refine fr ([va, vb, pt b2, pt b3, pt b4, .bool (false), pt b6, .bool (!decide (q = 0)), v8, v9, v10, v11, .bool (!decide (q = 0)), v13, .bool (!(!decide (q = 0)))] ++ us 4) ?_
  refine nx ?_
  refine wp_cond_split (t := !(!decide (q = 0))) rfl (fun hc1 => ?_) (fun hc1 => ?_)
  · have hz : q = 0 := (by simpa using hc1)
    refine wp_seq ?_
    refine rg (fun c d v a w h => NL c d v a w h) [(15, .rat (0))] [] [] [] 19 1 ?_ ?_
    · exact so [] (fun w5 hw5 => .fin (yld_build (ps := []) rfl rfl (by kernel_rfl) ⟨Grow.refl _, zRat _⟩)) (.nil _ _)
    rintro w5 hw5 v15 h15 -
    have W5 : Grow w w5 := W4.trans hw5
    replace B2 := B2.grow hw5
    replace B4 := B4.grow hw5
    replace B6 := B6.grow hw5
    have KK : Kept [] w5 w5 := fun _ _ => rfl
    refine fr ([va, vb, pt b2, pt b3, pt b4, .bool (false), pt b6, .bool (!decide (q = 0)), v8, v9, v10, v11, .bool (!decide (q = 0)), v13, .bool (!(!decide (q = 0))), v15] ++ us 3) ?_
    change wpListS _ _ _ _ [_, _] ⟨_, []⟩ _
    refine wpListS_yld rfl ?_
    refine yld_storeBox (R' := .rat (0)) (b := b4) rfl rfl aggRat.size B4 (shRat _) h15 (shRat _) (St.rat _) (by decide) g_b4 fun w6 P6 E6 B' => ⟨fun _ => Kept.put KK P6 (fun _ hk => (by cases hk)), ?_⟩
    replace KK := Kept.put KK P6 (fun _ hk => (by cases hk))
    have W6 : Grow w w6 := W5.put P6 g_b4
    replace B2 := B2.put (St.rat _) P6 E6 n_b2_b4
    replace B6 := B6.put (St.rat _) P6 E6 (Ne.symm n_b4_b6)
    replace B4 := B'; clear B'
    change wpListS _ _ _ _ [_] ⟨_, []⟩ _
    refine wpListS_yld rfl ?_
    refine yld_assign rfl ⟨fun _ => KK, ?_⟩
    refine wpListS_nil ?_
    change Code.wp _ _ _ ⟨List.toArray (List.set _ 5 _), []⟩ _
    have BR : Box w6 b4 37 (.rat (p / q)) := (by have e : (0 : Rat) = p / q := (by first | exact (Rat.div_def p q).symm | (simp [hz]; done) | (subst hz; rw [Rat.div_def, Rat.inv_zero, Rat.mul_zero])); rw [← e]; exact B4)
    refine wp_ret ?_
    change bodyPost Try.prog Try.f53 (Ret (.tup2 (.rat (p / q)) (.eq (.bool (!decide (q = 0))))) w) .ret _ _
    exact body_cell_slot (b := b4) rfl rfl aggRat BR (shRat _) (by show Value.bool _ = Value.bool _; rw [show (false) = (!decide (q = 0)) from (by first | exact (Rat.div_def p q).symm | (simp [hz]; done) | (subst hz; rw [Rat.div_def, Rat.inv_zero, Rat.mul_zero]))]) rfl W6
  · have hz : q ≠ 0 := (by simpa using hc1)
    refine wp_skip ?_
    change Code.wp _ _ _ ⟨_, []⟩ _
    refine wp_seq ?_
    refine rg (fun c d v a w h => NL c d v a w h) [(16, .rat (p)), (17, .rat ((q)⁻¹)), (18, .rat (p * ((q)⁻¹)))] [] [] [] 19 3 ?_ ?_
    · refine so [] (fun w7 hw7 => .fin (yld_loadBox rfl rfl aggRat (B2.grow hw7) (shRat _))) ?_
      refine so [] (fun w7 hw7 => .fin (yld_loadBox rfl rfl aggRat (B6.grow hw7) (shRat _))) ?_
      exact so [0, 1] (fun w7 hw7 => by rintro v16 h16 v17 h17; exact .fin (yld_call rfl cal_rat_Mul rfl (cRatMul h16 h17 (by omega)))) (.nil _ _)
    rintro w7 hw7 v16 - v17 - v18 h18 -
    have W7 : Grow w w7 := W4.trans hw7
    replace B4 := B4.grow hw7
    have KK : Kept [] w7 w7 := fun _ _ => rfl
    refine fr [va, vb, pt b2, pt b3, pt b4, .bool (false), pt b6, .bool (!decide (q = 0)), v8, v9, v10, v11, .bool (!decide (q = 0)), v13, .bool (!(!decide (q = 0))), u, v16, v17, v18] ?_
    change wpListS _ _ _ _ [_, _] ⟨_, []⟩ _
    refine wpListS_yld rfl ?_
    refine yld_storeBox (R' := .rat (p * ((q)⁻¹))) (b := b4) rfl rfl aggRat.size B4 (shRat _) h18 (shRat _) (St.rat _) (by decide) g_b4 fun w8 P8 E8 B' => ⟨fun _ => Kept.put KK P8 (fun _ hk => (by cases hk)), ?_⟩
    replace KK := Kept.put KK P8 (fun _ hk => (by cases hk))
    have W8 : Grow w w8 := W7.put P8 g_b4
    replace B4 := B'; clear B'
    change wpListS _ _ _ _ [_] ⟨_, []⟩ _
    refine wpListS_yld rfl ?_
    refine yld_assign rfl ⟨fun _ => KK, ?_⟩
    refine wpListS_nil ?_
    change Code.wp _ _ _ ⟨List.toArray (List.set _ 5 _), []⟩ _
    have BR : Box w8 b4 37 (.rat (p / q)) := (by have e : (p * ((q)⁻¹) : Rat) = p / q := (by first | exact (Rat.div_def p q).symm | (simp [hz]; done) | (subst hz; rw [Rat.div_def, Rat.inv_zero, Rat.mul_zero])); rw [← e]; exact B4)
    refine wp_ret ?_
    change bodyPost Try.prog Try.f53 (Ret (.tup2 (.rat (p / q)) (.eq (.bool (!decide (q = 0))))) w) .ret _ _
    exact body_cell_slot (b := b4) rfl rfl aggRat BR (shRat _) (by show Value.bool _ = Value.bool _; rw [show (true) = (!decide (q = 0)) from (by first | exact (Rat.div_def p q).symm | (simp [hz]; done) | (subst hz; rw [Rat.div_def, Rat.inv_zero, Rat.mul_zero]))]) rfl W8
set_option maxRecDepth 100000 in
set_option maxHeartbeats 2000000 in
theorem cRatCmp {p q : Rat} {va : Value} {vb : Value} {w : World}  (ha : (MR.rat (p)).R w va) (hb : (MR.rat (q)).R w vb) (hs : szq p + szq q ≤ 17179869184) : Calls Try.prog 31 #[va, vb] w (Ret (.eq (.int .i64 (cmpQ p q))) w) := by
  have _ := hs
  have s1 := szq_num p
  have s2 := szq_num q
  have s3 := szq_den p
  have s4 := szq_den q
  refine calls_enter (a := ⟨List.toArray ([va, vb] ++ us 14), []⟩) Try.func31 rfl (by kernel_rfl) ?_
  have NL : NoLook (bodyPost Try.prog Try.f31 (Ret (.eq (.int .i64 (cmpQ p q))) w)) := noLook_body
  refine wp_seq ?_
  refine rg (fun c d v a w h => NL c d v a w h) [(2, .ptr 37 (.rat (p))), (3, .ptr 37 (.rat (q))), (4, .eq (.int .i64 (0)))] [0, 1] [] [] 16 3 ?_ ?_
  · refine sn [] (fun w1 hw1 => .fin (yld_newBox rfl rfl (MR.mono _ hw1 ha))) ?_
    refine sn [] (fun w1 hw1 => .fin (yld_newBox rfl rfl (MR.mono _ hw1 hb))) ?_
    exact so [] (fun w1 hw1 => .fin (yld_assign rfl ⟨Grow.refl _, rfl⟩)) (.nil _ _)
  rintro w1 hw1 _ ⟨b2, rfl, B2⟩ _ ⟨b3, rfl, B3⟩ _ rfl hN
  have W1 : Grow w w1 := (Grow.refl w).trans hw1
  clear hN
  refine fr ([va, vb, pt b2, pt b3, .int .i64 (0)] ++ us 11) ?_
  refine nx ?_
  refine wp_seq ?_
  refine rg (fun c d v a w h => NL c d v a w h) [(5, .eq (.pointer (some ⟨b2, 0, none⟩))), (6, .int ((p).num)), (7, .rat (q)), (8, .int ((q.den : Int))), (9, .int (((p).num) * ((q.den : Int)))), (10, .eq (.pointer (some ⟨b3, 0, none⟩))), (11, .int ((q).num)), (12, .rat (p)), (13, .int ((p.den : Int))), (14, .int (((q).num) * ((p.den : Int)))), (15, .eq (.int .i64 (cmpV (((p).num) * ((q.den : Int))) (((q).num) * ((p.den : Int)))))), (4, .eq (.int .i64 (cmpV (((p).num) * ((q.den : Int))) (((q).num) * ((p.den : Int))))))] [] [] [] 16 12 ?_ ?_
  · refine so [] (fun w2 hw2 => .fin (yld_fieldAddr rfl rfl fldRat0 ⟨Grow.refl _, rfl⟩)) ?_
    refine so [0] (fun w2 hw2 => by rintro _ rfl; exact .fin (yld_loadPart rfl rfl aggInt (B2.grow hw2) (paRatNum _))) ?_
    refine so [] (fun w2 hw2 => .fin (yld_loadBox rfl rfl aggRat (B3.grow hw2) (shRat _))) ?_
    refine so [2] (fun w2 hw2 => by rintro v7 h7; exact .fin (yld_call rfl cal_rat_Rat_below rfl (cRatBelow h7))) ?_
    refine so [1, 3] (fun w2 hw2 => by rintro v6 h6 v8 h8; exact .fin (yld_call rfl cal_integer_Mul rfl (cIntMul h6 h8 (by unfold LIM; first | omega | (simp only [Int.natAbs_natCast]; omega))))) ?_
    refine so [] (fun w2 hw2 => .fin (yld_fieldAddr rfl rfl fldRat0 ⟨Grow.refl _, rfl⟩)) ?_
    refine so [5] (fun w2 hw2 => by rintro _ rfl; exact .fin (yld_loadPart rfl rfl aggInt (B3.grow hw2) (paRatNum _))) ?_
    refine so [] (fun w2 hw2 => .fin (yld_loadBox rfl rfl aggRat (B2.grow hw2) (shRat _))) ?_
    refine so [7] (fun w2 hw2 => by rintro v12 h12; exact .fin (yld_call rfl cal_rat_Rat_below rfl (cRatBelow h12))) ?_
    refine so [6, 8] (fun w2 hw2 => by rintro v11 h11 v13 h13; exact .fin (yld_call rfl cal_integer_Mul rfl (cIntMul h11 h13 (by unfold LIM; first | omega | (simp only [Int.natAbs_natCast]; omega))))) ?_
    refine so [4, 9] (fun w2 hw2 => by rintro v9 h9 v14 h14; exact .fin (yld_call rfl cal_integer_Cmp rfl (cIntCmp h9 h14))) ?_
    exact so [10] (fun w2 hw2 => by rintro _ rfl; exact .fin (yld_assign rfl ⟨Grow.refl _, rfl⟩)) (.nil _ _)
  rintro w2 hw2 v5 - v6 - v7 - v8 - v9 - v10 - v11 - v12 - v13 - v14 - v15 - _ rfl -
  have W2 : Grow w w2 := W1.trans hw2
  refine fr [va, vb, pt b2, pt b3, .int .i64 (cmpV (((p).num) * ((q.den : Int))) (((q).num) * ((p.den : Int)))), v5, v6, v7, v8, v9, v10, v11, v12, v13, v14, v15] ?_
  refine nx ?_
  refine wp_ret ?_
  change bodyPost Try.prog Try.f31 (Ret (.eq (.int .i64 (cmpQ p q))) w) .ret _ _
  exact body_slot rfl (by show Value.int _ _ = Value.int _ _; rw [show ((cmpV (((p).num) * ((q.den : Int))) (((q).num) * ((p.den : Int))) : Int)) = (cmpQ p q) from (cmpQ_eq p q)]) rfl W2
set_option maxRecDepth 100000 in
set_option maxHeartbeats 2000000 in
theorem cRatSame {p q : Rat} {va : Value} {vb : Value} {w : World}  (ha : (MR.rat (p)).R w va) (hb : (MR.rat (q)).R w vb) (hs : szq p + szq q ≤ 17179869184) : Calls Try.prog 34 #[va, vb] w (Ret (.eq (.bool (decide (p = q)))) w) := by
  refine calls_enter (a := ⟨List.toArray ([va, vb] ++ us 7), []⟩) Try.func34 rfl (by kernel_rfl) ?_
  have NL : NoLook (bodyPost Try.prog Try.f34 (Ret (.eq (.bool (decide (p = q)))) w)) := noLook_body
  refine wp_seq ?_
  refine rg (fun c d v a w h => NL c d v a w h) [(2, .ptr 37 (.rat (p))), (3, .ptr 37 (.rat (q))), (4, .eq (.bool (false)))] [0, 1] [] [] 9 3 ?_ ?_
  · refine sn [] (fun w1 hw1 => .fin (yld_newBox rfl rfl (MR.mono _ hw1 ha))) ?_
    refine sn [] (fun w1 hw1 => .fin (yld_newBox rfl rfl (MR.mono _ hw1 hb))) ?_
    exact so [] (fun w1 hw1 => .fin (yld_assign rfl ⟨Grow.refl _, rfl⟩)) (.nil _ _)
  rintro w1 hw1 _ ⟨b2, rfl, B2⟩ _ ⟨b3, rfl, B3⟩ _ rfl hN
  have W1 : Grow w w1 := (Grow.refl w).trans hw1
  clear hN
  refine fr ([va, vb, pt b2, pt b3, .bool (false)] ++ us 4) ?_
  refine nx ?_
  refine wp_seq ?_
  refine rg (fun c d v a w h => NL c d v a w h) [(5, .rat (p)), (6, .rat (q)), (7, .eq (.int .i64 (cmpQ p q))), (8, .eq (.bool ((cmpQ p q : Int) == (0 : Int)))), (4, .eq (.bool ((cmpQ p q : Int) == (0 : Int))))] [] [] [] 9 5 ?_ ?_
  · refine so [] (fun w2 hw2 => .fin (yld_loadBox rfl rfl aggRat (B2.grow hw2) (shRat _))) ?_
    refine so [] (fun w2 hw2 => .fin (yld_loadBox rfl rfl aggRat (B3.grow hw2) (shRat _))) ?_
    refine so [0, 1] (fun w2 hw2 => by rintro v5 h5 v6 h6; exact .fin (yld_call rfl cal_rat_Cmp rfl (cRatCmp h5 h6 hs))) ?_
    refine so [2] (fun w2 hw2 => by rintro _ rfl; exact .fin (yld_eql rfl rfl rfl ⟨Grow.refl _, rfl⟩)) ?_
    exact so [3] (fun w2 hw2 => by rintro _ rfl; exact .fin (yld_assign rfl ⟨Grow.refl _, rfl⟩)) (.nil _ _)
  rintro w2 hw2 v5 - v6 - v7 - v8 - _ rfl -
  have W2 : Grow w w2 := W1.trans hw2
  refine fr [va, vb, pt b2, pt b3, .bool ((cmpQ p q : Int) == (0 : Int)), v5, v6, v7, v8] ?_
  refine nx ?_
  refine wp_ret ?_
  change bodyPost Try.prog Try.f34 (Ret (.eq (.bool (decide (p = q)))) w) .ret _ _
  exact body_slot rfl (by show Value.bool _ = Value.bool _; rw [show ((cmpQ p q : Int) == (0 : Int)) = (decide (p = q)) from (cmp_same p q)]) rfl W2
set_option maxRecDepth 100000 in
set_option maxHeartbeats 2000000 in
theorem cRatMax {p q : Rat} {va : Value} {vb : Value} {w : World}  (ha : (MR.rat (p)).R w va) (hb : (MR.rat (q)).R w vb) (hs : szq p + szq q ≤ 17179869184) : Calls Try.prog 49 #[va, vb] w (Ret (.rat (if cmpQ q p > 0 then q else p)) w) := by
  have _ := hs
  refine calls_enter (a := ⟨List.toArray ([va, vb] ++ us 9), []⟩) Try.func49 rfl (by kernel_rfl) ?_
  have NL : NoLook (bodyPost Try.prog Try.f49 (Ret (.rat (if cmpQ q p > 0 then q else p)) w)) := noLook_body
  refine wp_seq ?_
  refine rg (fun c d v a w h => NL c d v a w h) [(2, .ptr 37 (.rat (p))), (3, .ptr 37 (.rat (q))), (4, .ptr 37 (.rat (0)))] [0, 1, 2] [] [] 11 3 ?_ ?_
  · refine sn [] (fun w1 hw1 => .fin (yld_newBox rfl rfl (MR.mono _ hw1 ha))) ?_
    refine sn [] (fun w1 hw1 => .fin (yld_newBox rfl rfl (MR.mono _ hw1 hb))) ?_
    exact sn [] (fun w1 hw1 => .fin (yld_newAlloc rfl zeroRat zRat)) (.nil _ _)
  rintro w1 hw1 _ ⟨b2, rfl, B2⟩ _ ⟨b3, rfl, B3⟩ _ ⟨b4, rfl, B4⟩ hN
  have W1 : Grow w w1 := (Grow.refl w).trans hw1
  have n_b2_b4 : b2 ≠ b4 := hN.2.1 2 (by simp)
  have g_b4 : w.heap.size ≤ b4 := Nat.le_trans (Grow.refl w).size hN.2.2.2.2.1.1
  clear hN
  refine fr ([va, vb, pt b2, pt b3, pt b4] ++ us 6) ?_
  refine nx ?_
  refine wp_seq ?_
  refine wp_seq ?_
  refine rg (fun c d v a w h => NL c d v a w h) [(5, .rat (q)), (6, .rat (p)), (7, .eq (.int .i64 (cmpQ q p))), (8, .eq (.bool (decide ((cmpQ q p : Int) > (0 : Int)))))] [] [] [] 11 4 ?_ ?_
  · refine so [] (fun w2 hw2 => .fin (yld_loadBox rfl rfl aggRat (B3.grow hw2) (shRat _))) ?_
    refine so [] (fun w2 hw2 => .fin (yld_loadBox rfl rfl aggRat (B2.grow hw2) (shRat _))) ?_
    refine so [0, 1] (fun w2 hw2 => by rintro v5 h5 v6 h6; exact .fin (yld_call rfl cal_rat_Cmp rfl (cRatCmp h5 h6 (by omega)))) ?_
    exact so [2] (fun w2 hw2 => by rintro _ rfl; exact .fin (yld_gtr rfl rfl rfl ⟨Grow.refl _, rfl⟩)) (.nil _ _)
  rintro w2 hw2 v5 - v6 - v7 - _ rfl -
  have W2 : Grow w w2 := W1.trans hw2
  replace B2 := B2.grow hw2
  replace B3 := B3.grow hw2
  replace B4 := B4.grow hw2
  refine fr [va, vb, pt b2, pt b3, pt b4, v5, v6, v7, .bool (decide ((cmpQ q p : Int) > (0 : Int))), u, u] ?_
  refine nx ?_
  refine wp_cond_split (t := decide ((cmpQ q p : Int) > (0 : Int))) rfl (fun hc1 => ?_) (fun hc1 => ?_)
  · refine wp_seq ?_
    refine rg (fun c d v a w h => NL c d v a w h) [(9, .rat (q))] [] [] [] 11 1 ?_ ?_
    · exact so [] (fun w3 hw3 => .fin (yld_loadBox rfl rfl aggRat (B3.grow hw3) (shRat _))) (.nil _ _)
    rintro w3 hw3 v9 h9 -
    have W3 : Grow w w3 := W2.trans hw3
    replace B2 := B2.grow hw3
    replace B4 := B4.grow hw3
    have KK : Kept [] w3 w3 := fun _ _ => rfl
    refine fr [va, vb, pt b2, pt b3, pt b4, v5, v6, v7, .bool (decide ((cmpQ q p : Int) > (0 : Int))), v9, u] ?_
    change wpListS _ _ _ _ [_] ⟨_, []⟩ _
    refine wpListS_yld rfl ?_
    refine yld_storeBox (R' := .rat (q)) (b := b4) rfl rfl aggRat.size B4 (shRat _) h9 (shRat _) (St.rat _) (by decide) g_b4 fun w4 P4 E4 B' => ⟨fun _ => Kept.put KK P4 (fun _ hk => (by cases hk)), ?_⟩
    replace KK := Kept.put KK P4 (fun _ hk => (by cases hk))
    have W4 : Grow w w4 := W3.put P4 g_b4
    replace B2 := B2.put (St.rat _) P4 E4 n_b2_b4
    replace B4 := B'; clear B'
    refine nx ?_
    have BR : Box w4 b4 37 (.rat (if cmpQ q p > 0 then q else p)) := (by have e : (q : Rat) = if cmpQ q p > 0 then q else p := (by first | exact (if_pos (of_decide_eq_true hc1)).symm | exact (if_neg (of_decide_eq_false hc1)).symm); rw [← e]; exact B4)
    refine wp_ret ?_
    change bodyPost Try.prog Try.f49 (Ret (.rat (if cmpQ q p > 0 then q else p)) w) .ret _ _
    exact body_cell (b := b4) rfl rfl aggRat BR (shRat _) rfl W4
  · refine wp_skip ?_
    change Code.wp _ _ _ ⟨_, []⟩ _
    refine wp_seq ?_
    refine rg (fun c d v a w h => NL c d v a w h) [(10, .rat (p))] [] [] [] 11 1 ?_ ?_
    · exact so [] (fun w5 hw5 => .fin (yld_loadBox rfl rfl aggRat (B2.grow hw5) (shRat _))) (.nil _ _)
    rintro w5 hw5 v10 h10 -
    have W5 : Grow w w5 := W2.trans hw5
    replace B4 := B4.grow hw5
    have KK : Kept [] w5 w5 := fun _ _ => rfl
    refine fr [va, vb, pt b2, pt b3, pt b4, v5, v6, v7, .bool (decide ((cmpQ q p : Int) > (0 : Int))), u, v10] ?_
    change wpListS _ _ _ _ [_] ⟨_, []⟩ _
    refine wpListS_yld rfl ?_
    refine yld_storeBox (R' := .rat (p)) (b := b4) rfl rfl aggRat.size B4 (shRat _) h10 (shRat _) (St.rat _) (by decide) g_b4 fun w6 P6 E6 B' => ⟨fun _ => Kept.put KK P6 (fun _ hk => (by cases hk)), ?_⟩
    have W6 : Grow w w6 := W5.put P6 g_b4
    replace B4 := B'; clear B'
    refine nx ?_
    have BR : Box w6 b4 37 (.rat (if cmpQ q p > 0 then q else p)) := (by have e : (p : Rat) = if cmpQ q p > 0 then q else p := (by first | exact (if_pos (of_decide_eq_true hc1)).symm | exact (if_neg (of_decide_eq_false hc1)).symm); rw [← e]; exact B4)
    refine wp_ret ?_
    change bodyPost Try.prog Try.f49 (Ret (.rat (if cmpQ q p > 0 then q else p)) w) .ret _ _
    exact body_cell (b := b4) rfl rfl aggRat BR (shRat _) rfl W6
set_option maxRecDepth 100000 in
set_option maxHeartbeats 2000000 in
theorem cRatWhole {z : Int} {va : Value} {w : World}  (ha : (MR.int (z)).R w va)  : Calls Try.prog 43 #[va] w (Ret (.rat (((z : Int) : Rat))) w) := by
  refine calls_enter (a := ⟨List.toArray ([va] ++ us 4), []⟩) Try.func43 rfl (by kernel_rfl) ?_
  have NL : NoLook (bodyPost Try.prog Try.f43 (Ret (.rat (((z : Int) : Rat))) w)) := noLook_body
  refine wp_seq ?_
  refine rg (fun c d v a w h => NL c d v a w h) [(1, .ptr 35 (.int (z))), (2, .ptr 37 (.rat (0)))] [0, 1] [] [] 5 2 ?_ ?_
  · refine sn [] (fun w1 hw1 => .fin (yld_newBox rfl rfl (MR.mono _ hw1 ha))) ?_
    exact sn [] (fun w1 hw1 => .fin (yld_newAlloc rfl zeroRat zRat)) (.nil _ _)
  rintro w1 hw1 _ ⟨b1, rfl, B1⟩ _ ⟨b2, rfl, B2⟩ hN
  have W1 : Grow w w1 := (Grow.refl w).trans hw1
  have g_b2 : w.heap.size ≤ b2 := Nat.le_trans (Grow.refl w).size hN.2.2.1.1
  clear hN
  refine fr [va, pt b1, pt b2, u, u] ?_
  refine nx ?_
  refine wp_seq ?_
  refine rg (fun c d v a w h => NL c d v a w h) [(3, .int (z)), (4, .rat (((z : Int) : Rat)))] [] [] [] 5 2 ?_ ?_
  · refine so [] (fun w2 hw2 => .fin (yld_loadBox rfl rfl aggInt (B1.grow hw2) (shInt _))) ?_
    exact so [0] (fun w2 hw2 => by rintro v3 h3; exact .fin (yld_buildRat1 rfl h3)) (.nil _ _)
  rintro w2 hw2 v3 - v4 h4 -
  have W2 : Grow w w2 := W1.trans hw2
  replace B2 := B2.grow hw2
  have KK : Kept [] w2 w2 := fun _ _ => rfl
  refine fr [va, pt b1, pt b2, v3, v4] ?_
  change wpListS _ _ _ _ [_] ⟨_, []⟩ _
  refine wpListS_yld rfl ?_
  refine yld_storeBox (R' := .rat (((z : Int) : Rat))) (b := b2) rfl rfl aggRat.size B2 (shRat _) h4 (shRat _) (St.rat _) (by decide) g_b2 fun w3 P3 E3 B' => ⟨fun _ => Kept.put KK P3 (fun _ hk => (by cases hk)), ?_⟩
  have W3 : Grow w w3 := W2.put P3 g_b2
  replace B2 := B'; clear B'
  refine nx ?_
  have BR : Box w3 b2 37 (.rat (((z : Int) : Rat))) := B2
  refine wp_ret ?_
  change bodyPost Try.prog Try.f43 (Ret (.rat (((z : Int) : Rat))) w) .ret _ _
  exact body_cell (b := b2) rfl rfl aggRat BR (shRat _) rfl W3
set_option maxRecDepth 100000 in
set_option maxHeartbeats 2000000 in
theorem cRatInt {x : Int}  {w : World}   (hl : -9223372036854775808 ≤ x) (hu : x < 9223372036854775808) : Calls Try.prog 47 #[.int .i64 (x)] w (Ret (.rat (((x : Int) : Rat))) w) := by
  have _ := hu
  have _ := hl
  refine calls_enter (a := ⟨List.toArray ([.int .i64 (x)] ++ us 5), []⟩) Try.func47 rfl (by kernel_rfl) ?_
  have NL : NoLook (bodyPost Try.prog Try.f47 (Ret (.rat (((x : Int) : Rat))) w)) := noLook_body
  refine wp_seq ?_
  refine rg (fun c d v a w h => NL c d v a w h) [(2, .ptr 37 (.rat (0)))] [0] [] [] 6 1 ?_ ?_
  · exact sn [] (fun w1 hw1 => .fin (yld_newAlloc rfl zeroRat zRat)) (.nil _ _)
  rintro w1 hw1 _ ⟨b2, rfl, B2⟩ hN
  have W1 : Grow w w1 := (Grow.refl w).trans hw1
  have g_b2 : w.heap.size ≤ b2 := Nat.le_trans (Grow.refl w).size hN.1.1
  clear hN
  refine fr ([.int .i64 (x), u, pt b2] ++ us 3) ?_
  refine nx ?_
  refine wp_seq ?_
  refine rg (fun c d v a w h => NL c d v a w h) [(3, .eq (.int .i64 (x))), (4, .int (x)), (5, .rat (((x : Int) : Rat)))] [] [] [] 6 3 ?_ ?_
  · refine so [] (fun w2 hw2 => .fin (yld_move rfl ⟨Grow.refl _, rfl⟩)) ?_
    refine so [0] (fun w2 hw2 => by rintro _ rfl; exact .fin (yld_call rfl cal_integer_Of rfl (cIntOf (x := x) (by omega) (by omega)))) ?_
    exact so [1] (fun w2 hw2 => by rintro v4 h4; exact .fin (yld_buildRat1 rfl h4)) (.nil _ _)
  rintro w2 hw2 v3 - v4 - v5 h5 -
  have W2 : Grow w w2 := W1.trans hw2
  replace B2 := B2.grow hw2
  have KK : Kept [] w2 w2 := fun _ _ => rfl
  refine fr [.int .i64 (x), u, pt b2, v3, v4, v5] ?_
  change wpListS _ _ _ _ [_] ⟨_, []⟩ _
  refine wpListS_yld rfl ?_
  refine yld_storeBox (R' := .rat (((x : Int) : Rat))) (b := b2) rfl rfl aggRat.size B2 (shRat _) h5 (shRat _) (St.rat _) (by decide) g_b2 fun w3 P3 E3 B' => ⟨fun _ => Kept.put KK P3 (fun _ hk => (by cases hk)), ?_⟩
  have W3 : Grow w w3 := W2.put P3 g_b2
  replace B2 := B'; clear B'
  refine nx ?_
  have BR : Box w3 b2 37 (.rat (((x : Int) : Rat))) := B2
  refine wp_ret ?_
  change bodyPost Try.prog Try.f47 (Ret (.rat (((x : Int) : Rat))) w) .ret _ _
  exact body_cell (b := b2) rfl rfl aggRat BR (shRat _) rfl W3
set_option maxRecDepth 100000 in
set_option maxHeartbeats 2000000 in
theorem cRatOf {p q : Int}  {w : World}   (hl : -9223372036854775808 ≤ p) (hu : p < 9223372036854775808) (hl2 : -9223372036854775808 ≤ q) (hu2 : q < 9223372036854775808) : Calls Try.prog 59 #[.int .i64 (p), .int .i64 (q)] w (Ret (.tup2 (.rat (Rat.divInt p q)) (.eq (.bool (!decide (q = 0))))) w) := by
  refine calls_enter (a := ⟨List.toArray ([.int .i64 (p), .int .i64 (q)] ++ us 11), []⟩) Try.func59 rfl (by kernel_rfl) ?_
  have NL : NoLook (bodyPost Try.prog Try.f59 (Ret (.tup2 (.rat (Rat.divInt p q)) (.eq (.bool (!decide (q = 0))))) w)) := noLook_body
  refine wp_seq ?_
  refine rg (fun c d v a w h => NL c d v a w h) [(4, .ptr 37 (.rat (0))), (5, .eq (.bool (false)))] [0] [] [] 13 2 ?_ ?_
  · refine sn [] (fun w1 hw1 => .fin (yld_newAlloc rfl zeroRat zRat)) ?_
    exact so [] (fun w1 hw1 => .fin (yld_assign rfl ⟨Grow.refl _, rfl⟩)) (.nil _ _)
  rintro w1 hw1 _ ⟨b4, rfl, B4⟩ _ rfl hN
  have W1 : Grow w w1 := (Grow.refl w).trans hw1
  have g_b4 : w.heap.size ≤ b4 := Nat.le_trans (Grow.refl w).size hN.1.1
  clear hN
  refine fr ([.int .i64 (p), .int .i64 (q), u, u, pt b4, .bool (false)] ++ us 7) ?_
  refine nx ?_
  refine wp_seq ?_
  refine rg (fun c d v a w h => NL c d v a w h) [(6, .eq (.int .i64 (p))), (7, .int (p)), (8, .eq (.int .i64 (q))), (9, .int (q)), (10, .tup2 (.rat (Rat.divInt p q)) (.eq (.bool (!decide (q = 0))))), (11, .rat (Rat.divInt p q)), (12, .eq (.bool (!decide (q = 0))))] [] [] [] 13 7 ?_ ?_
  · refine so [] (fun w2 hw2 => .fin (yld_move rfl ⟨Grow.refl _, rfl⟩)) ?_
    refine so [0] (fun w2 hw2 => by rintro _ rfl; exact .fin (yld_call rfl cal_integer_Of rfl (cIntOf (x := p) (by omega) (by omega)))) ?_
    refine so [] (fun w2 hw2 => .fin (yld_move rfl ⟨Grow.refl _, rfl⟩)) ?_
    refine so [2] (fun w2 hw2 => by rintro _ rfl; exact .fin (yld_call rfl cal_integer_Of rfl (cIntOf (x := q) (by omega) (by omega)))) ?_
    refine so [1, 3] (fun w2 hw2 => by rintro v7 h7 v9 h9; exact .fin (yld_call rfl cal_rat_New rfl (cRatNew h7 h9 (new_of hl hu) (new_of hl2 hu2)))) ?_
    refine so [4] (fun w2 hw2 => by rintro _ ⟨x10_0, x10_1, rfl, hx10_0, hx10_1⟩; exact .fin (yld_extract rfl rfl rfl ⟨Grow.refl _, hx10_0⟩)) ?_
    exact so [4] (fun w2 hw2 => by rintro _ ⟨x10_0, x10_1, rfl, hx10_0, hx10_1⟩; exact .fin (yld_extract rfl rfl rfl ⟨Grow.refl _, hx10_1⟩)) (.nil _ _)
  rintro w2 hw2 v6 - v7 - v8 - v9 - v10 - v11 h11 _ rfl -
  have W2 : Grow w w2 := W1.trans hw2
  replace B4 := B4.grow hw2
  have KK : Kept [] w2 w2 := fun _ _ => rfl
  refine fr [.int .i64 (p), .int .i64 (q), u, u, pt b4, .bool (false), v6, v7, v8, v9, v10, v11, .bool (!decide (q = 0))] ?_
  change wpListS _ _ _ _ [_, _] ⟨_, []⟩ _
  refine wpListS_yld rfl ?_
  refine yld_storeBox (R' := .rat (Rat.divInt p q)) (b := b4) rfl rfl aggRat.size B4 (shRat _) h11 (shRat _) (St.rat _) (by decide) g_b4 fun w3 P3 E3 B' => ⟨fun _ => Kept.put KK P3 (fun _ hk => (by cases hk)), ?_⟩
  replace KK := Kept.put KK P3 (fun _ hk => (by cases hk))
  have W3 : Grow w w3 := W2.put P3 g_b4
  replace B4 := B'; clear B'
  change wpListS _ _ _ _ [_] ⟨_, []⟩ _
  refine wpListS_yld rfl ?_
  refine yld_assign rfl ⟨fun _ => KK, ?_⟩
  refine wpListS_nil ?_
  change Code.wp _ _ _ ⟨List.toArray (List.set _ 5 _), []⟩ _
  have BR : Box w3 b4 37 (.rat (Rat.divInt p q)) := B4
  refine wp_ret ?_
  change bodyPost Try.prog Try.f59 (Ret (.tup2 (.rat (Rat.divInt p q)) (.eq (.bool (!decide (q = 0))))) w) .ret _ _
  exact body_cell_slot (b := b4) rfl rfl aggRat BR (shRat _) rfl rfl W3
set_option maxRecDepth 100000 in
set_option maxHeartbeats 2000000 in
theorem cIntDiv {y z : Int} {va : Value} {vb : Value} {w : World}  (ha : (MR.int (y)).R w va) (hb : (MR.int (z)).R w vb) (hz : z ≠ 0) (hs : nw y.natAbs ≤ LIM) : Calls Try.prog 83 #[va, vb] w (Ret (.tup3 (.int (Int.fdiv y z)) (.int (Int.fmod y z)) (.eq (.bool (true)))) w) := by
  have _ := hz
  have hzn : (z).natAbs ≠ 0 := by omega
  have hsx : nw (y).natAbs < 1099511627776 := Nat.lt_of_le_of_lt hs (by decide)
  have hsm : Small ((y).natAbs / (z).natAbs + 1) := small_succ hs
  refine calls_enter (a := ⟨List.toArray ([va, vb] ++ us 55), []⟩) Try.func83 rfl (by kernel_rfl) ?_
  have NL : NoLook (bodyPost Try.prog Try.f83 (Ret (.tup3 (.int (Int.fdiv y z)) (.int (Int.fmod y z)) (.eq (.bool (true)))) w)) := noLook_body
  refine wp_seq ?_
  refine rg (fun c d v a w h => NL c d v a w h) [(2, .ptr 35 (.int (y))), (3, .ptr 35 (.int (z))), (4, .ptr 35 (.int (0))), (5, .ptr 35 (.int (0))), (6, .eq (.bool (false)))] [0, 1, 2, 3] [] [] 57 5 ?_ ?_
  · refine sn [] (fun w1 hw1 => .fin (yld_newBox rfl rfl (MR.mono _ hw1 ha))) ?_
    refine sn [] (fun w1 hw1 => .fin (yld_newBox rfl rfl (MR.mono _ hw1 hb))) ?_
    refine sn [] (fun w1 hw1 => .fin (yld_newAlloc rfl zeroInt zInt)) ?_
    refine sn [] (fun w1 hw1 => .fin (yld_newAlloc rfl zeroInt zInt)) ?_
    exact so [] (fun w1 hw1 => .fin (yld_assign rfl ⟨Grow.refl _, rfl⟩)) (.nil _ _)
  rintro w1 hw1 _ ⟨b2, rfl, B2⟩ _ ⟨b3, rfl, B3⟩ _ ⟨b4, rfl, B4⟩ _ ⟨b5, rfl, B5⟩ _ rfl hN
  have W1 : Grow w w1 := (Grow.refl w).trans hw1
  have n_b3_b4 : b3 ≠ b4 := hN.2.2.2.1 2 (by simp)
  have n_b3_b5 : b3 ≠ b5 := hN.2.2.2.1 3 (by simp)
  have g_b4 : w.heap.size ≤ b4 := Nat.le_trans (Grow.refl w).size hN.2.2.2.2.1.1
  have n_b4_b5 : b4 ≠ b5 := hN.2.2.2.2.2.1 3 (by simp)
  have g_b5 : w.heap.size ≤ b5 := Nat.le_trans (Grow.refl w).size hN.2.2.2.2.2.2.1.1
  clear hN
  refine fr ([va, vb, pt b2, pt b3, pt b4, pt b5, .bool (false)] ++ us 50) ?_
  refine nx ?_
  refine wp_seq ?_
  refine rg (fun c d v a w h => NL c d v a w h) [(13, .eq (.pointer (some ⟨b2, 1, none⟩))), (14, .nat ((y).natAbs)), (15, .eq (.pointer (some ⟨b3, 1, none⟩))), (16, .nat ((z).natAbs)), (17, .tup3 (.nat (((y).natAbs) / ((z).natAbs))) (.nat (if ((z).natAbs) = 0 then 0 else ((y).natAbs) % ((z).natAbs))) (.eq (.bool (!decide (((z).natAbs) = 0))))), (12, .tup3 (.nat (((y).natAbs) / ((z).natAbs))) (.nat (if ((z).natAbs) = 0 then 0 else ((y).natAbs) % ((z).natAbs))) (.eq (.bool (!decide (((z).natAbs) = 0))))), (18, .nat (((y).natAbs) / ((z).natAbs))), (19, .nat (if ((z).natAbs) = 0 then 0 else ((y).natAbs) % ((z).natAbs))), (20, .eq (.bool (!decide (((z).natAbs) = 0)))), (7, .ptr 33 (.nat (0))), (8, .ptr 33 (.nat (0)))] [9, 10] [7, 8] [] 57 11 ?_ ?_
  · refine so [] (fun w2 hw2 => .fin (yld_fieldAddr rfl rfl fldInt1 ⟨Grow.refl _, rfl⟩)) ?_
    refine so [0] (fun w2 hw2 => by rintro _ rfl; exact .fin (yld_loadPart rfl rfl aggNat (B2.grow hw2) (paIntAbs _))) ?_
    refine so [] (fun w2 hw2 => .fin (yld_fieldAddr rfl rfl fldInt1 ⟨Grow.refl _, rfl⟩)) ?_
    refine so [2] (fun w2 hw2 => by rintro _ rfl; exact .fin (yld_loadPart rfl rfl aggNat (B3.grow hw2) (paIntAbs _))) ?_
    refine so [1, 3] (fun w2 hw2 => by rintro v14 h14 v16 h16; exact .fin (yld_call rfl cal_quot_DivMod rfl (cQuotDivMod h14 h16 (by first | assumption | omega)))) ?_
    refine so [4] (fun w2 hw2 => by rintro _ ⟨x17_0, x17_1, x17_2, rfl, hx17_0, hx17_1, hx17_2⟩; exact .fin (yld_move rfl ⟨Grow.refl _, ⟨x17_0, x17_1, x17_2, rfl, hx17_0, hx17_1, hx17_2⟩⟩)) ?_
    refine so [5] (fun w2 hw2 => by rintro _ ⟨x12_0, x12_1, x12_2, rfl, hx12_0, hx12_1, hx12_2⟩; exact .fin (yld_extract rfl rfl rfl ⟨Grow.refl _, hx12_0⟩)) ?_
    refine sl [5] (fun w2 hw2 => by rintro _ ⟨x12_0, x12_1, x12_2, rfl, hx12_0, hx12_1, hx12_2⟩; exact .fin (⟨_, fun w2 _ => pure_extract rfl rfl rfl w2, hx12_1⟩)) ?_
    refine sl [5] (fun w2 hw2 => by rintro _ ⟨x12_0, x12_1, x12_2, rfl, hx12_0, hx12_1, hx12_2⟩; exact .fin (⟨_, fun w2 _ => pure_extract rfl rfl rfl w2, hx12_2⟩)) ?_
    refine sn [] (fun w2 hw2 => .fin (yld_newAlloc rfl zeroNat zNat)) ?_
    exact sn [] (fun w2 hw2 => .fin (yld_newAlloc rfl zeroNat zNat)) (.nil _ _)
  rintro w2 hw2 v13 - v14 - v15 - v16 - v17 - v12 - v18 h18 v19 h19 _ rfl _ ⟨b7, rfl, B7⟩ _ ⟨b8, rfl, B8⟩ hN
  have W2 : Grow w w2 := W1.trans hw2
  have g_b7 : w.heap.size ≤ b7 := Nat.le_trans W1.size hN.1.1
  have n_b2_b7 : b2 ≠ b7 := Nat.ne_of_lt (Nat.lt_of_lt_of_le B2.lt hN.1.1)
  have n_b3_b7 : b3 ≠ b7 := Nat.ne_of_lt (Nat.lt_of_lt_of_le B3.lt hN.1.1)
  have n_b4_b7 : b4 ≠ b7 := Nat.ne_of_lt (Nat.lt_of_lt_of_le B4.lt hN.1.1)
  have n_b5_b7 : b5 ≠ b7 := Nat.ne_of_lt (Nat.lt_of_lt_of_le B5.lt hN.1.1)
  have n_b7_b8 : b7 ≠ b8 := hN.2.1 10 (by simp)
  have g_b8 : w.heap.size ≤ b8 := Nat.le_trans W1.size hN.2.2.1.1
  have n_b2_b8 : b2 ≠ b8 := Nat.ne_of_lt (Nat.lt_of_lt_of_le B2.lt hN.2.2.1.1)
  have n_b3_b8 : b3 ≠ b8 := Nat.ne_of_lt (Nat.lt_of_lt_of_le B3.lt hN.2.2.1.1)
  have n_b4_b8 : b4 ≠ b8 := Nat.ne_of_lt (Nat.lt_of_lt_of_le B4.lt hN.2.2.1.1)
  have n_b5_b8 : b5 ≠ b8 := Nat.ne_of_lt (Nat.lt_of_lt_of_le B5.lt hN.2.2.1.1)
  clear hN
  replace B2 := B2.grow hw2
  replace B3 := B3.grow hw2
  replace B4 := B4.grow hw2
  replace B5 := B5.grow hw2
  have KK : Kept [] w2 w2 := fun _ _ => rfl
  refine fr ([va, vb, pt b2, pt b3, pt b4, pt b5, .bool (false), pt b7, pt b8, u, u, u, v12, v13, v14, v15, v16, v17, v18, v19, .bool (!decide (((z).natAbs) = 0))] ++ us 36) ?_
  change wpListS _ _ _ _ [_, _, _] ⟨_, []⟩ _
  refine wpListS_yld rfl ?_
  refine yld_storeBox (R' := .nat (((y).natAbs) / ((z).natAbs))) (b := b7) rfl rfl aggNat.size B7 (shNat _) h18 (shNat _) (St.nat _) (by decide) g_b7 fun w3 P3 E3 B' => ⟨fun _ => Kept.put KK P3 (fun _ hk => (by cases hk)), ?_⟩
  replace KK := Kept.put KK P3 (fun _ hk => (by cases hk))
  have W3 : Grow w w3 := W2.put P3 g_b7
  replace B2 := B2.put (St.int _) P3 E3 n_b2_b7
  replace B3 := B3.put (St.int _) P3 E3 n_b3_b7
  replace B4 := B4.put (St.int _) P3 E3 n_b4_b7
  replace B5 := B5.put (St.int _) P3 E3 n_b5_b7
  replace B8 := B8.put (St.nat _) P3 E3 (Ne.symm n_b7_b8)
  replace B7 := B'; clear B'
  replace h19 := MR.put h19 (St.nat _) E3
  change wpListS _ _ _ _ [_, _] ⟨_, []⟩ _
  refine wpListS_yld rfl ?_
  refine yld_storeBox (R' := .nat (if ((z).natAbs) = 0 then 0 else ((y).natAbs) % ((z).natAbs))) (b := b8) rfl rfl aggNat.size B8 (shNat _) h19 (shNat _) (St.nat _) (by decide) g_b8 fun w4 P4 E4 B' => ⟨fun _ => Kept.put KK P4 (fun _ hk => (by cases hk)), ?_⟩
  replace KK := Kept.put KK P4 (fun _ hk => (by cases hk))
  have W4 : Grow w w4 := W3.put P4 g_b8
  replace B2 := B2.put (St.int _) P4 E4 n_b2_b8
  replace B3 := B3.put (St.int _) P4 E4 n_b3_b8
  replace B4 := B4.put (St.int _) P4 E4 n_b4_b8
  replace B5 := B5.put (St.int _) P4 E4 n_b5_b8
  replace B7 := B7.put (St.nat _) P4 E4 n_b7_b8
  replace B8 := B'; clear B'
  change wpListS _ _ _ _ [_] ⟨_, []⟩ _
  refine wpListS_yld rfl ?_
  refine yld_assign rfl ⟨fun _ => KK, ?_⟩
  refine wpListS_nil ?_
  change Code.wp _ _ _ ⟨List.toArray (List.set _ 9 _), []⟩ _
  refine wp_seq ?_
  refine wp_seq ?_
  refine rg (fun c d v a w h => NL c d v a w h) [(21, .eq (.bool (!decide (((z).natAbs) = 0)))), (22, .eq (.bool (!(!decide (((z).natAbs) = 0)))))] [] [] [] 57 2 ?_ ?_
  · refine so [] (fun w5 hw5 => .fin (yld_move rfl ⟨Grow.refl _, rfl⟩)) ?_
    exact so [0] (fun w5 hw5 => by rintro _ rfl; exact .fin (yld_not rfl rfl ⟨Grow.refl _, rfl⟩)) (.nil _ _)
  rintro w5 hw5 v21 - _ rfl -
  have W5 : Grow w w5 := W4.trans hw5
  replace B2 := B2.grow hw5
  replace B3 := B3.grow hw5
  replace B4 := B4.grow hw5
  replace B5 := B5.grow hw5
  replace B7 := B7.grow hw5
  replace B8 := B8.grow hw5
  refine fr ([va, vb, pt b2, pt b3, pt b4, pt b5, .bool (false), pt b7, pt b8, .bool (!decide (((z).natAbs) = 0)), u, u, v12, v13, v14, v15, v16, v17, v18, v19, .bool (!decide (((z).natAbs) = 0)), v21, .bool (!(!decide (((z).natAbs) = 0)))] ++ us 34) ?_
  refine nx ?_
  have hc5 : (!(!decide (((z).natAbs) = 0))) = false := by simp; omega
  refine wp_cond_false (by show Value.bool _ = _; rw [hc5]) ?_
  refine wp_skip ?_
  change Code.wp _ _ _ ⟨_, []⟩ _
  refine wp_seq ?_
  refine wp_seq ?_
  refine rg (fun c d v a w h => NL c d v a w h) [(25, .eq (.pointer (some ⟨b2, 0, none⟩))), (26, .eq (.bool (decide (y < 0)))), (27, .eq (.pointer (some ⟨b3, 0, none⟩))), (28, .eq (.bool (decide (z < 0)))), (29, .eq (.bool ((decide (y < 0)) == (decide (z < 0)))))] [] [] [] 57 5 ?_ ?_
  · refine so [] (fun w7 hw7 => .fin (yld_fieldAddr rfl rfl fldInt0 ⟨Grow.refl _, rfl⟩)) ?_
    refine so [0] (fun w7 hw7 => by rintro _ rfl; exact .fin (yld_loadOne rfl rfl oneBool (B2.grow hw7) (paIntBelow _))) ?_
    refine so [] (fun w7 hw7 => .fin (yld_fieldAddr rfl rfl fldInt0 ⟨Grow.refl _, rfl⟩)) ?_
    refine so [2] (fun w7 hw7 => by rintro _ rfl; exact .fin (yld_loadOne rfl rfl oneBool (B3.grow hw7) (paIntBelow _))) ?_
    exact so [1, 3] (fun w7 hw7 => by rintro _ rfl _ rfl; exact .fin (yld_beq rfl Try.underlying4 rfl rfl ⟨Grow.refl _, rfl⟩)) (.nil _ _)
  rintro w7 hw7 v25 - v26 - v27 - v28 - _ rfl -
  have W7 : Grow w w7 := W5.trans hw7
  replace B3 := B3.grow hw7
  replace B4 := B4.grow hw7
  replace B5 := B5.grow hw7
  replace B7 := B7.grow hw7
  replace B8 := B8.grow hw7
  refine fr ([va, vb, pt b2, pt b3, pt b4, pt b5, .bool (false), pt b7, pt b8, .bool (!decide (((z).natAbs) = 0)), u, u, v12, v13, v14, v15, v16, v17, v18, v19, .bool (!decide (((z).natAbs) = 0)), v21, .bool (!(!decide (((z).natAbs) = 0))), u, u, v25, v26, v27, v28, .bool ((decide (y < 0)) == (decide (z < 0)))] ++ us 27) ?_
  refine nx ?_
  refine wp_cond_split (t := (decide (y < 0)) == (decide (z < 0))) rfl (fun hc1 => ?_) (fun hc1 => ?_)
  · refine wp_seq ?_
    refine rg (fun c d v a w h => NL c d v a w h) [(30, .nat (((y).natAbs) / ((z).natAbs))), (31, .int (signed (false) (((y).natAbs) / ((z).natAbs)))), (32, .eq (.pointer (some ⟨b3, 0, none⟩))), (33, .eq (.bool (decide (z < 0)))), (34, .nat (if ((z).natAbs) = 0 then 0 else ((y).natAbs) % ((z).natAbs))), (35, .int (signed (decide (z < 0)) (if ((z).natAbs) = 0 then 0 else ((y).natAbs) % ((z).natAbs))))] [] [] [] 57 6 ?_ ?_
    · refine so [] (fun w8 hw8 => .fin (yld_loadBox rfl rfl aggNat (B7.grow hw8) (shNat _))) ?_
      refine so [0] (fun w8 hw8 => by rintro v30 h30; exact .fin (yld_call rfl cal_integer_New rfl (cNew h30))) ?_
      refine so [] (fun w8 hw8 => .fin (yld_fieldAddr rfl rfl fldInt0 ⟨Grow.refl _, rfl⟩)) ?_
      refine so [2] (fun w8 hw8 => by rintro _ rfl; exact .fin (yld_loadOne rfl rfl oneBool (B3.grow hw8) (paIntBelow _))) ?_
      refine so [] (fun w8 hw8 => .fin (yld_loadBox rfl rfl aggNat (B8.grow hw8) (shNat _))) ?_
      exact so [3, 4] (fun w8 hw8 => by rintro _ rfl v34 h34; exact .fin (yld_call rfl cal_integer_New rfl (cNew h34))) (.nil _ _)
    rintro w8 hw8 v30 - v31 h31 v32 - v33 - v34 - v35 h35 -
    have W8 : Grow w w8 := W7.trans hw8
    replace B3 := B3.grow hw8
    replace B4 := B4.grow hw8
    replace B5 := B5.grow hw8
    replace B7 := B7.grow hw8
    replace B8 := B8.grow hw8
    have KK : Kept [] w8 w8 := fun _ _ => rfl
    refine fr ([va, vb, pt b2, pt b3, pt b4, pt b5, .bool (false), pt b7, pt b8, .bool (!decide (((z).natAbs) = 0)), u, u, v12, v13, v14, v15, v16, v17, v18, v19, .bool (!decide (((z).natAbs) = 0)), v21, .bool (!(!decide (((z).natAbs) = 0))), u, u, v25, v26, v27, v28, .bool ((decide (y < 0)) == (decide (z < 0))), v30, v31, v32, v33, v34, v35] ++ us 21) ?_
    change wpListS _ _ _ _ [_, _, _] ⟨_, []⟩ _
    refine wpListS_yld rfl ?_
    refine yld_storeBox (R' := .int (signed (false) (((y).natAbs) / ((z).natAbs)))) (b := b4) rfl rfl aggInt.size B4 (shInt _) h31 (shInt _) (St.int _) (by decide) g_b4 fun w9 P9 E9 B' => ⟨fun _ => Kept.put KK P9 (fun _ hk => (by cases hk)), ?_⟩
    replace KK := Kept.put KK P9 (fun _ hk => (by cases hk))
    have W9 : Grow w w9 := W8.put P9 g_b4
    replace B3 := B3.put (St.int _) P9 E9 n_b3_b4
    replace B5 := B5.put (St.int _) P9 E9 (Ne.symm n_b4_b5)
    replace B7 := B7.put (St.nat _) P9 E9 (Ne.symm n_b4_b7)
    replace B8 := B8.put (St.nat _) P9 E9 (Ne.symm n_b4_b8)
    replace B4 := B'; clear B'
    replace h35 := MR.put h35 (St.int _) E9
    change wpListS _ _ _ _ [_, _] ⟨_, []⟩ _
    refine wpListS_yld rfl ?_
    refine yld_storeBox (R' := .int (signed (decide (z < 0)) (if ((z).natAbs) = 0 then 0 else ((y).natAbs) % ((z).natAbs)))) (b := b5) rfl rfl aggInt.size B5 (shInt _) h35 (shInt _) (St.int _) (by decide) g_b5 fun w10 P10 E10 B' => ⟨fun _ => Kept.put KK P10 (fun _ hk => (by cases hk)), ?_⟩
    replace KK := Kept.put KK P10 (fun _ hk => (by cases hk))
    have W10 : Grow w w10 := W9.put P10 g_b5
    replace B3 := B3.put (St.int _) P10 E10 n_b3_b5
    replace B4 := B4.put (St.int _) P10 E10 n_b4_b5
    replace B7 := B7.put (St.nat _) P10 E10 (Ne.symm n_b5_b7)
    replace B8 := B8.put (St.nat _) P10 E10 (Ne.symm n_b5_b8)
    replace B5 := B'; clear B'
    change wpListS _ _ _ _ [_] ⟨_, []⟩ _
    refine wpListS_yld rfl ?_
    refine yld_assign rfl ⟨fun _ => KK, ?_⟩
    refine wpListS_nil ?_
    change Code.wp _ _ _ ⟨List.toArray (List.set _ 6 _), []⟩ _
    have BR : Box w10 b4 35 (.int (Int.fdiv y z)) := (by have e : (signed (false) (((y).natAbs) / ((z).natAbs)) : Int) = Int.fdiv y z := (by have hr : (if (z).natAbs = 0 then 0 else (y).natAbs % (z).natAbs) = (y).natAbs % (z).natAbs := if_neg hzn; first | rfl | (simp; omega) | exact (div_same hz hc1).1 | (rw [hr]; exact (div_same hz hc1).2) | (exact (div_zero' hz hc1 (by rw [hr] at hc2; exact of_decide_eq_true hc2)).1) | (exact (div_zero' hz hc1 (by rw [hr] at hc2; exact of_decide_eq_true hc2)).2) | (exact (div_other hz hc1 (by rw [hr] at hc2; exact of_decide_eq_false hc2)).1) | (rw [hr]; exact (div_other hz hc1 (by rw [hr] at hc2; exact of_decide_eq_false hc2)).2)); rw [← e]; exact B4)
    have BR2 : Box w10 b5 35 (.int (Int.fmod y z)) := (by have e : (signed (decide (z < 0)) (if ((z).natAbs) = 0 then 0 else ((y).natAbs) % ((z).natAbs)) : Int) = Int.fmod y z := (by have hr : (if (z).natAbs = 0 then 0 else (y).natAbs % (z).natAbs) = (y).natAbs % (z).natAbs := if_neg hzn; first | rfl | (simp; omega) | exact (div_same hz hc1).1 | (rw [hr]; exact (div_same hz hc1).2) | (exact (div_zero' hz hc1 (by rw [hr] at hc2; exact of_decide_eq_true hc2)).1) | (exact (div_zero' hz hc1 (by rw [hr] at hc2; exact of_decide_eq_true hc2)).2) | (exact (div_other hz hc1 (by rw [hr] at hc2; exact of_decide_eq_false hc2)).1) | (rw [hr]; exact (div_other hz hc1 (by rw [hr] at hc2; exact of_decide_eq_false hc2)).2)); rw [← e]; exact B5)
    refine wp_ret ?_
    change bodyPost Try.prog Try.f83 (Ret (.tup3 (.int (Int.fdiv y z)) (.int (Int.fmod y z)) (.eq (.bool (true)))) w) .ret _ _
    exact body_cell2_slot (b := b4) (b' := b5) rfl rfl aggInt BR (shInt _) rfl aggInt BR2 (shInt _) rfl rfl W10
  · refine wp_skip ?_
    change Code.wp _ _ _ ⟨_, []⟩ _
    refine wp_seq ?_
    refine wp_seq ?_
    refine rg (fun c d v a w h => NL c d v a w h) [(36, .nat (if ((z).natAbs) = 0 then 0 else ((y).natAbs) % ((z).natAbs))), (37, .eq (.bool (decide ((if ((z).natAbs) = 0 then 0 else ((y).natAbs) % ((z).natAbs)) = 0))))] [] [] [] 57 2 ?_ ?_
    · refine so [] (fun w11 hw11 => .fin (yld_loadBox rfl rfl aggNat (B8.grow hw11) (shNat _))) ?_
      exact so [0] (fun w11 hw11 => by rintro v36 h36; exact .fin (yld_call rfl cal_nat_Nat_Zero rfl (cNatZero h36))) (.nil _ _)
    rintro w11 hw11 v36 - _ rfl -
    have W11 : Grow w w11 := W7.trans hw11
    replace B3 := B3.grow hw11
    replace B4 := B4.grow hw11
    replace B5 := B5.grow hw11
    replace B7 := B7.grow hw11
    replace B8 := B8.grow hw11
    refine fr ([va, vb, pt b2, pt b3, pt b4, pt b5, .bool (false), pt b7, pt b8, .bool (!decide (((z).natAbs) = 0)), u, u, v12, v13, v14, v15, v16, v17, v18, v19, .bool (!decide (((z).natAbs) = 0)), v21, .bool (!(!decide (((z).natAbs) = 0))), u, u, v25, v26, v27, v28, .bool ((decide (y < 0)) == (decide (z < 0))), u, u, u, u, u, u, v36, .bool (decide ((if ((z).natAbs) = 0 then 0 else ((y).natAbs) % ((z).natAbs)) = 0))] ++ us 19) ?_
    refine nx ?_
    refine wp_cond_split (t := decide ((if ((z).natAbs) = 0 then 0 else ((y).natAbs) % ((z).natAbs)) = 0)) rfl (fun hc2 => ?_) (fun hc2 => ?_)
    · refine wp_seq ?_
      refine rg (fun c d v a w h => NL c d v a w h) [(38, .nat (((y).natAbs) / ((z).natAbs))), (39, .int (signed (true) (((y).natAbs) / ((z).natAbs)))), (40, .int (0))] [] [2] [] 57 3 ?_ ?_
      · refine so [] (fun w12 hw12 => .fin (yld_loadBox rfl rfl aggNat (B7.grow hw12) (shNat _))) ?_
        refine so [0] (fun w12 hw12 => by rintro v38 h38; exact .fin (yld_call rfl cal_integer_New rfl (cNew h38))) ?_
        exact sl [] (fun w12 hw12 => .fin (lazy_build (ps := []) rfl rfl (by kernel_rfl) (zInt _))) (.nil _ _)
      rintro w12 hw12 v38 - v39 h39 v40 h40 -
      have W12 : Grow w w12 := W11.trans hw12
      replace B3 := B3.grow hw12
      replace B4 := B4.grow hw12
      replace B5 := B5.grow hw12
      replace B7 := B7.grow hw12
      replace B8 := B8.grow hw12
      have KK : Kept [] w12 w12 := fun _ _ => rfl
      refine fr ([va, vb, pt b2, pt b3, pt b4, pt b5, .bool (false), pt b7, pt b8, .bool (!decide (((z).natAbs) = 0)), u, u, v12, v13, v14, v15, v16, v17, v18, v19, .bool (!decide (((z).natAbs) = 0)), v21, .bool (!(!decide (((z).natAbs) = 0))), u, u, v25, v26, v27, v28, .bool ((decide (y < 0)) == (decide (z < 0))), u, u, u, u, u, u, v36, .bool (decide ((if ((z).natAbs) = 0 then 0 else ((y).natAbs) % ((z).natAbs)) = 0)), v38, v39, v40] ++ us 16) ?_
      change wpListS _ _ _ _ [_, _, _] ⟨_, []⟩ _
      refine wpListS_yld rfl ?_
      refine yld_storeBox (R' := .int (signed (true) (((y).natAbs) / ((z).natAbs)))) (b := b4) rfl rfl aggInt.size B4 (shInt _) h39 (shInt _) (St.int _) (by decide) g_b4 fun w13 P13 E13 B' => ⟨fun _ => Kept.put KK P13 (fun _ hk => (by cases hk)), ?_⟩
      replace KK := Kept.put KK P13 (fun _ hk => (by cases hk))
      have W13 : Grow w w13 := W12.put P13 g_b4
      replace B3 := B3.put (St.int _) P13 E13 n_b3_b4
      replace B5 := B5.put (St.int _) P13 E13 (Ne.symm n_b4_b5)
      replace B7 := B7.put (St.nat _) P13 E13 (Ne.symm n_b4_b7)
      replace B8 := B8.put (St.nat _) P13 E13 (Ne.symm n_b4_b8)
      replace B4 := B'; clear B'
      replace h40 := MR.put h40 (St.int _) E13
      change wpListS _ _ _ _ [_, _] ⟨_, []⟩ _
      refine wpListS_yld rfl ?_
      refine yld_storeBox (R' := .int (0)) (b := b5) rfl rfl aggInt.size B5 (shInt _) h40 (shInt _) (St.int _) (by decide) g_b5 fun w14 P14 E14 B' => ⟨fun _ => Kept.put KK P14 (fun _ hk => (by cases hk)), ?_⟩
      replace KK := Kept.put KK P14 (fun _ hk => (by cases hk))
      have W14 : Grow w w14 := W13.put P14 g_b5
      replace B3 := B3.put (St.int _) P14 E14 n_b3_b5
      replace B4 := B4.put (St.int _) P14 E14 n_b4_b5
      replace B7 := B7.put (St.nat _) P14 E14 (Ne.symm n_b5_b7)
      replace B8 := B8.put (St.nat _) P14 E14 (Ne.symm n_b5_b8)
      replace B5 := B'; clear B'
      change wpListS _ _ _ _ [_] ⟨_, []⟩ _
      refine wpListS_yld rfl ?_
      refine yld_assign rfl ⟨fun _ => KK, ?_⟩
      refine wpListS_nil ?_
      change Code.wp _ _ _ ⟨List.toArray (List.set _ 6 _), []⟩ _
      have BR : Box w14 b4 35 (.int (Int.fdiv y z)) := (by have e : (signed (true) (((y).natAbs) / ((z).natAbs)) : Int) = Int.fdiv y z := (by have hr : (if (z).natAbs = 0 then 0 else (y).natAbs % (z).natAbs) = (y).natAbs % (z).natAbs := if_neg hzn; first | rfl | (simp; omega) | exact (div_same hz hc1).1 | (rw [hr]; exact (div_same hz hc1).2) | (exact (div_zero' hz hc1 (by rw [hr] at hc2; exact of_decide_eq_true hc2)).1) | (exact (div_zero' hz hc1 (by rw [hr] at hc2; exact of_decide_eq_true hc2)).2) | (exact (div_other hz hc1 (by rw [hr] at hc2; exact of_decide_eq_false hc2)).1) | (rw [hr]; exact (div_other hz hc1 (by rw [hr] at hc2; exact of_decide_eq_false hc2)).2)); rw [← e]; exact B4)
      have BR2 : Box w14 b5 35 (.int (Int.fmod y z)) := (by have e : (0 : Int) = Int.fmod y z := (by have hr : (if (z).natAbs = 0 then 0 else (y).natAbs % (z).natAbs) = (y).natAbs % (z).natAbs := if_neg hzn; first | rfl | (simp; omega) | exact (div_same hz hc1).1 | (rw [hr]; exact (div_same hz hc1).2) | (exact (div_zero' hz hc1 (by rw [hr] at hc2; exact of_decide_eq_true hc2)).1) | (exact (div_zero' hz hc1 (by rw [hr] at hc2; exact of_decide_eq_true hc2)).2) | (exact (div_other hz hc1 (by rw [hr] at hc2; exact of_decide_eq_false hc2)).1) | (rw [hr]; exact (div_other hz hc1 (by rw [hr] at hc2; exact of_decide_eq_false hc2)).2)); rw [← e]; exact B5)
      refine wp_ret ?_
      change bodyPost Try.prog Try.f83 (Ret (.tup3 (.int (Int.fdiv y z)) (.int (Int.fmod y z)) (.eq (.bool (true)))) w) .ret _ _
      exact body_cell2_slot (b := b4) (b' := b5) rfl rfl aggInt BR (shInt _) rfl aggInt BR2 (shInt _) rfl rfl W14
    · refine wp_skip ?_
      change Code.wp _ _ _ ⟨_, []⟩ _
      refine wp_seq ?_
      refine rg (fun c d v a w h => NL c d v a w h) [(42, .eq (.pointer (some ⟨b3, 1, none⟩))), (43, .nat ((z).natAbs)), (44, .nat (if ((z).natAbs) = 0 then 0 else ((y).natAbs) % ((z).natAbs))), (45, .tup2 (.nat (((z).natAbs) - (if ((z).natAbs) = 0 then 0 else ((y).natAbs) % ((z).natAbs)))) (.eq (.bool (decide ((if ((z).natAbs) = 0 then 0 else ((y).natAbs) % ((z).natAbs)) ≤ ((z).natAbs)))))), (41, .tup2 (.nat (((z).natAbs) - (if ((z).natAbs) = 0 then 0 else ((y).natAbs) % ((z).natAbs)))) (.eq (.bool (decide ((if ((z).natAbs) = 0 then 0 else ((y).natAbs) % ((z).natAbs)) ≤ ((z).natAbs)))))), (46, .nat (((z).natAbs) - (if ((z).natAbs) = 0 then 0 else ((y).natAbs) % ((z).natAbs)))), (47, .eq (.bool (decide ((if ((z).natAbs) = 0 then 0 else ((y).natAbs) % ((z).natAbs)) ≤ ((z).natAbs))))), (10, .ptr 33 (.nat (0)))] [7] [6] [] 57 8 ?_ ?_
      · refine so [] (fun w15 hw15 => .fin (yld_fieldAddr rfl rfl fldInt1 ⟨Grow.refl _, rfl⟩)) ?_
        refine so [0] (fun w15 hw15 => by rintro _ rfl; exact .fin (yld_loadPart rfl rfl aggNat (B3.grow hw15) (paIntAbs _))) ?_
        refine so [] (fun w15 hw15 => .fin (yld_loadBox rfl rfl aggNat (B8.grow hw15) (shNat _))) ?_
        refine so [1, 2] (fun w15 hw15 => by rintro v43 h43 v44 h44; exact .fin (yld_call rfl cal_nat_Sub rfl (cNatSub h43 h44))) ?_
        refine so [3] (fun w15 hw15 => by rintro _ ⟨x45_0, x45_1, rfl, hx45_0, hx45_1⟩; exact .fin (yld_move rfl ⟨Grow.refl _, ⟨x45_0, x45_1, rfl, hx45_0, hx45_1⟩⟩)) ?_
        refine so [4] (fun w15 hw15 => by rintro _ ⟨x41_0, x41_1, rfl, hx41_0, hx41_1⟩; exact .fin (yld_extract rfl rfl rfl ⟨Grow.refl _, hx41_0⟩)) ?_
        refine sl [4] (fun w15 hw15 => by rintro _ ⟨x41_0, x41_1, rfl, hx41_0, hx41_1⟩; exact .fin (⟨_, fun w2 _ => pure_extract rfl rfl rfl w2, hx41_1⟩)) ?_
        exact sn [] (fun w15 hw15 => .fin (yld_newAlloc rfl zeroNat zNat)) (.nil _ _)
      rintro w15 hw15 v42 - v43 - v44 - v45 - v41 - v46 h46 _ rfl _ ⟨b10, rfl, B10⟩ hN
      have W15 : Grow w w15 := W11.trans hw15
      have g_b10 : w.heap.size ≤ b10 := Nat.le_trans W11.size hN.1.1
      have n_b3_b10 : b3 ≠ b10 := Nat.ne_of_lt (Nat.lt_of_lt_of_le B3.lt hN.1.1)
      have n_b4_b10 : b4 ≠ b10 := Nat.ne_of_lt (Nat.lt_of_lt_of_le B4.lt hN.1.1)
      have n_b5_b10 : b5 ≠ b10 := Nat.ne_of_lt (Nat.lt_of_lt_of_le B5.lt hN.1.1)
      have n_b7_b10 : b7 ≠ b10 := Nat.ne_of_lt (Nat.lt_of_lt_of_le B7.lt hN.1.1)
      clear hN
      replace B3 := B3.grow hw15
      replace B4 := B4.grow hw15
      replace B5 := B5.grow hw15
      replace B7 := B7.grow hw15
      have KK : Kept [] w15 w15 := fun _ _ => rfl
      refine fr ([va, vb, pt b2, pt b3, pt b4, pt b5, .bool (false), pt b7, pt b8, .bool (!decide (((z).natAbs) = 0)), pt b10, u, v12, v13, v14, v15, v16, v17, v18, v19, .bool (!decide (((z).natAbs) = 0)), v21, .bool (!(!decide (((z).natAbs) = 0))), u, u, v25, v26, v27, v28, .bool ((decide (y < 0)) == (decide (z < 0))), u, u, u, u, u, u, v36, .bool (decide ((if ((z).natAbs) = 0 then 0 else ((y).natAbs) % ((z).natAbs)) = 0)), u, u, u, v41, v42, v43, v44, v45, v46, .bool (decide ((if ((z).natAbs) = 0 then 0 else ((y).natAbs) % ((z).natAbs)) ≤ ((z).natAbs)))] ++ us 9) ?_
      change wpListS _ _ _ _ [_, _] ⟨_, []⟩ _
      refine wpListS_yld rfl ?_
      refine yld_storeBox (R' := .nat (((z).natAbs) - (if ((z).natAbs) = 0 then 0 else ((y).natAbs) % ((z).natAbs)))) (b := b10) rfl rfl aggNat.size B10 (shNat _) h46 (shNat _) (St.nat _) (by decide) g_b10 fun w16 P16 E16 B' => ⟨fun _ => Kept.put KK P16 (fun _ hk => (by cases hk)), ?_⟩
      replace KK := Kept.put KK P16 (fun _ hk => (by cases hk))
      have W16 : Grow w w16 := W15.put P16 g_b10
      replace B3 := B3.put (St.int _) P16 E16 n_b3_b10
      replace B4 := B4.put (St.int _) P16 E16 n_b4_b10
      replace B5 := B5.put (St.int _) P16 E16 n_b5_b10
      replace B7 := B7.put (St.nat _) P16 E16 n_b7_b10
      replace B10 := B'; clear B'
      change wpListS _ _ _ _ [_] ⟨_, []⟩ _
      refine wpListS_yld rfl ?_
      refine yld_assign rfl ⟨fun _ => KK, ?_⟩
      refine wpListS_nil ?_
      change Code.wp _ _ _ ⟨List.toArray (List.set _ 11 _), []⟩ _
      refine wp_seq ?_
      refine rg (fun c d v a w h => NL c d v a w h) [(48, .nat (((y).natAbs) / ((z).natAbs))), (49, .lits ([1])), (50, .nat (1)), (51, .nat ((((y).natAbs) / ((z).natAbs)) + 1)), (52, .int (signed (true) ((((y).natAbs) / ((z).natAbs)) + 1))), (53, .eq (.pointer (some ⟨b3, 0, none⟩))), (54, .eq (.bool (decide (z < 0)))), (55, .nat (((z).natAbs) - (if ((z).natAbs) = 0 then 0 else ((y).natAbs) % ((z).natAbs)))), (56, .int (signed (decide (z < 0)) (((z).natAbs) - (if ((z).natAbs) = 0 then 0 else ((y).natAbs) % ((z).natAbs)))))] [] [] [] 57 9 ?_ ?_
      · refine so [] (fun w17 hw17 => .fin (yld_loadBox rfl rfl aggNat (B7.grow hw17) (shNat _))) ?_
        refine so [] (fun w17 hw17 => .fin (yld_lit rfl rfl)) ?_
        refine so [1] (fun w17 hw17 => by rintro v49 h49; exact .fin (yld_call rfl cal_nat_Of rfl (cNatOf1 h49 (by omega)))) ?_
        refine so [0, 2] (fun w17 hw17 => by rintro v48 h48 v50 h50; exact .fin (yld_call rfl cal_nat_Add rfl (cNatAdd h48 h50 hsm))) ?_
        refine so [3] (fun w17 hw17 => by rintro v51 h51; exact .fin (yld_call rfl cal_integer_New rfl (cNew h51))) ?_
        refine so [] (fun w17 hw17 => .fin (yld_fieldAddr rfl rfl fldInt0 ⟨Grow.refl _, rfl⟩)) ?_
        refine so [5] (fun w17 hw17 => by rintro _ rfl; exact .fin (yld_loadOne rfl rfl oneBool (B3.grow hw17) (paIntBelow _))) ?_
        refine so [] (fun w17 hw17 => .fin (yld_loadBox rfl rfl aggNat (B10.grow hw17) (shNat _))) ?_
        exact so [6, 7] (fun w17 hw17 => by rintro _ rfl v55 h55; exact .fin (yld_call rfl cal_integer_New rfl (cNew h55))) (.nil _ _)
      rintro w17 hw17 v48 - v49 - v50 - v51 - v52 h52 v53 - v54 - v55 - v56 h56 -
      have W17 : Grow w w17 := W16.trans hw17
      replace B4 := B4.grow hw17
      replace B5 := B5.grow hw17
      have KK : Kept [] w17 w17 := fun _ _ => rfl
      refine fr [va, vb, pt b2, pt b3, pt b4, pt b5, .bool (false), pt b7, pt b8, .bool (!decide (((z).natAbs) = 0)), pt b10, .bool (decide ((if ((z).natAbs) = 0 then 0 else ((y).natAbs) % ((z).natAbs)) ≤ ((z).natAbs))), v12, v13, v14, v15, v16, v17, v18, v19, .bool (!decide (((z).natAbs) = 0)), v21, .bool (!(!decide (((z).natAbs) = 0))), u, u, v25, v26, v27, v28, .bool ((decide (y < 0)) == (decide (z < 0))), u, u, u, u, u, u, v36, .bool (decide ((if ((z).natAbs) = 0 then 0 else ((y).natAbs) % ((z).natAbs)) = 0)), u, u, u, v41, v42, v43, v44, v45, v46, .bool (decide ((if ((z).natAbs) = 0 then 0 else ((y).natAbs) % ((z).natAbs)) ≤ ((z).natAbs))), v48, v49, v50, v51, v52, v53, v54, v55, v56] ?_
      change wpListS _ _ _ _ [_, _, _] ⟨_, []⟩ _
      refine wpListS_yld rfl ?_
      refine yld_storeBox (R' := .int (signed (true) ((((y).natAbs) / ((z).natAbs)) + 1))) (b := b4) rfl rfl aggInt.size B4 (shInt _) h52 (shInt _) (St.int _) (by decide) g_b4 fun w18 P18 E18 B' => ⟨fun _ => Kept.put KK P18 (fun _ hk => (by cases hk)), ?_⟩
      replace KK := Kept.put KK P18 (fun _ hk => (by cases hk))
      have W18 : Grow w w18 := W17.put P18 g_b4
      replace B5 := B5.put (St.int _) P18 E18 (Ne.symm n_b4_b5)
      replace B4 := B'; clear B'
      replace h56 := MR.put h56 (St.int _) E18
      change wpListS _ _ _ _ [_, _] ⟨_, []⟩ _
      refine wpListS_yld rfl ?_
      refine yld_storeBox (R' := .int (signed (decide (z < 0)) (((z).natAbs) - (if ((z).natAbs) = 0 then 0 else ((y).natAbs) % ((z).natAbs))))) (b := b5) rfl rfl aggInt.size B5 (shInt _) h56 (shInt _) (St.int _) (by decide) g_b5 fun w19 P19 E19 B' => ⟨fun _ => Kept.put KK P19 (fun _ hk => (by cases hk)), ?_⟩
      replace KK := Kept.put KK P19 (fun _ hk => (by cases hk))
      have W19 : Grow w w19 := W18.put P19 g_b5
      replace B4 := B4.put (St.int _) P19 E19 n_b4_b5
      replace B5 := B'; clear B'
      change wpListS _ _ _ _ [_] ⟨_, []⟩ _
      refine wpListS_yld rfl ?_
      refine yld_assign rfl ⟨fun _ => KK, ?_⟩
      refine wpListS_nil ?_
      change Code.wp _ _ _ ⟨List.toArray (List.set _ 6 _), []⟩ _
      have BR : Box w19 b4 35 (.int (Int.fdiv y z)) := (by have e : (signed (true) ((((y).natAbs) / ((z).natAbs)) + 1) : Int) = Int.fdiv y z := (by have hr : (if (z).natAbs = 0 then 0 else (y).natAbs % (z).natAbs) = (y).natAbs % (z).natAbs := if_neg hzn; first | rfl | (simp; omega) | exact (div_same hz hc1).1 | (rw [hr]; exact (div_same hz hc1).2) | (exact (div_zero' hz hc1 (by rw [hr] at hc2; exact of_decide_eq_true hc2)).1) | (exact (div_zero' hz hc1 (by rw [hr] at hc2; exact of_decide_eq_true hc2)).2) | (exact (div_other hz hc1 (by rw [hr] at hc2; exact of_decide_eq_false hc2)).1) | (rw [hr]; exact (div_other hz hc1 (by rw [hr] at hc2; exact of_decide_eq_false hc2)).2)); rw [← e]; exact B4)
      have BR2 : Box w19 b5 35 (.int (Int.fmod y z)) := (by have e : (signed (decide (z < 0)) (((z).natAbs) - (if ((z).natAbs) = 0 then 0 else ((y).natAbs) % ((z).natAbs))) : Int) = Int.fmod y z := (by have hr : (if (z).natAbs = 0 then 0 else (y).natAbs % (z).natAbs) = (y).natAbs % (z).natAbs := if_neg hzn; first | rfl | (simp; omega) | exact (div_same hz hc1).1 | (rw [hr]; exact (div_same hz hc1).2) | (exact (div_zero' hz hc1 (by rw [hr] at hc2; exact of_decide_eq_true hc2)).1) | (exact (div_zero' hz hc1 (by rw [hr] at hc2; exact of_decide_eq_true hc2)).2) | (exact (div_other hz hc1 (by rw [hr] at hc2; exact of_decide_eq_false hc2)).1) | (rw [hr]; exact (div_other hz hc1 (by rw [hr] at hc2; exact of_decide_eq_false hc2)).2)); rw [← e]; exact B5)
      refine wp_ret ?_
      change bodyPost Try.prog Try.f83 (Ret (.tup3 (.int (Int.fdiv y z)) (.int (Int.fmod y z)) (.eq (.bool (true)))) w) .ret _ _
      exact body_cell2_slot (b := b4) (b' := b5) rfl rfl aggInt BR (shInt _) rfl aggInt BR2 (shInt _) rfl rfl W19
set_option maxRecDepth 100000 in
set_option maxHeartbeats 2000000 in
theorem cRatFloor {q : Rat} {va : Value} {w : World}  (ha : (MR.rat (q)).R w va) (hs : szq q ≤ 17179869184) : Calls Try.prog 45 #[va] w (Ret (.int ((q).floor)) w) := by
  have _ := hs
  have s1 := szq_num q
  have hl : nw q.num.natAbs ≤ LIM := by unfold LIM; omega
  have hd := den_ne q
  refine calls_enter (a := ⟨List.toArray ([va] ++ us 15), []⟩) Try.func45 rfl (by kernel_rfl) ?_
  have NL : NoLook (bodyPost Try.prog Try.f45 (Ret (.int ((q).floor)) w)) := noLook_body
  refine wp_seq ?_
  refine rg (fun c d v a w h => NL c d v a w h) [(1, .ptr 37 (.rat (q))), (2, .ptr 35 (.int (0)))] [0, 1] [] [] 16 2 ?_ ?_
  · refine sn [] (fun w1 hw1 => .fin (yld_newBox rfl rfl (MR.mono _ hw1 ha))) ?_
    exact sn [] (fun w1 hw1 => .fin (yld_newAlloc rfl zeroInt zInt)) (.nil _ _)
  rintro w1 hw1 _ ⟨b1, rfl, B1⟩ _ ⟨b2, rfl, B2⟩ hN
  have W1 : Grow w w1 := (Grow.refl w).trans hw1
  have g_b2 : w.heap.size ≤ b2 := Nat.le_trans (Grow.refl w).size hN.2.2.1.1
  clear hN
  refine fr ([va, pt b1, pt b2] ++ us 13) ?_
  refine nx ?_
  refine wp_seq ?_
  refine rg (fun c d v a w h => NL c d v a w h) [(7, .eq (.pointer (some ⟨b1, 0, none⟩))), (8, .int ((q).num)), (9, .rat (q)), (10, .int ((q.den : Int))), (11, .tup3 (.int (Int.fdiv ((q).num) ((q.den : Int)))) (.int (Int.fmod ((q).num) ((q.den : Int)))) (.eq (.bool (true)))), (6, .tup3 (.int (Int.fdiv ((q).num) ((q.den : Int)))) (.int (Int.fmod ((q).num) ((q.den : Int)))) (.eq (.bool (true)))), (12, .int (Int.fdiv ((q).num) ((q.den : Int)))), (13, .int (Int.fmod ((q).num) ((q.den : Int)))), (14, .eq (.bool (true))), (3, .ptr 35 (.int (0))), (4, .ptr 35 (.int (0)))] [9, 10] [7, 8] [] 16 11 ?_ ?_
  · refine so [] (fun w2 hw2 => .fin (yld_fieldAddr rfl rfl fldRat0 ⟨Grow.refl _, rfl⟩)) ?_
    refine so [0] (fun w2 hw2 => by rintro _ rfl; exact .fin (yld_loadPart rfl rfl aggInt (B1.grow hw2) (paRatNum _))) ?_
    refine so [] (fun w2 hw2 => .fin (yld_loadBox rfl rfl aggRat (B1.grow hw2) (shRat _))) ?_
    refine so [2] (fun w2 hw2 => by rintro v9 h9; exact .fin (yld_call rfl cal_rat_Rat_below rfl (cRatBelow h9))) ?_
    refine so [1, 3] (fun w2 hw2 => by rintro v8 h8 v10 h10; exact .fin (yld_call rfl cal_integer_Div rfl (cIntDiv h8 h10 hd hl))) ?_
    refine so [4] (fun w2 hw2 => by rintro _ ⟨x11_0, x11_1, x11_2, rfl, hx11_0, hx11_1, hx11_2⟩; exact .fin (yld_move rfl ⟨Grow.refl _, ⟨x11_0, x11_1, x11_2, rfl, hx11_0, hx11_1, hx11_2⟩⟩)) ?_
    refine so [5] (fun w2 hw2 => by rintro _ ⟨x6_0, x6_1, x6_2, rfl, hx6_0, hx6_1, hx6_2⟩; exact .fin (yld_extract rfl rfl rfl ⟨Grow.refl _, hx6_0⟩)) ?_
    refine sl [5] (fun w2 hw2 => by rintro _ ⟨x6_0, x6_1, x6_2, rfl, hx6_0, hx6_1, hx6_2⟩; exact .fin (⟨_, fun w2 _ => pure_extract rfl rfl rfl w2, hx6_1⟩)) ?_
    refine sl [5] (fun w2 hw2 => by rintro _ ⟨x6_0, x6_1, x6_2, rfl, hx6_0, hx6_1, hx6_2⟩; exact .fin (⟨_, fun w2 _ => pure_extract rfl rfl rfl w2, hx6_2⟩)) ?_
    refine sn [] (fun w2 hw2 => .fin (yld_newAlloc rfl zeroInt zInt)) ?_
    exact sn [] (fun w2 hw2 => .fin (yld_newAlloc rfl zeroInt zInt)) (.nil _ _)
  rintro w2 hw2 v7 - v8 - v9 - v10 - v11 - v6 - v12 h12 v13 h13 _ rfl _ ⟨b3, rfl, B3⟩ _ ⟨b4, rfl, B4⟩ hN
  have W2 : Grow w w2 := W1.trans hw2
  have g_b3 : w.heap.size ≤ b3 := Nat.le_trans W1.size hN.1.1
  have n_b2_b3 : b2 ≠ b3 := Nat.ne_of_lt (Nat.lt_of_lt_of_le B2.lt hN.1.1)
  have n_b3_b4 : b3 ≠ b4 := hN.2.1 10 (by simp)
  have g_b4 : w.heap.size ≤ b4 := Nat.le_trans W1.size hN.2.2.1.1
  have n_b2_b4 : b2 ≠ b4 := Nat.ne_of_lt (Nat.lt_of_lt_of_le B2.lt hN.2.2.1.1)
  clear hN
  replace B2 := B2.grow hw2
  have KK : Kept [] w2 w2 := fun _ _ => rfl
  refine fr [va, pt b1, pt b2, pt b3, pt b4, u, v6, v7, v8, v9, v10, v11, v12, v13, .bool (true), u] ?_
  change wpListS _ _ _ _ [_, _, _] ⟨_, []⟩ _
  refine wpListS_yld rfl ?_
  refine yld_storeBox (R' := .int (Int.fdiv ((q).num) ((q.den : Int)))) (b := b3) rfl rfl aggInt.size B3 (shInt _) h12 (shInt _) (St.int _) (by decide) g_b3 fun w3 P3 E3 B' => ⟨fun _ => Kept.put KK P3 (fun _ hk => (by cases hk)), ?_⟩
  replace KK := Kept.put KK P3 (fun _ hk => (by cases hk))
  have W3 : Grow w w3 := W2.put P3 g_b3
  replace B2 := B2.put (St.int _) P3 E3 n_b2_b3
  replace B4 := B4.put (St.int _) P3 E3 (Ne.symm n_b3_b4)
  replace B3 := B'; clear B'
  replace h13 := MR.put h13 (St.int _) E3
  change wpListS _ _ _ _ [_, _] ⟨_, []⟩ _
  refine wpListS_yld rfl ?_
  refine yld_storeBox (R' := .int (Int.fmod ((q).num) ((q.den : Int)))) (b := b4) rfl rfl aggInt.size B4 (shInt _) h13 (shInt _) (St.int _) (by decide) g_b4 fun w4 P4 E4 B' => ⟨fun _ => Kept.put KK P4 (fun _ hk => (by cases hk)), ?_⟩
  replace KK := Kept.put KK P4 (fun _ hk => (by cases hk))
  have W4 : Grow w w4 := W3.put P4 g_b4
  replace B2 := B2.put (St.int _) P4 E4 n_b2_b4
  replace B3 := B3.put (St.int _) P4 E4 n_b3_b4
  change wpListS _ _ _ _ [_] ⟨_, []⟩ _
  refine wpListS_yld rfl ?_
  refine yld_assign rfl ⟨fun _ => KK, ?_⟩
  refine wpListS_nil ?_
  change Code.wp _ _ _ ⟨List.toArray (List.set _ 5 _), []⟩ _
  refine wp_seq ?_
  refine rg (fun c d v a w h => NL c d v a w h) [(15, .int (Int.fdiv ((q).num) ((q.den : Int))))] [] [] [] 16 1 ?_ ?_
  · exact so [] (fun w5 hw5 => .fin (yld_loadBox rfl rfl aggInt (B3.grow hw5) (shInt _))) (.nil _ _)
  rintro w5 hw5 v15 h15 -
  have W5 : Grow w w5 := W4.trans hw5
  replace B2 := B2.grow hw5
  have KK : Kept [] w5 w5 := fun _ _ => rfl
  refine fr [va, pt b1, pt b2, pt b3, pt b4, .bool (true), v6, v7, v8, v9, v10, v11, v12, v13, .bool (true), v15] ?_
  change wpListS _ _ _ _ [_] ⟨_, []⟩ _
  refine wpListS_yld rfl ?_
  refine yld_storeBox (R' := .int (Int.fdiv ((q).num) ((q.den : Int)))) (b := b2) rfl rfl aggInt.size B2 (shInt _) h15 (shInt _) (St.int _) (by decide) g_b2 fun w6 P6 E6 B' => ⟨fun _ => Kept.put KK P6 (fun _ hk => (by cases hk)), ?_⟩
  have W6 : Grow w w6 := W5.put P6 g_b2
  replace B2 := B'; clear B'
  refine nx ?_
  have BR : Box w6 b2 35 (.int ((q).floor)) := (by have e : (Int.fdiv ((q).num) ((q.den : Int)) : Int) = (q).floor := (floor_fdiv q); rw [← e]; exact B2)
  refine wp_ret ?_
  change bodyPost Try.prog Try.f45 (Ret (.int ((q).floor)) w) .ret _ _
  exact body_cell (b := b2) rfl rfl aggInt BR (shInt _) rfl W6
set_option maxRecDepth 100000 in
set_option maxHeartbeats 2000000 in
theorem cRatCeil {q : Rat} {va : Value} {w : World}  (ha : (MR.rat (q)).R w va) (hs : szq q ≤ 17179869184) : Calls Try.prog 46 #[va] w (Ret (.int (-(-q).floor)) w) := by
  refine calls_enter (a := ⟨List.toArray ([va] ++ us 6), []⟩) Try.func46 rfl (by kernel_rfl) ?_
  have NL : NoLook (bodyPost Try.prog Try.f46 (Ret (.int (-(-q).floor)) w)) := noLook_body
  refine wp_seq ?_
  refine rg (fun c d v a w h => NL c d v a w h) [(1, .ptr 37 (.rat (q))), (2, .ptr 35 (.int (0)))] [0, 1] [] [] 7 2 ?_ ?_
  · refine sn [] (fun w1 hw1 => .fin (yld_newBox rfl rfl (MR.mono _ hw1 ha))) ?_
    exact sn [] (fun w1 hw1 => .fin (yld_newAlloc rfl zeroInt zInt)) (.nil _ _)
  rintro w1 hw1 _ ⟨b1, rfl, B1⟩ _ ⟨b2, rfl, B2⟩ hN
  have W1 : Grow w w1 := (Grow.refl w).trans hw1
  have g_b2 : w.heap.size ≤ b2 := Nat.le_trans (Grow.refl w).size hN.2.2.1.1
  clear hN
  refine fr ([va, pt b1, pt b2] ++ us 4) ?_
  refine nx ?_
  refine wp_seq ?_
  refine rg (fun c d v a w h => NL c d v a w h) [(3, .rat (q)), (4, .rat (-q)), (5, .int ((-q).floor)), (6, .int (-((-q).floor)))] [] [] [] 7 4 ?_ ?_
  · refine so [] (fun w2 hw2 => .fin (yld_loadBox rfl rfl aggRat (B1.grow hw2) (shRat _))) ?_
    refine so [0] (fun w2 hw2 => by rintro v3 h3; exact .fin (yld_call rfl cal_rat_Rat_Neg rfl (cRatNeg h3))) ?_
    refine so [1] (fun w2 hw2 => by rintro v4 h4; exact .fin (yld_call rfl cal_rat_Rat_Floor rfl (cRatFloor h4 (by rw [szq_neg]; exact hs)))) ?_
    exact so [2] (fun w2 hw2 => by rintro v5 h5; exact .fin (yld_call rfl cal_integer_Int_Neg rfl (cIntNeg h5))) (.nil _ _)
  rintro w2 hw2 v3 - v4 - v5 - v6 h6 -
  have W2 : Grow w w2 := W1.trans hw2
  replace B2 := B2.grow hw2
  have KK : Kept [] w2 w2 := fun _ _ => rfl
  refine fr [va, pt b1, pt b2, v3, v4, v5, v6] ?_
  change wpListS _ _ _ _ [_] ⟨_, []⟩ _
  refine wpListS_yld rfl ?_
  refine yld_storeBox (R' := .int (-((-q).floor))) (b := b2) rfl rfl aggInt.size B2 (shInt _) h6 (shInt _) (St.int _) (by decide) g_b2 fun w3 P3 E3 B' => ⟨fun _ => Kept.put KK P3 (fun _ hk => (by cases hk)), ?_⟩
  have W3 : Grow w w3 := W2.put P3 g_b2
  replace B2 := B'; clear B'
  refine nx ?_
  have BR : Box w3 b2 35 (.int (-(-q).floor)) := (by have e : (-((-q).floor) : Int) = -(-q).floor := (by first | rfl | omega | (simp; done)); rw [← e]; exact B2)
  refine wp_ret ?_
  change bodyPost Try.prog Try.f46 (Ret (.int (-(-q).floor)) w) .ret _ _
  exact body_cell (b := b2) rfl rfl aggInt BR (shInt _) rfl W3
end Go.Proofs.Ytknflfnkdieomaa
