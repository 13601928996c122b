/- actuarylaw08.awake. -/
import Derived.Test.YtknflfnkdieomaaIs8
namespace Go.Proofs.Ytknflfnkdieomaa
open Go.RowKit
theorem cal_rat_Rat_Ceil : Callable Try.prog 46 := callable_of Try.func46 rfl (by kernel_rfl)
theorem cal_actuarylaw08_Is : Callable Try.prog 54 := callable_of Try.func54 rfl (by kernel_rfl)
theorem cal_actuarylaw02_Is : Callable Try.prog 61 := callable_of Try.func61 rfl (by kernel_rfl)
theorem cal_rat_Rat_Bits : Callable Try.prog 62 := callable_of Try.func62 rfl (by kernel_rfl)
set_option maxRecDepth 100000 in
set_option maxHeartbeats 2000000 in
theorem cAwake8   {w : World}    : Calls Try.prog 20 #[] w (Ret (.eq (.bool (true))) w) := by
  refine calls_enter (a := ⟨List.toArray ([] ++ us 85), []⟩) Try.func20 rfl (by kernel_rfl) ?_
  have NL : NoLook (bodyPost Try.prog Try.f20 (Ret (.eq (.bool (true))) w)) := noLook_body
  refine wp_seq ?_
  refine rg (fun c d v a w h => NL c d v a w h) [(0, .eq (.bool (false)))] [] [] [] 85 1 ?_ ?_
  · exact so [] (fun w1 hw1 => .fin (yld_assign rfl ⟨Grow.refl _, rfl⟩)) (.nil _ _)
  rintro w1 hw1 _ rfl -
  have W1 : Grow w w1 := (Grow.refl w).trans hw1
  refine fr ([.bool (false)] ++ us 84) ?_
  refine nx ?_
  refine wp_seq ?_
  refine rg (fun c d v a w h => NL c d v a w h) [(12, .tup2 (.rat (Rat.divInt 6 (-4))) (.eq (.bool (!decide ((-4) = 0))))), (11, .tup2 (.rat (Rat.divInt 6 (-4))) (.eq (.bool (!decide ((-4) = 0))))), (13, .rat (Rat.divInt 6 (-4))), (14, .eq (.bool (!decide ((-4) = 0)))), (1, .ptr 37 (.rat (0)))] [4] [3] [] 85 5 ?_ ?_
  · refine so [] (fun w2 hw2 => .fin (yld_call rfl cal_rat_Of rfl (cRatOf (p := 6) (q := (-4)) (by omega) (by omega) (by omega) (by omega)))) ?_
    refine so [0] (fun w2 hw2 => by rintro _ ⟨x12_0, x12_1, rfl, hx12_0, hx12_1⟩; exact .fin (yld_move rfl ⟨Grow.refl _, ⟨x12_0, x12_1, rfl, hx12_0, hx12_1⟩⟩)) ?_
    refine so [1] (fun w2 hw2 => by rintro _ ⟨x11_0, x11_1, rfl, hx11_0, hx11_1⟩; exact .fin (yld_extract rfl rfl rfl ⟨Grow.refl _, hx11_0⟩)) ?_
    refine sl [1] (fun w2 hw2 => by rintro _ ⟨x11_0, x11_1, rfl, hx11_0, hx11_1⟩; exact .fin (⟨_, fun w2 _ => pure_extract rfl rfl rfl w2, hx11_1⟩)) ?_
    exact sn [] (fun w2 hw2 => .fin (yld_newAlloc rfl zeroRat zRat)) (.nil _ _)
  rintro w2 hw2 v12 - v11 - v13 h13 _ rfl _ ⟨b1, rfl, B1⟩ hN
  have W2 : Grow w w2 := W1.trans hw2
  have g_b1 : w.heap.size ≤ b1 := Nat.le_trans W1.size hN.1.1
  clear hN
  have KK : Kept [] w2 w2 := fun _ _ => rfl
  refine fr ([.bool (false), pt b1, u, u, u, u, u, u, u, u, u, v11, v12, v13, .bool (!decide ((-4) = 0))] ++ us 70) ?_
  change wpListS _ _ _ _ [_, _] ⟨_, []⟩ _
  refine wpListS_yld rfl ?_
  refine yld_storeBox (R' := .rat (Rat.divInt 6 (-4))) (b := b1) rfl rfl aggRat.size B1 (shRat _) h13 (shRat _) (St.rat _) (by decide) g_b1 fun w3 P3 E3 B' => ⟨fun _ => Kept.put KK P3 (fun _ hk => (by cases hk)), ?_⟩
  replace KK := Kept.put KK P3 (fun _ hk => (by cases hk))
  have W3 : Grow w w3 := W2.put P3 g_b1
  replace B1 := B'; clear B'
  change wpListS _ _ _ _ [_] ⟨_, []⟩ _
  refine wpListS_yld rfl ?_
  refine yld_assign rfl ⟨fun _ => KK, ?_⟩
  refine wpListS_nil ?_
  change Code.wp _ _ _ ⟨List.toArray (List.set _ 2 _), []⟩ _
  refine wp_seq ?_
  refine rg (fun c d v a w h => NL c d v a w h) [(16, .rat (Rat.divInt 6 (-4))), (17, .tup2 (.rat (((Rat.divInt 6 (-4)))⁻¹)) (.eq (.bool (!decide ((Rat.divInt 6 (-4)) = 0))))), (15, .tup2 (.rat (((Rat.divInt 6 (-4)))⁻¹)) (.eq (.bool (!decide ((Rat.divInt 6 (-4)) = 0))))), (18, .rat (((Rat.divInt 6 (-4)))⁻¹)), (19, .eq (.bool (!decide ((Rat.divInt 6 (-4)) = 0)))), (3, .ptr 37 (.rat (0)))] [5] [4] [] 85 6 ?_ ?_
  · refine so [] (fun w4 hw4 => .fin (yld_loadBox rfl rfl aggRat (B1.grow hw4) (shRat _))) ?_
    refine so [0] (fun w4 hw4 => by rintro v16 h16; exact .fin (yld_call rfl cal_rat_Rat_Inv rfl (cRatInv h16 (by decide +kernel)))) ?_
    refine so [1] (fun w4 hw4 => by rintro _ ⟨x17_0, x17_1, rfl, hx17_0, hx17_1⟩; exact .fin (yld_move rfl ⟨Grow.refl _, ⟨x17_0, x17_1, rfl, hx17_0, hx17_1⟩⟩)) ?_
    refine so [2] (fun w4 hw4 => by rintro _ ⟨x15_0, x15_1, rfl, hx15_0, hx15_1⟩; exact .fin (yld_extract rfl rfl rfl ⟨Grow.refl _, hx15_0⟩)) ?_
    refine sl [2] (fun w4 hw4 => by rintro _ ⟨x15_0, x15_1, rfl, hx15_0, hx15_1⟩; exact .fin (⟨_, fun w2 _ => pure_extract rfl rfl rfl w2, hx15_1⟩)) ?_
    exact sn [] (fun w4 hw4 => .fin (yld_newAlloc rfl zeroRat zRat)) (.nil _ _)
  rintro w4 hw4 v16 - v17 - v15 - v18 h18 _ rfl _ ⟨b3, rfl, B3⟩ hN
  have W4 : Grow w w4 := W3.trans hw4
  have g_b3 : w.heap.size ≤ b3 := Nat.le_trans W3.size hN.1.1
  have n_b1_b3 : b1 ≠ b3 := Nat.ne_of_lt (Nat.lt_of_lt_of_le B1.lt hN.1.1)
  clear hN
  replace B1 := B1.grow hw4
  have KK : Kept [] w4 w4 := fun _ _ => rfl
  refine fr ([.bool (false), pt b1, .bool (!decide ((-4) = 0)), pt b3, u, u, u, u, u, u, u, v11, v12, v13, .bool (!decide ((-4) = 0)), v15, v16, v17, v18, .bool (!decide ((Rat.divInt 6 (-4)) = 0))] ++ us 65) ?_
  change wpListS _ _ _ _ [_, _] ⟨_, []⟩ _
  refine wpListS_yld rfl ?_
  refine yld_storeBox (R' := .rat (((Rat.divInt 6 (-4)))⁻¹)) (b := b3) rfl rfl aggRat.size B3 (shRat _) h18 (shRat _) (St.rat _) (by decide) g_b3 fun w5 P5 E5 B' => ⟨fun _ => Kept.put KK P5 (fun _ hk => (by cases hk)), ?_⟩
  replace KK := Kept.put KK P5 (fun _ hk => (by cases hk))
  have W5 : Grow w w5 := W4.put P5 g_b3
  replace B1 := B1.put (St.rat _) P5 E5 n_b1_b3
  replace B3 := B'; clear B'
  change wpListS _ _ _ _ [_] ⟨_, []⟩ _
  refine wpListS_yld rfl ?_
  refine yld_assign rfl ⟨fun _ => KK, ?_⟩
  refine wpListS_nil ?_
  change Code.wp _ _ _ ⟨List.toArray (List.set _ 4 _), []⟩ _
  refine wp_seq ?_
  refine rg (fun c d v a w h => NL c d v a w h) [(21, .tup2 (.rat (Rat.divInt 1 0)) (.eq (.bool (!decide (0 = 0))))), (20, .tup2 (.rat (Rat.divInt 1 0)) (.eq (.bool (!decide (0 = 0))))), (22, .rat (Rat.divInt 1 0)), (23, .eq (.bool (!decide (0 = 0)))), (5, .ptr 37 (.rat (0)))] [4] [3] [] 85 5 ?_ ?_
  · refine so [] (fun w6 hw6 => .fin (yld_call rfl cal_rat_Of rfl (cRatOf (p := 1) (q := 0) (by omega) (by omega) (by omega) (by omega)))) ?_
    refine so [0] (fun w6 hw6 => by rintro _ ⟨x21_0, x21_1, rfl, hx21_0, hx21_1⟩; exact .fin (yld_move rfl ⟨Grow.refl _, ⟨x21_0, x21_1, rfl, hx21_0, hx21_1⟩⟩)) ?_
    refine so [1] (fun w6 hw6 => by rintro _ ⟨x20_0, x20_1, rfl, hx20_0, hx20_1⟩; exact .fin (yld_extract rfl rfl rfl ⟨Grow.refl _, hx20_0⟩)) ?_
    refine sl [1] (fun w6 hw6 => by rintro _ ⟨x20_0, x20_1, rfl, hx20_0, hx20_1⟩; exact .fin (⟨_, fun w2 _ => pure_extract rfl rfl rfl w2, hx20_1⟩)) ?_
    exact sn [] (fun w6 hw6 => .fin (yld_newAlloc rfl zeroRat zRat)) (.nil _ _)
  rintro w6 hw6 v21 - v20 - v22 h22 _ rfl _ ⟨b5, rfl, B5⟩ hN
  have W6 : Grow w w6 := W5.trans hw6
  have g_b5 : w.heap.size ≤ b5 := Nat.le_trans W5.size hN.1.1
  have n_b1_b5 : b1 ≠ b5 := Nat.ne_of_lt (Nat.lt_of_lt_of_le B1.lt hN.1.1)
  have n_b3_b5 : b3 ≠ b5 := Nat.ne_of_lt (Nat.lt_of_lt_of_le B3.lt hN.1.1)
  clear hN
  replace B1 := B1.grow hw6
  replace B3 := B3.grow hw6
  have KK : Kept [] w6 w6 := fun _ _ => rfl
  refine fr ([.bool (false), pt b1, .bool (!decide ((-4) = 0)), pt b3, .bool (!decide ((Rat.divInt 6 (-4)) = 0)), pt b5, u, u, u, u, u, v11, v12, v13, .bool (!decide ((-4) = 0)), v15, v16, v17, v18, .bool (!decide ((Rat.divInt 6 (-4)) = 0)), v20, v21, v22, .bool (!decide (0 = 0))] ++ us 61) ?_
  change wpListS _ _ _ _ [_, _] ⟨_, []⟩ _
  refine wpListS_yld rfl ?_
  refine yld_storeBox (R' := .rat (Rat.divInt 1 0)) (b := b5) rfl rfl aggRat.size B5 (shRat _) h22 (shRat _) (St.rat _) (by decide) g_b5 fun w7 P7 E7 B' => ⟨fun _ => Kept.put KK P7 (fun _ hk => (by cases hk)), ?_⟩
  replace KK := Kept.put KK P7 (fun _ hk => (by cases hk))
  have W7 : Grow w w7 := W6.put P7 g_b5
  replace B1 := B1.put (St.rat _) P7 E7 n_b1_b5
  replace B3 := B3.put (St.rat _) P7 E7 n_b3_b5
  change wpListS _ _ _ _ [_] ⟨_, []⟩ _
  refine wpListS_yld rfl ?_
  refine yld_assign rfl ⟨fun _ => KK, ?_⟩
  refine wpListS_nil ?_
  change Code.wp _ _ _ ⟨List.toArray (List.set _ 6 _), []⟩ _
  refine wp_seq ?_
  refine rg (fun c d v a w h => NL c d v a w h) [(25, .tup2 (.rat (Rat.divInt 1 2)) (.eq (.bool (!decide (2 = 0))))), (24, .tup2 (.rat (Rat.divInt 1 2)) (.eq (.bool (!decide (2 = 0))))), (26, .rat (Rat.divInt 1 2)), (27, .eq (.bool (!decide (2 = 0)))), (7, .ptr 37 (.rat (0)))] [4] [3] [] 85 5 ?_ ?_
  · refine so [] (fun w8 hw8 => .fin (yld_call rfl cal_rat_Of rfl (cRatOf (p := 1) (q := 2) (by omega) (by omega) (by omega) (by omega)))) ?_
    refine so [0] (fun w8 hw8 => by rintro _ ⟨x25_0, x25_1, rfl, hx25_0, hx25_1⟩; exact .fin (yld_move rfl ⟨Grow.refl _, ⟨x25_0, x25_1, rfl, hx25_0, hx25_1⟩⟩)) ?_
    refine so [1] (fun w8 hw8 => by rintro _ ⟨x24_0, x24_1, rfl, hx24_0, hx24_1⟩; exact .fin (yld_extract rfl rfl rfl ⟨Grow.refl _, hx24_0⟩)) ?_
    refine sl [1] (fun w8 hw8 => by rintro _ ⟨x24_0, x24_1, rfl, hx24_0, hx24_1⟩; exact .fin (⟨_, fun w2 _ => pure_extract rfl rfl rfl w2, hx24_1⟩)) ?_
    exact sn [] (fun w8 hw8 => .fin (yld_newAlloc rfl zeroRat zRat)) (.nil _ _)
  rintro w8 hw8 v25 - v24 - v26 h26 _ rfl _ ⟨b7, rfl, B7⟩ hN
  have W8 : Grow w w8 := W7.trans hw8
  have g_b7 : w.heap.size ≤ b7 := Nat.le_trans W7.size hN.1.1
  have n_b1_b7 : b1 ≠ b7 := Nat.ne_of_lt (Nat.lt_of_lt_of_le B1.lt hN.1.1)
  have n_b3_b7 : b3 ≠ b7 := Nat.ne_of_lt (Nat.lt_of_lt_of_le B3.lt hN.1.1)
  clear hN
  replace B1 := B1.grow hw8
  replace B3 := B3.grow hw8
  have KK : Kept [] w8 w8 := fun _ _ => rfl
  refine fr ([.bool (false), pt b1, .bool (!decide ((-4) = 0)), pt b3, .bool (!decide ((Rat.divInt 6 (-4)) = 0)), pt b5, .bool (!decide (0 = 0)), pt b7, u, u, u, v11, v12, v13, .bool (!decide ((-4) = 0)), v15, v16, v17, v18, .bool (!decide ((Rat.divInt 6 (-4)) = 0)), v20, v21, v22, .bool (!decide (0 = 0)), v24, v25, v26, .bool (!decide (2 = 0))] ++ us 57) ?_
  change wpListS _ _ _ _ [_, _] ⟨_, []⟩ _
  refine wpListS_yld rfl ?_
  refine yld_storeBox (R' := .rat (Rat.divInt 1 2)) (b := b7) rfl rfl aggRat.size B7 (shRat _) h26 (shRat _) (St.rat _) (by decide) g_b7 fun w9 P9 E9 B' => ⟨fun _ => Kept.put KK P9 (fun _ hk => (by cases hk)), ?_⟩
  replace KK := Kept.put KK P9 (fun _ hk => (by cases hk))
  have W9 : Grow w w9 := W8.put P9 g_b7
  replace B1 := B1.put (St.rat _) P9 E9 n_b1_b7
  replace B3 := B3.put (St.rat _) P9 E9 n_b3_b7
  replace B7 := B'; clear B'
  change wpListS _ _ _ _ [_] ⟨_, []⟩ _
  refine wpListS_yld rfl ?_
  refine yld_assign rfl ⟨fun _ => KK, ?_⟩
  refine wpListS_nil ?_
  change Code.wp _ _ _ ⟨List.toArray (List.set _ 8 _), []⟩ _
  refine wp_seq ?_
  refine rg (fun c d v a w h => NL c d v a w h) [(29, .tup2 (.rat (Rat.divInt 1 3)) (.eq (.bool (!decide (3 = 0))))), (28, .tup2 (.rat (Rat.divInt 1 3)) (.eq (.bool (!decide (3 = 0))))), (30, .rat (Rat.divInt 1 3)), (31, .eq (.bool (!decide (3 = 0)))), (9, .ptr 37 (.rat (0)))] [4] [3] [] 85 5 ?_ ?_
  · refine so [] (fun w10 hw10 => .fin (yld_call rfl cal_rat_Of rfl (cRatOf (p := 1) (q := 3) (by omega) (by omega) (by omega) (by omega)))) ?_
    refine so [0] (fun w10 hw10 => by rintro _ ⟨x29_0, x29_1, rfl, hx29_0, hx29_1⟩; exact .fin (yld_move rfl ⟨Grow.refl _, ⟨x29_0, x29_1, rfl, hx29_0, hx29_1⟩⟩)) ?_
    refine so [1] (fun w10 hw10 => by rintro _ ⟨x28_0, x28_1, rfl, hx28_0, hx28_1⟩; exact .fin (yld_extract rfl rfl rfl ⟨Grow.refl _, hx28_0⟩)) ?_
    refine sl [1] (fun w10 hw10 => by rintro _ ⟨x28_0, x28_1, rfl, hx28_0, hx28_1⟩; exact .fin (⟨_, fun w2 _ => pure_extract rfl rfl rfl w2, hx28_1⟩)) ?_
    exact sn [] (fun w10 hw10 => .fin (yld_newAlloc rfl zeroRat zRat)) (.nil _ _)
  rintro w10 hw10 v29 - v28 - v30 h30 _ rfl _ ⟨b9, rfl, B9⟩ hN
  have W10 : Grow w w10 := W9.trans hw10
  have g_b9 : w.heap.size ≤ b9 := Nat.le_trans W9.size hN.1.1
  have n_b1_b9 : b1 ≠ b9 := Nat.ne_of_lt (Nat.lt_of_lt_of_le B1.lt hN.1.1)
  have n_b3_b9 : b3 ≠ b9 := Nat.ne_of_lt (Nat.lt_of_lt_of_le B3.lt hN.1.1)
  have n_b7_b9 : b7 ≠ b9 := Nat.ne_of_lt (Nat.lt_of_lt_of_le B7.lt hN.1.1)
  clear hN
  replace B1 := B1.grow hw10
  replace B3 := B3.grow hw10
  replace B7 := B7.grow hw10
  have KK : Kept [] w10 w10 := fun _ _ => rfl
  refine fr ([.bool (false), pt b1, .bool (!decide ((-4) = 0)), pt b3, .bool (!decide ((Rat.divInt 6 (-4)) = 0)), pt b5, .bool (!decide (0 = 0)), pt b7, .bool (!decide (2 = 0)), pt b9, u, v11, v12, v13, .bool (!decide ((-4) = 0)), v15, v16, v17, v18, .bool (!decide ((Rat.divInt 6 (-4)) = 0)), v20, v21, v22, .bool (!decide (0 = 0)), v24, v25, v26, .bool (!decide (2 = 0)), v28, v29, v30, .bool (!decide (3 = 0))] ++ us 53) ?_
  change wpListS _ _ _ _ [_, _] ⟨_, []⟩ _
  refine wpListS_yld rfl ?_
  refine yld_storeBox (R' := .rat (Rat.divInt 1 3)) (b := b9) rfl rfl aggRat.size B9 (shRat _) h30 (shRat _) (St.rat _) (by decide) g_b9 fun w11 P11 E11 B' => ⟨fun _ => Kept.put KK P11 (fun _ hk => (by cases hk)), ?_⟩
  replace KK := Kept.put KK P11 (fun _ hk => (by cases hk))
  have W11 : Grow w w11 := W10.put P11 g_b9
  replace B1 := B1.put (St.rat _) P11 E11 n_b1_b9
  replace B3 := B3.put (St.rat _) P11 E11 n_b3_b9
  replace B7 := B7.put (St.rat _) P11 E11 n_b7_b9
  replace B9 := B'; clear B'
  change wpListS _ _ _ _ [_] ⟨_, []⟩ _
  refine wpListS_yld rfl ?_
  refine yld_assign rfl ⟨fun _ => KK, ?_⟩
  refine wpListS_nil ?_
  change Code.wp _ _ _ ⟨List.toArray (List.set _ 10 _), []⟩ _
  refine wp_seq ?_
  obtain ⟨x13, ex13⟩ : ∃ c : Bool, c = (!decide ((-4) = 0)) := ⟨_, rfl⟩
  obtain ⟨x14, ex14⟩ : ∃ c : Bool, c = (!decide ((Rat.divInt 6 (-4)) = 0)) := ⟨_, rfl⟩
  obtain ⟨x15, ex15⟩ : ∃ c : Bool, c = ((x13 && x14)) := ⟨_, rfl⟩
  obtain ⟨x16, ex16⟩ : ∃ c : Bool, c = (!decide (0 = 0)) := ⟨_, rfl⟩
  obtain ⟨x17, ex17⟩ : ∃ c : Bool, c = (!x16) := ⟨_, rfl⟩
  obtain ⟨x18, ex18⟩ : ∃ c : Bool, c = ((x15 && x17)) := ⟨_, rfl⟩
  obtain ⟨x19, ex19⟩ : ∃ c : Bool, c = ((cmpV ((Rat.divInt 6 (-4)).num) (-3) : Int) == (0 : Int)) := ⟨_, rfl⟩
  obtain ⟨x20, ex20⟩ : ∃ c : Bool, c = ((x18 && x19)) := ⟨_, rfl⟩
  obtain ⟨x21, ex21⟩ : ∃ c : Bool, c = ((x20 && true)) := ⟨_, rfl⟩
  obtain ⟨x22, ex22⟩ : ∃ c : Bool, c = ((((Wd.blen (Rat.divInt 6 (-4)).num.natAbs + Wd.blen (Rat.divInt 6 (-4)).den : Nat) : Int) : Int) == (4 : Int)) := ⟨_, rfl⟩
  obtain ⟨x23, ex23⟩ : ∃ c : Bool, c = ((x21 && x22)) := ⟨_, rfl⟩
  obtain ⟨x24, ex24⟩ : ∃ c : Bool, c = ((cmpV ((Rat.divInt 6 (-4)).floor) (-2) : Int) == (0 : Int)) := ⟨_, rfl⟩
  obtain ⟨x25, ex25⟩ : ∃ c : Bool, c = ((x23 && x24)) := ⟨_, rfl⟩
  obtain ⟨x26, ex26⟩ : ∃ c : Bool, c = ((cmpV (-(-(Rat.divInt 6 (-4))).floor) (-1) : Int) == (0 : Int)) := ⟨_, rfl⟩
  obtain ⟨x27, ex27⟩ : ∃ c : Bool, c = ((x25 && x26)) := ⟨_, rfl⟩
  obtain ⟨x28, ex28⟩ : ∃ c : Bool, c = ((cmpV ((((Rat.divInt 6 (-4)))⁻¹).num) (-2) : Int) == (0 : Int)) := ⟨_, rfl⟩
  obtain ⟨x29, ex29⟩ : ∃ c : Bool, c = ((x27 && x28)) := ⟨_, rfl⟩
  obtain ⟨x30, ex30⟩ : ∃ c : Bool, c = (decide (((Rat.divInt 1 2) + (Rat.divInt 1 3)) = Rat.divInt 5 6)) := ⟨_, rfl⟩
  obtain ⟨x31, ex31⟩ : ∃ c : Bool, c = ((x29 && x30)) := ⟨_, rfl⟩
  refine rg (fun c d v a w h => NL c d v a w h) [(32, .eq (.bool (x13))), (33, .eq (.bool (x13))), (34, .opt ((x13 == true)) (.eq (.bool (x14)))), (35, .eq (.bool (x15))), (36, .eq (.bool (x15))), (37, .opt ((x15 == true)) (.eq (.bool (x16)))), (38, .opt ((x15 == true)) (.eq (.bool (x17)))), (39, .eq (.bool (x18))), (40, .eq (.bool (x18))), (41, .opt ((x18 == true)) (.rat (Rat.divInt 6 (-4)))), (42, .opt ((x18 == true)) (.int ((Rat.divInt 6 (-4)).num))), (43, .opt ((x18 == true)) (.int (-3))), (44, .opt ((x18 == true)) (.eq (.int .i64 (cmpV ((Rat.divInt 6 (-4)).num) (-3))))), (45, .opt ((x18 == true)) (.eq (.bool (x19)))), (46, .eq (.bool (x20))), (47, .eq (.bool (x20))), (48, .opt ((x20 == true)) (.rat (Rat.divInt 6 (-4)))), (49, .opt ((x20 == true)) (.nat ((Rat.divInt 6 (-4)).den))), (50, .opt ((x20 == true)) (.lits ([2]))), (51, .opt ((x20 == true)) (.eq (.bool (true)))), (52, .eq (.bool (x21))), (53, .eq (.bool (x21))), (54, .opt ((x21 == true)) (.rat (Rat.divInt 6 (-4)))), (55, .opt ((x21 == true)) (.eq (.int .i64 (((Wd.blen (Rat.divInt 6 (-4)).num.natAbs + Wd.blen (Rat.divInt 6 (-4)).den : Nat) : Int))))), (56, .opt ((x21 == true)) (.eq (.bool (x22)))), (57, .eq (.bool (x23))), (58, .eq (.bool (x23))), (59, .opt ((x23 == true)) (.rat (Rat.divInt 6 (-4)))), (60, .opt ((x23 == true)) (.int ((Rat.divInt 6 (-4)).floor))), (61, .opt ((x23 == true)) (.int (-2))), (62, .opt ((x23 == true)) (.eq (.int .i64 (cmpV ((Rat.divInt 6 (-4)).floor) (-2))))), (63, .opt ((x23 == true)) (.eq (.bool (x24)))), (64, .eq (.bool (x25))), (65, .eq (.bool (x25))), (66, .opt ((x25 == true)) (.rat (Rat.divInt 6 (-4)))), (67, .opt ((x25 == true)) (.int (-(-(Rat.divInt 6 (-4))).floor))), (68, .opt ((x25 == true)) (.int (-1))), (69, .opt ((x25 == true)) (.eq (.int .i64 (cmpV (-(-(Rat.divInt 6 (-4))).floor) (-1))))), (70, .opt ((x25 == true)) (.eq (.bool (x26)))), (71, .eq (.bool (x27))), (72, .eq (.bool (x27))), (73, .opt ((x27 == true)) (.rat (((Rat.divInt 6 (-4)))⁻¹))), (74, .opt ((x27 == true)) (.int ((((Rat.divInt 6 (-4)))⁻¹).num))), (75, .opt ((x27 == true)) (.int (-2))), (76, .opt ((x27 == true)) (.eq (.int .i64 (cmpV ((((Rat.divInt 6 (-4)))⁻¹).num) (-2))))), (77, .opt ((x27 == true)) (.eq (.bool (x28)))), (78, .eq (.bool (x29))), (79, .eq (.bool (x29))), (80, .opt ((x29 == true)) (.rat (Rat.divInt 1 2))), (81, .opt ((x29 == true)) (.rat (Rat.divInt 1 3))), (82, .opt ((x29 == true)) (.rat ((Rat.divInt 1 2) + (Rat.divInt 1 3)))), (83, .opt ((x29 == true)) (.eq (.bool (x30)))), (84, .eq (.bool (x31))), (0, .eq (.bool (x31)))] [] [] [] 85 54 ?_ ?_
  · refine so [] (fun w12 hw12 => .fin (yld_eqTo (c := .bool (!decide ((-4) = 0))) (yld_move rfl ⟨Grow.refl _, rfl⟩) (congrArg Value.bool ex13.symm))) ?_
    refine so [0] (fun w12 hw12 => by rintro _ rfl; exact .fin (yld_move rfl ⟨Grow.refl _, rfl⟩)) ?_
    refine sg (c := (x13 == true)) 33 [1] (fun w12 hw12 => by rintro _ rfl; exact .fin (⟨guard_eq, fun hc => yld_eqTo (c := .bool (!decide ((Rat.divInt 6 (-4)) = 0))) (yld_move rfl ⟨Grow.refl _, rfl⟩) (congrArg Value.bool ex14.symm)⟩)) ?_
    refine so [1, 2] (fun w12 hw12 => by rintro _ rfl v34 h34; exact .fin (yld_eqTo (c := .bool ((x13 && x14))) (yld_pick_and rfl rfl (fun ht => h34.1 (by revert ht; cases x13 <;> decide)) rfl ⟨Grow.refl _, rfl⟩) (congrArg Value.bool ex15.symm))) ?_
    refine so [3] (fun w12 hw12 => by rintro _ rfl; exact .fin (yld_move rfl ⟨Grow.refl _, rfl⟩)) ?_
    refine sg (c := (x15 == true)) 36 [4] (fun w12 hw12 => by rintro _ rfl; exact .fin (⟨guard_eq, fun hc => yld_eqTo (c := .bool (!decide (0 = 0))) (yld_move rfl ⟨Grow.refl _, rfl⟩) (congrArg Value.bool ex16.symm)⟩)) ?_
    refine sg (c := (x15 == true)) 36 [4, 5] (fun w12 hw12 => by rintro _ rfl v37 h37; exact .fin (⟨guard_eq, fun hc => yld_eqTo (c := .bool (!x16)) (yld_not rfl (show v37 = .bool (x16) from (h37.1 (by revert hc; exact fun h => h))) ⟨Grow.refl _, rfl⟩) (congrArg Value.bool ex17.symm)⟩)) ?_
    refine so [4, 6] (fun w12 hw12 => by rintro _ rfl v38 h38; exact .fin (yld_eqTo (c := .bool ((x15 && x17))) (yld_pick_and rfl rfl (fun ht => h38.1 (by revert ht; cases x15 <;> decide)) rfl ⟨Grow.refl _, rfl⟩) (congrArg Value.bool ex18.symm))) ?_
    refine so [7] (fun w12 hw12 => by rintro _ rfl; exact .fin (yld_move rfl ⟨Grow.refl _, rfl⟩)) ?_
    refine sg (c := (x18 == true)) 40 [8] (fun w12 hw12 => by rintro _ rfl; exact .fin (⟨guard_eq, fun hc => yld_loadBox rfl rfl aggRat (B1.grow hw12) (shRat _)⟩)) ?_
    refine sg (c := (x18 == true)) 40 [8, 9] (fun w12 hw12 => by rintro _ rfl v41 h41; exact .fin (⟨guard_eq, fun hc => yld_call rfl cal_rat_Rat_Num rfl (cRatNum (h41.1 (by revert hc; exact fun h => h)))⟩)) ?_
    refine sg (c := (x18 == true)) 40 [8] (fun w12 hw12 => by rintro _ rfl; exact .fin (⟨guard_eq, fun hc => yld_call rfl cal_integer_Of rfl (cIntOf (x := -3) (by omega) (by omega))⟩)) ?_
    refine sg (c := (x18 == true)) 40 [8, 10, 11] (fun w12 hw12 => by rintro _ rfl v42 h42 v43 h43; exact .fin (⟨guard_eq, fun hc => yld_call rfl cal_integer_Cmp rfl (cIntCmp (h42.1 (by revert hc; exact fun h => h)) (h43.1 (by revert hc; exact fun h => h)))⟩)) ?_
    refine sg (c := (x18 == true)) 40 [8, 12] (fun w12 hw12 => by rintro _ rfl v44 h44; exact .fin (⟨guard_eq, fun hc => yld_eqTo (c := .bool ((cmpV ((Rat.divInt 6 (-4)).num) (-3) : Int) == (0 : Int))) (yld_eql rfl (show v44 = .int .i64 (cmpV ((Rat.divInt 6 (-4)).num) (-3)) from (h44.1 (by revert hc; exact fun h => h))) rfl ⟨Grow.refl _, rfl⟩) (congrArg Value.bool ex19.symm)⟩)) ?_
    refine so [8, 13] (fun w12 hw12 => by rintro _ rfl v45 h45; exact .fin (yld_eqTo (c := .bool ((x18 && x19))) (yld_pick_and rfl rfl (fun ht => h45.1 (by revert ht; cases x18 <;> decide)) rfl ⟨Grow.refl _, rfl⟩) (congrArg Value.bool ex20.symm))) ?_
    refine so [14] (fun w12 hw12 => by rintro _ rfl; exact .fin (yld_move rfl ⟨Grow.refl _, rfl⟩)) ?_
    refine sg (c := (x20 == true)) 47 [15] (fun w12 hw12 => by rintro _ rfl; exact .fin (⟨guard_eq, fun hc => yld_loadBox rfl rfl aggRat (B1.grow hw12) (shRat _)⟩)) ?_
    refine sg (c := (x20 == true)) 47 [15, 16] (fun w12 hw12 => by rintro _ rfl v48 h48; exact .fin (⟨guard_eq, fun hc => yld_call rfl cal_rat_Rat_Den rfl (cRatDen (h48.1 (by revert hc; exact fun h => h)))⟩)) ?_
    refine sg (c := (x20 == true)) 47 [15] (fun w12 hw12 => by rintro _ rfl; exact .fin (⟨guard_eq, fun hc => yld_lit rfl rfl⟩)) ?_
    refine sg (c := (x20 == true)) 47 [15, 17, 18] (fun w12 hw12 => by rintro _ rfl v49 h49 v50 h50; exact .fin (⟨guard_eq, fun hc => yld_call rfl cal_actuarylaw02_Is rfl (cIs2 (h49.1 (by revert hc; exact fun h => h)) (h50.1 (by revert hc; exact fun h => h)) (by decide +kernel) (by decide +kernel) (by decide))⟩)) ?_
    refine so [15, 19] (fun w12 hw12 => by rintro _ rfl v51 h51; exact .fin (yld_eqTo (c := .bool ((x20 && true))) (yld_pick_and rfl rfl (fun ht => h51.1 (by revert ht; cases x20 <;> decide)) rfl ⟨Grow.refl _, rfl⟩) (congrArg Value.bool ex21.symm))) ?_
    refine so [20] (fun w12 hw12 => by rintro _ rfl; exact .fin (yld_move rfl ⟨Grow.refl _, rfl⟩)) ?_
    refine sg (c := (x21 == true)) 53 [21] (fun w12 hw12 => by rintro _ rfl; exact .fin (⟨guard_eq, fun hc => yld_loadBox rfl rfl aggRat (B1.grow hw12) (shRat _)⟩)) ?_
    refine sg (c := (x21 == true)) 53 [21, 22] (fun w12 hw12 => by rintro _ rfl v54 h54; exact .fin (⟨guard_eq, fun hc => yld_call rfl cal_rat_Rat_Bits rfl (cRatBits (h54.1 (by revert hc; exact fun h => h)))⟩)) ?_
    refine sg (c := (x21 == true)) 53 [21, 23] (fun w12 hw12 => by rintro _ rfl v55 h55; exact .fin (⟨guard_eq, fun hc => yld_eqTo (c := .bool ((((Wd.blen (Rat.divInt 6 (-4)).num.natAbs + Wd.blen (Rat.divInt 6 (-4)).den : Nat) : Int) : Int) == (4 : Int))) (yld_eql rfl (show v55 = .int .i64 (((Wd.blen (Rat.divInt 6 (-4)).num.natAbs + Wd.blen (Rat.divInt 6 (-4)).den : Nat) : Int)) from (h55.1 (by revert hc; exact fun h => h))) rfl ⟨Grow.refl _, rfl⟩) (congrArg Value.bool ex22.symm)⟩)) ?_
    refine so [21, 24] (fun w12 hw12 => by rintro _ rfl v56 h56; exact .fin (yld_eqTo (c := .bool ((x21 && x22))) (yld_pick_and rfl rfl (fun ht => h56.1 (by revert ht; cases x21 <;> decide)) rfl ⟨Grow.refl _, rfl⟩) (congrArg Value.bool ex23.symm))) ?_
    refine so [25] (fun w12 hw12 => by rintro _ rfl; exact .fin (yld_move rfl ⟨Grow.refl _, rfl⟩)) ?_
    refine sg (c := (x23 == true)) 58 [26] (fun w12 hw12 => by rintro _ rfl; exact .fin (⟨guard_eq, fun hc => yld_loadBox rfl rfl aggRat (B1.grow hw12) (shRat _)⟩)) ?_
    refine sg (c := (x23 == true)) 58 [26, 27] (fun w12 hw12 => by rintro _ rfl v59 h59; exact .fin (⟨guard_eq, fun hc => yld_call rfl cal_rat_Rat_Floor rfl (cRatFloor (h59.1 (by revert hc; exact fun h => h)) (by decide +kernel))⟩)) ?_
    refine sg (c := (x23 == true)) 58 [26] (fun w12 hw12 => by rintro _ rfl; exact .fin (⟨guard_eq, fun hc => yld_call rfl cal_integer_Of rfl (cIntOf (x := -2) (by omega) (by omega))⟩)) ?_
    refine sg (c := (x23 == true)) 58 [26, 28, 29] (fun w12 hw12 => by rintro _ rfl v60 h60 v61 h61; exact .fin (⟨guard_eq, fun hc => yld_call rfl cal_integer_Cmp rfl (cIntCmp (h60.1 (by revert hc; exact fun h => h)) (h61.1 (by revert hc; exact fun h => h)))⟩)) ?_
    refine sg (c := (x23 == true)) 58 [26, 30] (fun w12 hw12 => by rintro _ rfl v62 h62; exact .fin (⟨guard_eq, fun hc => yld_eqTo (c := .bool ((cmpV ((Rat.divInt 6 (-4)).floor) (-2) : Int) == (0 : Int))) (yld_eql rfl (show v62 = .int .i64 (cmpV ((Rat.divInt 6 (-4)).floor) (-2)) from (h62.1 (by revert hc; exact fun h => h))) rfl ⟨Grow.refl _, rfl⟩) (congrArg Value.bool ex24.symm)⟩)) ?_
    refine so [26, 31] (fun w12 hw12 => by rintro _ rfl v63 h63; exact .fin (yld_eqTo (c := .bool ((x23 && x24))) (yld_pick_and rfl rfl (fun ht => h63.1 (by revert ht; cases x23 <;> decide)) rfl ⟨Grow.refl _, rfl⟩) (congrArg Value.bool ex25.symm))) ?_
    refine so [32] (fun w12 hw12 => by rintro _ rfl; exact .fin (yld_move rfl ⟨Grow.refl _, rfl⟩)) ?_
    refine sg (c := (x25 == true)) 65 [33] (fun w12 hw12 => by rintro _ rfl; exact .fin (⟨guard_eq, fun hc => yld_loadBox rfl rfl aggRat (B1.grow hw12) (shRat _)⟩)) ?_
    refine sg (c := (x25 == true)) 65 [33, 34] (fun w12 hw12 => by rintro _ rfl v66 h66; exact .fin (⟨guard_eq, fun hc => yld_call rfl cal_rat_Rat_Ceil rfl (cRatCeil (h66.1 (by revert hc; exact fun h => h)) (by decide +kernel))⟩)) ?_
    refine sg (c := (x25 == true)) 65 [33] (fun w12 hw12 => by rintro _ rfl; exact .fin (⟨guard_eq, fun hc => yld_call rfl cal_integer_Of rfl (cIntOf (x := -1) (by omega) (by omega))⟩)) ?_
    refine sg (c := (x25 == true)) 65 [33, 35, 36] (fun w12 hw12 => by rintro _ rfl v67 h67 v68 h68; exact .fin (⟨guard_eq, fun hc => yld_call rfl cal_integer_Cmp rfl (cIntCmp (h67.1 (by revert hc; exact fun h => h)) (h68.1 (by revert hc; exact fun h => h)))⟩)) ?_
    refine sg (c := (x25 == true)) 65 [33, 37] (fun w12 hw12 => by rintro _ rfl v69 h69; exact .fin (⟨guard_eq, fun hc => yld_eqTo (c := .bool ((cmpV (-(-(Rat.divInt 6 (-4))).floor) (-1) : Int) == (0 : Int))) (yld_eql rfl (show v69 = .int .i64 (cmpV (-(-(Rat.divInt 6 (-4))).floor) (-1)) from (h69.1 (by revert hc; exact fun h => h))) rfl ⟨Grow.refl _, rfl⟩) (congrArg Value.bool ex26.symm)⟩)) ?_
    refine so [33, 38] (fun w12 hw12 => by rintro _ rfl v70 h70; exact .fin (yld_eqTo (c := .bool ((x25 && x26))) (yld_pick_and rfl rfl (fun ht => h70.1 (by revert ht; cases x25 <;> decide)) rfl ⟨Grow.refl _, rfl⟩) (congrArg Value.bool ex27.symm))) ?_
    refine so [39] (fun w12 hw12 => by rintro _ rfl; exact .fin (yld_move rfl ⟨Grow.refl _, rfl⟩)) ?_
    refine sg (c := (x27 == true)) 72 [40] (fun w12 hw12 => by rintro _ rfl; exact .fin (⟨guard_eq, fun hc => yld_loadBox rfl rfl aggRat (B3.grow hw12) (shRat _)⟩)) ?_
    refine sg (c := (x27 == true)) 72 [40, 41] (fun w12 hw12 => by rintro _ rfl v73 h73; exact .fin (⟨guard_eq, fun hc => yld_call rfl cal_rat_Rat_Num rfl (cRatNum (h73.1 (by revert hc; exact fun h => h)))⟩)) ?_
    refine sg (c := (x27 == true)) 72 [40] (fun w12 hw12 => by rintro _ rfl; exact .fin (⟨guard_eq, fun hc => yld_call rfl cal_integer_Of rfl (cIntOf (x := -2) (by omega) (by omega))⟩)) ?_
    refine sg (c := (x27 == true)) 72 [40, 42, 43] (fun w12 hw12 => by rintro _ rfl v74 h74 v75 h75; exact .fin (⟨guard_eq, fun hc => yld_call rfl cal_integer_Cmp rfl (cIntCmp (h74.1 (by revert hc; exact fun h => h)) (h75.1 (by revert hc; exact fun h => h)))⟩)) ?_
    refine sg (c := (x27 == true)) 72 [40, 44] (fun w12 hw12 => by rintro _ rfl v76 h76; exact .fin (⟨guard_eq, fun hc => yld_eqTo (c := .bool ((cmpV ((((Rat.divInt 6 (-4)))⁻¹).num) (-2) : Int) == (0 : Int))) (yld_eql rfl (show v76 = .int .i64 (cmpV ((((Rat.divInt 6 (-4)))⁻¹).num) (-2)) from (h76.1 (by revert hc; exact fun h => h))) rfl ⟨Grow.refl _, rfl⟩) (congrArg Value.bool ex28.symm)⟩)) ?_
    refine so [40, 45] (fun w12 hw12 => by rintro _ rfl v77 h77; exact .fin (yld_eqTo (c := .bool ((x27 && x28))) (yld_pick_and rfl rfl (fun ht => h77.1 (by revert ht; cases x27 <;> decide)) rfl ⟨Grow.refl _, rfl⟩) (congrArg Value.bool ex29.symm))) ?_
    refine so [46] (fun w12 hw12 => by rintro _ rfl; exact .fin (yld_move rfl ⟨Grow.refl _, rfl⟩)) ?_
    refine sg (c := (x29 == true)) 79 [47] (fun w12 hw12 => by rintro _ rfl; exact .fin (⟨guard_eq, fun hc => yld_loadBox rfl rfl aggRat (B7.grow hw12) (shRat _)⟩)) ?_
    refine sg (c := (x29 == true)) 79 [47] (fun w12 hw12 => by rintro _ rfl; exact .fin (⟨guard_eq, fun hc => yld_loadBox rfl rfl aggRat (B9.grow hw12) (shRat _)⟩)) ?_
    refine sg (c := (x29 == true)) 79 [47, 48, 49] (fun w12 hw12 => by rintro _ rfl v80 h80 v81 h81; exact .fin (⟨guard_eq, fun hc => yld_call rfl cal_rat_Add rfl (cRatAdd (h80.1 (by revert hc; exact fun h => h)) (h81.1 (by revert hc; exact fun h => h)) (by decide +kernel))⟩)) ?_
    refine sg (c := (x29 == true)) 79 [47, 50] (fun w12 hw12 => by rintro _ rfl v82 h82; exact .fin (⟨guard_eq, fun hc => yld_eqTo (c := .bool (decide (((Rat.divInt 1 2) + (Rat.divInt 1 3)) = Rat.divInt 5 6))) (yld_call rfl cal_actuarylaw08_Is rfl (cIs8 (h82.1 (by revert hc; exact fun h => h)) (by decide) (by decide) (by decide) (by decide) (by decide) (by decide +kernel))) (congrArg Value.bool ex30.symm)⟩)) ?_
    refine so [47, 51] (fun w12 hw12 => by rintro _ rfl v83 h83; exact .fin (yld_eqTo (c := .bool ((x29 && x30))) (yld_pick_and rfl rfl (fun ht => h83.1 (by revert ht; cases x29 <;> decide)) rfl ⟨Grow.refl _, rfl⟩) (congrArg Value.bool ex31.symm))) ?_
    exact so [52] (fun w12 hw12 => by rintro _ rfl; exact .fin (yld_assign rfl ⟨Grow.refl _, rfl⟩)) (.nil _ _)
  rintro w12 hw12 _ rfl _ rfl v34 - _ rfl _ rfl v37 - v38 - _ rfl _ rfl v41 - v42 - v43 - v44 - v45 - _ rfl _ rfl v48 - v49 - v50 - v51 - _ rfl _ rfl v54 - v55 - v56 - _ rfl _ rfl v59 - v60 - v61 - v62 - v63 - _ rfl _ rfl v66 - v67 - v68 - v69 - v70 - _ rfl _ rfl v73 - v74 - v75 - v76 - v77 - _ rfl _ rfl v80 - v81 - v82 - v83 - _ rfl _ rfl -
  have W12 : Grow w w12 := W11.trans hw12
  subst ex13
  subst ex14
  subst ex15
  subst ex16
  subst ex17
  subst ex18
  subst ex19
  subst ex20
  subst ex21
  subst ex22
  subst ex23
  subst ex24
  subst ex25
  subst ex26
  subst ex27
  subst ex28
  subst ex29
  subst ex30
  subst ex31
  refine fr (.bool ((((((((((((((((((((!decide ((-4) = 0)) && (!decide ((Rat.divInt 6 (-4)) = 0)))) && (!(!decide (0 = 0))))) && ((cmpV ((Rat.divInt 6 (-4)).num) (-3) : Int) == (0 : Int)))) && true)) && ((((Wd.blen (Rat.divInt 6 (-4)).num.natAbs + Wd.blen (Rat.divInt 6 (-4)).den : Nat) : Int) : Int) == (4 : Int)))) && ((cmpV ((Rat.divInt 6 (-4)).floor) (-2) : Int) == (0 : Int)))) && ((cmpV (-(-(Rat.divInt 6 (-4))).floor) (-1) : Int) == (0 : Int)))) && ((cmpV ((((Rat.divInt 6 (-4)))⁻¹).num) (-2) : Int) == (0 : Int)))) && (decide (((Rat.divInt 1 2) + (Rat.divInt 1 3)) = Rat.divInt 5 6))))) :: pt b1 :: .bool (!decide ((-4) = 0)) :: pt b3 :: .bool (!decide ((Rat.divInt 6 (-4)) = 0)) :: pt b5 :: .bool (!decide (0 = 0)) :: pt b7 :: .bool (!decide (2 = 0)) :: pt b9 :: .bool (!decide (3 = 0)) :: v11 :: v12 :: v13 :: .bool (!decide ((-4) = 0)) :: v15 :: v16 :: v17 :: v18 :: .bool (!decide ((Rat.divInt 6 (-4)) = 0)) :: v20 :: v21 :: v22 :: .bool (!decide (0 = 0)) :: v24 :: v25 :: v26 :: .bool (!decide (2 = 0)) :: v28 :: v29 :: v30 :: .bool (!decide (3 = 0)) :: .bool ((!decide ((-4) = 0))) :: .bool ((!decide ((-4) = 0))) :: v34 :: .bool ((((!decide ((-4) = 0)) && (!decide ((Rat.divInt 6 (-4)) = 0))))) :: .bool ((((!decide ((-4) = 0)) && (!decide ((Rat.divInt 6 (-4)) = 0))))) :: v37 :: v38 :: .bool ((((((!decide ((-4) = 0)) && (!decide ((Rat.divInt 6 (-4)) = 0)))) && (!(!decide (0 = 0)))))) :: .bool ((((((!decide ((-4) = 0)) && (!decide ((Rat.divInt 6 (-4)) = 0)))) && (!(!decide (0 = 0)))))) :: v41 :: v42 :: v43 :: v44 :: v45 :: .bool ((((((((!decide ((-4) = 0)) && (!decide ((Rat.divInt 6 (-4)) = 0)))) && (!(!decide (0 = 0))))) && ((cmpV ((Rat.divInt 6 (-4)).num) (-3) : Int) == (0 : Int))))) :: .bool ((((((((!decide ((-4) = 0)) && (!decide ((Rat.divInt 6 (-4)) = 0)))) && (!(!decide (0 = 0))))) && ((cmpV ((Rat.divInt 6 (-4)).num) (-3) : Int) == (0 : Int))))) :: v48 :: v49 :: v50 :: v51 :: .bool ((((((((((!decide ((-4) = 0)) && (!decide ((Rat.divInt 6 (-4)) = 0)))) && (!(!decide (0 = 0))))) && ((cmpV ((Rat.divInt 6 (-4)).num) (-3) : Int) == (0 : Int)))) && true))) :: .bool ((((((((((!decide ((-4) = 0)) && (!decide ((Rat.divInt 6 (-4)) = 0)))) && (!(!decide (0 = 0))))) && ((cmpV ((Rat.divInt 6 (-4)).num) (-3) : Int) == (0 : Int)))) && true))) :: v54 :: v55 :: v56 :: .bool ((((((((((((!decide ((-4) = 0)) && (!decide ((Rat.divInt 6 (-4)) = 0)))) && (!(!decide (0 = 0))))) && ((cmpV ((Rat.divInt 6 (-4)).num) (-3) : Int) == (0 : Int)))) && true)) && ((((Wd.blen (Rat.divInt 6 (-4)).num.natAbs + Wd.blen (Rat.divInt 6 (-4)).den : Nat) : Int) : Int) == (4 : Int))))) :: .bool ((((((((((((!decide ((-4) = 0)) && (!decide ((Rat.divInt 6 (-4)) = 0)))) && (!(!decide (0 = 0))))) && ((cmpV ((Rat.divInt 6 (-4)).num) (-3) : Int) == (0 : Int)))) && true)) && ((((Wd.blen (Rat.divInt 6 (-4)).num.natAbs + Wd.blen (Rat.divInt 6 (-4)).den : Nat) : Int) : Int) == (4 : Int))))) :: v59 :: v60 :: v61 :: v62 :: v63 :: .bool ((((((((((((((!decide ((-4) = 0)) && (!decide ((Rat.divInt 6 (-4)) = 0)))) && (!(!decide (0 = 0))))) && ((cmpV ((Rat.divInt 6 (-4)).num) (-3) : Int) == (0 : Int)))) && true)) && ((((Wd.blen (Rat.divInt 6 (-4)).num.natAbs + Wd.blen (Rat.divInt 6 (-4)).den : Nat) : Int) : Int) == (4 : Int)))) && ((cmpV ((Rat.divInt 6 (-4)).floor) (-2) : Int) == (0 : Int))))) :: .bool ((((((((((((((!decide ((-4) = 0)) && (!decide ((Rat.divInt 6 (-4)) = 0)))) && (!(!decide (0 = 0))))) && ((cmpV ((Rat.divInt 6 (-4)).num) (-3) : Int) == (0 : Int)))) && true)) && ((((Wd.blen (Rat.divInt 6 (-4)).num.natAbs + Wd.blen (Rat.divInt 6 (-4)).den : Nat) : Int) : Int) == (4 : Int)))) && ((cmpV ((Rat.divInt 6 (-4)).floor) (-2) : Int) == (0 : Int))))) :: v66 :: v67 :: v68 :: v69 :: v70 :: .bool ((((((((((((((((!decide ((-4) = 0)) && (!decide ((Rat.divInt 6 (-4)) = 0)))) && (!(!decide (0 = 0))))) && ((cmpV ((Rat.divInt 6 (-4)).num) (-3) : Int) == (0 : Int)))) && true)) && ((((Wd.blen (Rat.divInt 6 (-4)).num.natAbs + Wd.blen (Rat.divInt 6 (-4)).den : Nat) : Int) : Int) == (4 : Int)))) && ((cmpV ((Rat.divInt 6 (-4)).floor) (-2) : Int) == (0 : Int)))) && ((cmpV (-(-(Rat.divInt 6 (-4))).floor) (-1) : Int) == (0 : Int))))) :: .bool ((((((((((((((((!decide ((-4) = 0)) && (!decide ((Rat.divInt 6 (-4)) = 0)))) && (!(!decide (0 = 0))))) && ((cmpV ((Rat.divInt 6 (-4)).num) (-3) : Int) == (0 : Int)))) && true)) && ((((Wd.blen (Rat.divInt 6 (-4)).num.natAbs + Wd.blen (Rat.divInt 6 (-4)).den : Nat) : Int) : Int) == (4 : Int)))) && ((cmpV ((Rat.divInt 6 (-4)).floor) (-2) : Int) == (0 : Int)))) && ((cmpV (-(-(Rat.divInt 6 (-4))).floor) (-1) : Int) == (0 : Int))))) :: v73 :: v74 :: v75 :: v76 :: v77 :: .bool ((((((((((((((((((!decide ((-4) = 0)) && (!decide ((Rat.divInt 6 (-4)) = 0)))) && (!(!decide (0 = 0))))) && ((cmpV ((Rat.divInt 6 (-4)).num) (-3) : Int) == (0 : Int)))) && true)) && ((((Wd.blen (Rat.divInt 6 (-4)).num.natAbs + Wd.blen (Rat.divInt 6 (-4)).den : Nat) : Int) : Int) == (4 : Int)))) && ((cmpV ((Rat.divInt 6 (-4)).floor) (-2) : Int) == (0 : Int)))) && ((cmpV (-(-(Rat.divInt 6 (-4))).floor) (-1) : Int) == (0 : Int)))) && ((cmpV ((((Rat.divInt 6 (-4)))⁻¹).num) (-2) : Int) == (0 : Int))))) :: .bool ((((((((((((((((((!decide ((-4) = 0)) && (!decide ((Rat.divInt 6 (-4)) = 0)))) && (!(!decide (0 = 0))))) && ((cmpV ((Rat.divInt 6 (-4)).num) (-3) : Int) == (0 : Int)))) && true)) && ((((Wd.blen (Rat.divInt 6 (-4)).num.natAbs + Wd.blen (Rat.divInt 6 (-4)).den : Nat) : Int) : Int) == (4 : Int)))) && ((cmpV ((Rat.divInt 6 (-4)).floor) (-2) : Int) == (0 : Int)))) && ((cmpV (-(-(Rat.divInt 6 (-4))).floor) (-1) : Int) == (0 : Int)))) && ((cmpV ((((Rat.divInt 6 (-4)))⁻¹).num) (-2) : Int) == (0 : Int))))) :: v80 :: v81 :: v82 :: v83 :: .bool ((((((((((((((((((((!decide ((-4) = 0)) && (!decide ((Rat.divInt 6 (-4)) = 0)))) && (!(!decide (0 = 0))))) && ((cmpV ((Rat.divInt 6 (-4)).num) (-3) : Int) == (0 : Int)))) && true)) && ((((Wd.blen (Rat.divInt 6 (-4)).num.natAbs + Wd.blen (Rat.divInt 6 (-4)).den : Nat) : Int) : Int) == (4 : Int)))) && ((cmpV ((Rat.divInt 6 (-4)).floor) (-2) : Int) == (0 : Int)))) && ((cmpV (-(-(Rat.divInt 6 (-4))).floor) (-1) : Int) == (0 : Int)))) && ((cmpV ((((Rat.divInt 6 (-4)))⁻¹).num) (-2) : Int) == (0 : Int)))) && (decide (((Rat.divInt 1 2) + (Rat.divInt 1 3)) = Rat.divInt 5 6))))) :: []) ?_
  refine nx ?_
  refine wp_ret ?_
  change bodyPost Try.prog Try.f20 (Ret (.eq (.bool (true))) w) .ret _ _
  exact body_slot rfl (by show Value.bool _ = Value.bool _; rw [show ((((((((((((((((((((!decide ((-4) = 0)) && (!decide ((Rat.divInt 6 (-4)) = 0)))) && (!(!decide (0 = 0))))) && ((cmpV ((Rat.divInt 6 (-4)).num) (-3) : Int) == (0 : Int)))) && true)) && ((((Wd.blen (Rat.divInt 6 (-4)).num.natAbs + Wd.blen (Rat.divInt 6 (-4)).den : Nat) : Int) : Int) == (4 : Int)))) && ((cmpV ((Rat.divInt 6 (-4)).floor) (-2) : Int) == (0 : Int)))) && ((cmpV (-(-(Rat.divInt 6 (-4))).floor) (-1) : Int) == (0 : Int)))) && ((cmpV ((((Rat.divInt 6 (-4)))⁻¹).num) (-2) : Int) == (0 : Int)))) && (decide (((Rat.divInt 1 2) + (Rat.divInt 1 3)) = Rat.divInt 5 6))))) = (true) from (by decide +kernel)]) rfl W12
end Go.Proofs.Ytknflfnkdieomaa
