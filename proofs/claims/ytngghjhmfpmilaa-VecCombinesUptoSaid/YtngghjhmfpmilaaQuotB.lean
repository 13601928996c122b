/- quot.Div, quot.Mod. -/
import Derived.Test.YtngghjhmfpmilaaDivMod
namespace Go.Proofs.Ytngghjhmfpmilaa
open Go.RowKit
theorem cal_quot_DivMod : Callable Try.prog 105 := callable_of Try.func105 rfl (by kernel_rfl)
set_option maxRecDepth 100000 in
set_option maxHeartbeats 2000000 in
theorem cQuotDiv {x y : Nat} {va : Value} {vb : Value} {w : World}  (ha : (MR.nat (x)).R w va) (hb : (MR.nat (y)).R w vb) (hsx : nw x < 1099511627776) : Calls Try.prog 96 #[va, vb] w (Ret (.tup2 (.nat (x / y)) (.eq (.bool (!decide (y = 0))))) w) := by
  have _ := hsx
  refine calls_enter (a := ⟨List.toArray ([va, vb] ++ us 16), []⟩) Try.func96 rfl (by kernel_rfl) ?_
  have NL : NoLook (bodyPost Try.prog Try.f96 (Ret (.tup2 (.nat (x / y)) (.eq (.bool (!decide (y = 0))))) w)) := noLook_body
  refine wp_seq ?_
  refine rg (fun c d v a w h => NL c d v a w h) [(2, .ptr 31 (.nat (x))), (3, .ptr 31 (.nat (y))), (4, .ptr 31 (.nat (0))), (5, .eq (.bool (false)))] [0, 1, 2] [] [] 18 4 ?_ ?_
  · refine sn [] (fun w1 hw1 => .fin (yld_newBox rfl rfl (MR.mono _ hw1 ha))) ?_
    refine sn [] (fun w1 hw1 => .fin (yld_newBox rfl rfl (MR.mono _ hw1 hb))) ?_
    refine sn [] (fun w1 hw1 => .fin (yld_newAlloc rfl zeroNat zNat)) ?_
    exact so [] (fun w1 hw1 => .fin (yld_assign rfl ⟨Grow.refl _, rfl⟩)) (.nil _ _)
  rintro w1 hw1 _ ⟨b2, rfl, B2⟩ _ ⟨b3, rfl, B3⟩ _ ⟨b4, rfl, B4⟩ _ rfl hN
  have W1 : Grow w w1 := (Grow.refl w).trans hw1
  have g_b4 : w.heap.size ≤ b4 := Nat.le_trans (Grow.refl w).size hN.2.2.2.2.1.1
  clear hN
  refine fr ([va, vb, pt b2, pt b3, pt b4, .bool (false)] ++ us 12) ?_
  refine nx ?_
  refine wp_seq ?_
  refine rg (fun c d v a w h => NL c d v a w h) [(10, .nat (x)), (11, .nat (y)), (12, .tup3 (.nat (x / y)) (.nat (if y = 0 then 0 else x % y)) (.eq (.bool (!decide (y = 0))))), (9, .tup3 (.nat (x / y)) (.nat (if y = 0 then 0 else x % y)) (.eq (.bool (!decide (y = 0))))), (13, .nat (x / y)), (14, .nat (if y = 0 then 0 else x % y)), (15, .eq (.bool (!decide (y = 0)))), (6, .ptr 31 (.nat (0))), (7, .ptr 31 (.nat (0)))] [7, 8] [5, 6] [] 18 9 ?_ ?_
  · refine so [] (fun w2 hw2 => .fin (yld_loadBox rfl rfl aggNat (B2.grow hw2) (shNat _))) ?_
    refine so [] (fun w2 hw2 => .fin (yld_loadBox rfl rfl aggNat (B3.grow hw2) (shNat _))) ?_
    refine so [0, 1] (fun w2 hw2 => by rintro v10 h10 v11 h11; exact .fin (yld_call rfl cal_quot_DivMod rfl (cQuotDivMod h10 h11 (by first | assumption | omega)))) ?_
    refine so [2] (fun w2 hw2 => by rintro _ ⟨x12_0, x12_1, x12_2, rfl, hx12_0, hx12_1, hx12_2⟩; exact .fin (yld_move rfl ⟨Grow.refl _, ⟨x12_0, x12_1, x12_2, rfl, hx12_0, hx12_1, hx12_2⟩⟩)) ?_
    refine so [3] (fun w2 hw2 => by rintro _ ⟨x9_0, x9_1, x9_2, rfl, hx9_0, hx9_1, hx9_2⟩; exact .fin (yld_extract rfl rfl rfl ⟨Grow.refl _, hx9_0⟩)) ?_
    refine sl [3] (fun w2 hw2 => by rintro _ ⟨x9_0, x9_1, x9_2, rfl, hx9_0, hx9_1, hx9_2⟩; exact .fin (⟨_, fun w2 _ => pure_extract rfl rfl rfl w2, hx9_1⟩)) ?_
    refine sl [3] (fun w2 hw2 => by rintro _ ⟨x9_0, x9_1, x9_2, rfl, hx9_0, hx9_1, hx9_2⟩; exact .fin (⟨_, fun w2 _ => pure_extract rfl rfl rfl w2, hx9_2⟩)) ?_
    refine sn [] (fun w2 hw2 => .fin (yld_newAlloc rfl zeroNat zNat)) ?_
    exact sn [] (fun w2 hw2 => .fin (yld_newAlloc rfl zeroNat zNat)) (.nil _ _)
  rintro w2 hw2 v10 - v11 - v12 - v9 - v13 h13 v14 h14 _ rfl _ ⟨b6, rfl, B6⟩ _ ⟨b7, rfl, B7⟩ hN
  have W2 : Grow w w2 := W1.trans hw2
  have g_b6 : w.heap.size ≤ b6 := Nat.le_trans W1.size hN.1.1
  have n_b4_b6 : b4 ≠ b6 := Nat.ne_of_lt (Nat.lt_of_lt_of_le B4.lt hN.1.1)
  have n_b6_b7 : b6 ≠ b7 := hN.2.1 8 (by simp)
  have g_b7 : w.heap.size ≤ b7 := Nat.le_trans W1.size hN.2.2.1.1
  have n_b4_b7 : b4 ≠ b7 := Nat.ne_of_lt (Nat.lt_of_lt_of_le B4.lt hN.2.2.1.1)
  clear hN
  replace B4 := B4.grow hw2
  have KK : Kept [] w2 w2 := fun _ _ => rfl
  refine fr [va, vb, pt b2, pt b3, pt b4, .bool (false), pt b6, pt b7, u, v9, v10, v11, v12, v13, v14, .bool (!decide (y = 0)), u, u] ?_
  change wpListS _ _ _ _ [_, _, _] ⟨_, []⟩ _
  refine wpListS_yld rfl ?_
  refine yld_storeBox (R' := .nat (x / y)) (b := b6) rfl rfl aggNat.size B6 (shNat _) h13 (shNat _) (St.nat _) (by decide) g_b6 fun w3 P3 E3 B' => ⟨fun _ => Kept.put KK P3 (fun _ hk => (by cases hk)), ?_⟩
  replace KK := Kept.put KK P3 (fun _ hk => (by cases hk))
  have W3 : Grow w w3 := W2.put P3 g_b6
  replace B4 := B4.put (St.nat _) P3 E3 n_b4_b6
  replace B7 := B7.put (St.nat _) P3 E3 (Ne.symm n_b6_b7)
  replace B6 := B'; clear B'
  replace h14 := MR.put h14 (St.nat _) E3
  change wpListS _ _ _ _ [_, _] ⟨_, []⟩ _
  refine wpListS_yld rfl ?_
  refine yld_storeBox (R' := .nat (if y = 0 then 0 else x % y)) (b := b7) rfl rfl aggNat.size B7 (shNat _) h14 (shNat _) (St.nat _) (by decide) g_b7 fun w4 P4 E4 B' => ⟨fun _ => Kept.put KK P4 (fun _ hk => (by cases hk)), ?_⟩
  replace KK := Kept.put KK P4 (fun _ hk => (by cases hk))
  have W4 : Grow w w4 := W3.put P4 g_b7
  replace B4 := B4.put (St.nat _) P4 E4 n_b4_b7
  replace B6 := B6.put (St.nat _) P4 E4 n_b6_b7
  change wpListS _ _ _ _ [_] ⟨_, []⟩ _
  refine wpListS_yld rfl ?_
  refine yld_assign rfl ⟨fun _ => KK, ?_⟩
  refine wpListS_nil ?_
  change Code.wp _ _ _ ⟨List.toArray (List.set _ 8 _), []⟩ _
  refine wp_seq ?_
  refine rg (fun c d v a w h => NL c d v a w h) [(16, .nat (x / y)), (17, .eq (.bool (!decide (y = 0))))] [] [1] [] 18 2 ?_ ?_
  · refine so [] (fun w5 hw5 => .fin (yld_loadBox rfl rfl aggNat (B6.grow hw5) (shNat _))) ?_
    exact sl [] (fun w5 hw5 => .fin (lazy_move rfl rfl rfl)) (.nil _ _)
  rintro w5 hw5 v16 h16 _ rfl -
  have W5 : Grow w w5 := W4.trans hw5
  replace B4 := B4.grow hw5
  have KK : Kept [] w5 w5 := fun _ _ => rfl
  refine fr [va, vb, pt b2, pt b3, pt b4, .bool (false), pt b6, pt b7, .bool (!decide (y = 0)), v9, v10, v11, v12, v13, v14, .bool (!decide (y = 0)), v16, .bool (!decide (y = 0))] ?_
  change wpListS _ _ _ _ [_, _] ⟨_, []⟩ _
  refine wpListS_yld rfl ?_
  refine yld_storeBox (R' := .nat (x / y)) (b := b4) rfl rfl aggNat.size B4 (shNat _) h16 (shNat _) (St.nat _) (by decide) g_b4 fun w6 P6 E6 B' => ⟨fun _ => Kept.put KK P6 (fun _ hk => (by cases hk)), ?_⟩
  replace KK := Kept.put KK P6 (fun _ hk => (by cases hk))
  have W6 : Grow w w6 := W5.put P6 g_b4
  replace B4 := B'; clear B'
  change wpListS _ _ _ _ [_] ⟨_, []⟩ _
  refine wpListS_yld rfl ?_
  refine yld_assign rfl ⟨fun _ => KK, ?_⟩
  refine wpListS_nil ?_
  change Code.wp _ _ _ ⟨List.toArray (List.set _ 5 _), []⟩ _
  have BR : Box w6 b4 31 (.nat (x / y)) := B4
  refine wp_ret ?_
  change bodyPost Try.prog Try.f96 (Ret (.tup2 (.nat (x / y)) (.eq (.bool (!decide (y = 0))))) w) .ret _ _
  exact body_cell_slot (b := b4) rfl rfl aggNat BR (shNat _) rfl rfl W6
set_option maxRecDepth 100000 in
set_option maxHeartbeats 2000000 in
theorem cQuotMod {x y : Nat} {va : Value} {vb : Value} {w : World}  (ha : (MR.nat (x)).R w va) (hb : (MR.nat (y)).R w vb) (hsx : nw x < 1099511627776) : Calls Try.prog 104 #[va, vb] w (Ret (.tup2 (.nat (if y = 0 then 0 else x % y)) (.eq (.bool (!decide (y = 0))))) w) := by
  have _ := hsx
  refine calls_enter (a := ⟨List.toArray ([va, vb] ++ us 16), []⟩) Try.func104 rfl (by kernel_rfl) ?_
  have NL : NoLook (bodyPost Try.prog Try.f104 (Ret (.tup2 (.nat (if y = 0 then 0 else x % y)) (.eq (.bool (!decide (y = 0))))) w)) := noLook_body
  refine wp_seq ?_
  refine rg (fun c d v a w h => NL c d v a w h) [(2, .ptr 31 (.nat (x))), (3, .ptr 31 (.nat (y))), (4, .ptr 31 (.nat (0))), (5, .eq (.bool (false)))] [0, 1, 2] [] [] 18 4 ?_ ?_
  · refine sn [] (fun w1 hw1 => .fin (yld_newBox rfl rfl (MR.mono _ hw1 ha))) ?_
    refine sn [] (fun w1 hw1 => .fin (yld_newBox rfl rfl (MR.mono _ hw1 hb))) ?_
    refine sn [] (fun w1 hw1 => .fin (yld_newAlloc rfl zeroNat zNat)) ?_
    exact so [] (fun w1 hw1 => .fin (yld_assign rfl ⟨Grow.refl _, rfl⟩)) (.nil _ _)
  rintro w1 hw1 _ ⟨b2, rfl, B2⟩ _ ⟨b3, rfl, B3⟩ _ ⟨b4, rfl, B4⟩ _ rfl hN
  have W1 : Grow w w1 := (Grow.refl w).trans hw1
  have g_b4 : w.heap.size ≤ b4 := Nat.le_trans (Grow.refl w).size hN.2.2.2.2.1.1
  clear hN
  refine fr ([va, vb, pt b2, pt b3, pt b4, .bool (false)] ++ us 12) ?_
  refine nx ?_
  refine wp_seq ?_
  refine rg (fun c d v a w h => NL c d v a w h) [(10, .nat (x)), (11, .nat (y)), (12, .tup3 (.nat (x / y)) (.nat (if y = 0 then 0 else x % y)) (.eq (.bool (!decide (y = 0))))), (9, .tup3 (.nat (x / y)) (.nat (if y = 0 then 0 else x % y)) (.eq (.bool (!decide (y = 0))))), (13, .nat (x / y)), (14, .nat (if y = 0 then 0 else x % y)), (15, .eq (.bool (!decide (y = 0)))), (6, .ptr 31 (.nat (0))), (7, .ptr 31 (.nat (0)))] [7, 8] [5, 6] [] 18 9 ?_ ?_
  · refine so [] (fun w2 hw2 => .fin (yld_loadBox rfl rfl aggNat (B2.grow hw2) (shNat _))) ?_
    refine so [] (fun w2 hw2 => .fin (yld_loadBox rfl rfl aggNat (B3.grow hw2) (shNat _))) ?_
    refine so [0, 1] (fun w2 hw2 => by rintro v10 h10 v11 h11; exact .fin (yld_call rfl cal_quot_DivMod rfl (cQuotDivMod h10 h11 (by first | assumption | omega)))) ?_
    refine so [2] (fun w2 hw2 => by rintro _ ⟨x12_0, x12_1, x12_2, rfl, hx12_0, hx12_1, hx12_2⟩; exact .fin (yld_move rfl ⟨Grow.refl _, ⟨x12_0, x12_1, x12_2, rfl, hx12_0, hx12_1, hx12_2⟩⟩)) ?_
    refine so [3] (fun w2 hw2 => by rintro _ ⟨x9_0, x9_1, x9_2, rfl, hx9_0, hx9_1, hx9_2⟩; exact .fin (yld_extract rfl rfl rfl ⟨Grow.refl _, hx9_0⟩)) ?_
    refine sl [3] (fun w2 hw2 => by rintro _ ⟨x9_0, x9_1, x9_2, rfl, hx9_0, hx9_1, hx9_2⟩; exact .fin (⟨_, fun w2 _ => pure_extract rfl rfl rfl w2, hx9_1⟩)) ?_
    refine sl [3] (fun w2 hw2 => by rintro _ ⟨x9_0, x9_1, x9_2, rfl, hx9_0, hx9_1, hx9_2⟩; exact .fin (⟨_, fun w2 _ => pure_extract rfl rfl rfl w2, hx9_2⟩)) ?_
    refine sn [] (fun w2 hw2 => .fin (yld_newAlloc rfl zeroNat zNat)) ?_
    exact sn [] (fun w2 hw2 => .fin (yld_newAlloc rfl zeroNat zNat)) (.nil _ _)
  rintro w2 hw2 v10 - v11 - v12 - v9 - v13 h13 v14 h14 _ rfl _ ⟨b6, rfl, B6⟩ _ ⟨b7, rfl, B7⟩ hN
  have W2 : Grow w w2 := W1.trans hw2
  have g_b6 : w.heap.size ≤ b6 := Nat.le_trans W1.size hN.1.1
  have n_b4_b6 : b4 ≠ b6 := Nat.ne_of_lt (Nat.lt_of_lt_of_le B4.lt hN.1.1)
  have n_b6_b7 : b6 ≠ b7 := hN.2.1 8 (by simp)
  have g_b7 : w.heap.size ≤ b7 := Nat.le_trans W1.size hN.2.2.1.1
  have n_b4_b7 : b4 ≠ b7 := Nat.ne_of_lt (Nat.lt_of_lt_of_le B4.lt hN.2.2.1.1)
  clear hN
  replace B4 := B4.grow hw2
  have KK : Kept [] w2 w2 := fun _ _ => rfl
  refine fr [va, vb, pt b2, pt b3, pt b4, .bool (false), pt b6, pt b7, u, v9, v10, v11, v12, v13, v14, .bool (!decide (y = 0)), u, u] ?_
  change wpListS _ _ _ _ [_, _, _] ⟨_, []⟩ _
  refine wpListS_yld rfl ?_
  refine yld_storeBox (R' := .nat (x / y)) (b := b6) rfl rfl aggNat.size B6 (shNat _) h13 (shNat _) (St.nat _) (by decide) g_b6 fun w3 P3 E3 B' => ⟨fun _ => Kept.put KK P3 (fun _ hk => (by cases hk)), ?_⟩
  replace KK := Kept.put KK P3 (fun _ hk => (by cases hk))
  have W3 : Grow w w3 := W2.put P3 g_b6
  replace B4 := B4.put (St.nat _) P3 E3 n_b4_b6
  replace B7 := B7.put (St.nat _) P3 E3 (Ne.symm n_b6_b7)
  replace h14 := MR.put h14 (St.nat _) E3
  change wpListS _ _ _ _ [_, _] ⟨_, []⟩ _
  refine wpListS_yld rfl ?_
  refine yld_storeBox (R' := .nat (if y = 0 then 0 else x % y)) (b := b7) rfl rfl aggNat.size B7 (shNat _) h14 (shNat _) (St.nat _) (by decide) g_b7 fun w4 P4 E4 B' => ⟨fun _ => Kept.put KK P4 (fun _ hk => (by cases hk)), ?_⟩
  replace KK := Kept.put KK P4 (fun _ hk => (by cases hk))
  have W4 : Grow w w4 := W3.put P4 g_b7
  replace B4 := B4.put (St.nat _) P4 E4 n_b4_b7
  replace B7 := B'; clear B'
  change wpListS _ _ _ _ [_] ⟨_, []⟩ _
  refine wpListS_yld rfl ?_
  refine yld_assign rfl ⟨fun _ => KK, ?_⟩
  refine wpListS_nil ?_
  change Code.wp _ _ _ ⟨List.toArray (List.set _ 8 _), []⟩ _
  refine wp_seq ?_
  refine rg (fun c d v a w h => NL c d v a w h) [(16, .nat (if y = 0 then 0 else x % y)), (17, .eq (.bool (!decide (y = 0))))] [] [1] [] 18 2 ?_ ?_
  · refine so [] (fun w5 hw5 => .fin (yld_loadBox rfl rfl aggNat (B7.grow hw5) (shNat _))) ?_
    exact sl [] (fun w5 hw5 => .fin (lazy_move rfl rfl rfl)) (.nil _ _)
  rintro w5 hw5 v16 h16 _ rfl -
  have W5 : Grow w w5 := W4.trans hw5
  replace B4 := B4.grow hw5
  have KK : Kept [] w5 w5 := fun _ _ => rfl
  refine fr [va, vb, pt b2, pt b3, pt b4, .bool (false), pt b6, pt b7, .bool (!decide (y = 0)), v9, v10, v11, v12, v13, v14, .bool (!decide (y = 0)), v16, .bool (!decide (y = 0))] ?_
  change wpListS _ _ _ _ [_, _] ⟨_, []⟩ _
  refine wpListS_yld rfl ?_
  refine yld_storeBox (R' := .nat (if y = 0 then 0 else x % y)) (b := b4) rfl rfl aggNat.size B4 (shNat _) h16 (shNat _) (St.nat _) (by decide) g_b4 fun w6 P6 E6 B' => ⟨fun _ => Kept.put KK P6 (fun _ hk => (by cases hk)), ?_⟩
  replace KK := Kept.put KK P6 (fun _ hk => (by cases hk))
  have W6 : Grow w w6 := W5.put P6 g_b4
  replace B4 := B'; clear B'
  change wpListS _ _ _ _ [_] ⟨_, []⟩ _
  refine wpListS_yld rfl ?_
  refine yld_assign rfl ⟨fun _ => KK, ?_⟩
  refine wpListS_nil ?_
  change Code.wp _ _ _ ⟨List.toArray (List.set _ 5 _), []⟩ _
  have BR : Box w6 b4 31 (.nat (if y = 0 then 0 else x % y)) := B4
  refine wp_ret ?_
  change bodyPost Try.prog Try.f104 (Ret (.tup2 (.nat (if y = 0 then 0 else x % y)) (.eq (.bool (!decide (y = 0))))) w) .ret _ _
  exact body_cell_slot (b := b4) rfl rfl aggNat BR (shNat _) rfl rfl W6
end Go.Proofs.Ytngghjhmfpmilaa
