import Derived.Test.YtngghjhmfpmilaaCon
namespace Go.Proofs.Ytngghjhmfpmilaa
open Go.RowKit
theorem cal_nat_Cmp : Callable Try.prog 75 := callable_of Try.func75 rfl (by kernel_rfl)
theorem cal_nat_Nat_Zero : Callable Try.prog 82 := callable_of Try.func82 rfl (by kernel_rfl)
theorem cal_integer_New : Callable Try.prog 54 := callable_of Try.func54 rfl (by kernel_rfl)
theorem cal_nat_Of : Callable Try.prog 87 := callable_of Try.func87 rfl (by kernel_rfl)
theorem cal_nat_Add : Callable Try.prog 76 := callable_of Try.func76 rfl (by kernel_rfl)
theorem cal_nat_Sub : Callable Try.prog 77 := callable_of Try.func77 rfl (by kernel_rfl)
theorem signed_not (z : Int) : signed (!decide (z < 0)) z.natAbs = -z := by
  unfold signed
  by_cases hz : z < 0 <;> simp [hz] <;> omega
set_option maxRecDepth 100000 in
set_option maxHeartbeats 2000000 in
theorem cIntBelow {z : Int} {va : Value} {w : World}  (ha : (MR.int (z)).R w va)  : Calls Try.prog 81 #[va] w (Ret (.eq (.bool (decide (z < 0)))) w) := by
  refine calls_enter (a := ⟨List.toArray ([va] ++ us 4), []⟩) Try.func81 rfl (by kernel_rfl) ?_
  have NL : NoLook (bodyPost Try.prog Try.f81 (Ret (.eq (.bool (decide (z < 0)))) w)) := noLook_body
  refine wp_seq ?_
  refine rg (fun c d v a w h => NL c d v a w h) [(1, .ptr 33 (.int (z))), (2, .eq (.bool (false)))] [0] [] [] 5 2 ?_ ?_
  · refine sn [] (fun w1 hw1 => .fin (yld_newBox rfl rfl (MR.mono _ hw1 ha))) ?_
    exact so [] (fun w1 hw1 => .fin (yld_assign rfl ⟨Grow.refl _, rfl⟩)) (.nil _ _)
  rintro w1 hw1 _ ⟨b1, rfl, B1⟩ _ rfl hN
  have W1 : Grow w w1 := (Grow.refl w).trans hw1
  clear hN
  refine fr [va, pt b1, .bool (false), u, u] ?_
  refine nx ?_
  refine wp_seq ?_
  refine rg (fun c d v a w h => NL c d v a w h) [(3, .eq (.pointer (some ⟨b1, 0, none⟩))), (4, .eq (.bool (decide (z < 0)))), (2, .eq (.bool (decide (z < 0))))] [] [] [] 5 3 ?_ ?_
  · refine so [] (fun w2 hw2 => .fin (yld_fieldAddr rfl rfl fldInt0 ⟨Grow.refl _, rfl⟩)) ?_
    refine so [0] (fun w2 hw2 => by rintro _ rfl; exact .fin (yld_loadOne rfl rfl oneBool (B1.grow hw2) (paIntBelow _))) ?_
    exact so [1] (fun w2 hw2 => by rintro _ rfl; exact .fin (yld_assign rfl ⟨Grow.refl _, rfl⟩)) (.nil _ _)
  rintro w2 hw2 v3 - v4 - _ rfl -
  have W2 : Grow w w2 := W1.trans hw2
  refine fr [va, pt b1, .bool (decide (z < 0)), v3, v4] ?_
  refine nx ?_
  refine wp_ret ?_
  change bodyPost Try.prog Try.f81 (Ret (.eq (.bool (decide (z < 0)))) w) .ret _ _
  exact body_slot rfl rfl rfl W2
set_option maxRecDepth 100000 in
set_option maxHeartbeats 2000000 in
theorem cIntAbs {z : Int} {va : Value} {w : World}  (ha : (MR.int (z)).R w va)  : Calls Try.prog 79 #[va] w (Ret (.nat ((z).natAbs)) w) := by
  refine calls_enter (a := ⟨List.toArray ([va] ++ us 4), []⟩) Try.func79 rfl (by kernel_rfl) ?_
  have NL : NoLook (bodyPost Try.prog Try.f79 (Ret (.nat ((z).natAbs)) w)) := noLook_body
  refine wp_seq ?_
  refine rg (fun c d v a w h => NL c d v a w h) [(1, .ptr 33 (.int (z))), (2, .ptr 31 (.nat (0)))] [0, 1] [] [] 5 2 ?_ ?_
  · refine sn [] (fun w1 hw1 => .fin (yld_newBox rfl rfl (MR.mono _ hw1 ha))) ?_
    exact sn [] (fun w1 hw1 => .fin (yld_newAlloc rfl zeroNat zNat)) (.nil _ _)
  rintro w1 hw1 _ ⟨b1, rfl, B1⟩ _ ⟨b2, rfl, B2⟩ hN
  have W1 : Grow w w1 := (Grow.refl w).trans hw1
  have g_b2 : w.heap.size ≤ b2 := Nat.le_trans (Grow.refl w).size hN.2.2.1.1
  clear hN
  refine fr [va, pt b1, pt b2, u, u] ?_
  refine nx ?_
  refine wp_seq ?_
  refine rg (fun c d v a w h => NL c d v a w h) [(3, .eq (.pointer (some ⟨b1, 1, none⟩))), (4, .nat ((z).natAbs))] [] [] [] 5 2 ?_ ?_
  · refine so [] (fun w2 hw2 => .fin (yld_fieldAddr rfl rfl fldInt1 ⟨Grow.refl _, rfl⟩)) ?_
    exact so [0] (fun w2 hw2 => by rintro _ rfl; exact .fin (yld_loadPart rfl rfl aggNat (B1.grow hw2) (paIntAbs _))) (.nil _ _)
  rintro w2 hw2 v3 - v4 h4 -
  have W2 : Grow w w2 := W1.trans hw2
  replace B2 := B2.grow hw2
  have KK : Kept [] w2 w2 := fun _ _ => rfl
  refine fr [va, pt b1, pt b2, v3, v4] ?_
  change wpListS _ _ _ _ [_] ⟨_, []⟩ _
  refine wpListS_yld rfl ?_
  refine yld_storeBox (R' := .nat ((z).natAbs)) (b := b2) rfl rfl aggNat.size B2 (shNat _) h4 (shNat _) (St.nat _) (by decide) g_b2 fun w3 P3 E3 B' => ⟨fun _ => Kept.put KK P3 (fun _ hk => (by cases hk)), ?_⟩
  have W3 : Grow w w3 := W2.put P3 g_b2
  replace B2 := B'; clear B'
  refine nx ?_
  have BR : Box w3 b2 31 (.nat ((z).natAbs)) := B2
  refine wp_ret ?_
  change bodyPost Try.prog Try.f79 (Ret (.nat ((z).natAbs)) w) .ret _ _
  exact body_cell (b := b2) rfl rfl aggNat BR (shNat _) rfl W3
set_option maxRecDepth 100000 in
set_option maxHeartbeats 2000000 in
theorem cIntSign {z : Int} {va : Value} {w : World}  (ha : (MR.int (z)).R w va)  : Calls Try.prog 60 #[va] w (Ret (.eq (.int .i64 (z.sign))) w) := by
  refine calls_enter (a := ⟨List.toArray ([va] ++ us 9), []⟩) Try.func60 rfl (by kernel_rfl) ?_
  have NL : NoLook (bodyPost Try.prog Try.f60 (Ret (.eq (.int .i64 (z.sign))) w)) := noLook_body
  refine wp_seq ?_
  refine rg (fun c d v a w h => NL c d v a w h) [(1, .ptr 33 (.int (z))), (2, .eq (.int .i64 (0)))] [0] [] [] 10 2 ?_ ?_
  · refine sn [] (fun w1 hw1 => .fin (yld_newBox rfl rfl (MR.mono _ hw1 ha))) ?_
    exact so [] (fun w1 hw1 => .fin (yld_assign rfl ⟨Grow.refl _, rfl⟩)) (.nil _ _)
  rintro w1 hw1 _ ⟨b1, rfl, B1⟩ _ rfl hN
  have W1 : Grow w w1 := (Grow.refl w).trans hw1
  clear hN
  refine fr ([va, pt b1, .int .i64 (0)] ++ us 7) ?_
  refine nx ?_
  refine wp_seq ?_
  refine wp_block ?_
  refine wp_seq ?_
  refine rg (fun c d v a w h => NL c d v a w h) [(4, .eq (.pointer (some ⟨b1, 0, none⟩))), (5, .eq (.bool (decide (z < 0)))), (3, .eq (.bool (decide (z < 0))))] [] [] [] 10 3 ?_ ?_
  · refine so [] (fun w2 hw2 => .fin (yld_fieldAddr rfl rfl fldInt0 ⟨Grow.refl _, rfl⟩)) ?_
    refine so [0] (fun w2 hw2 => by rintro _ rfl; exact .fin (yld_loadOne rfl rfl oneBool (B1.grow hw2) (paIntBelow _))) ?_
    exact so [1] (fun w2 hw2 => by rintro _ rfl; exact .fin (yld_assign rfl ⟨Grow.refl _, rfl⟩)) (.nil _ _)
  rintro w2 hw2 v4 - v5 - _ rfl -
  have W2 : Grow w w2 := W1.trans hw2
  replace B1 := B1.grow hw2
  refine fr ([va, pt b1, .int .i64 (0), .bool (decide (z < 0)), v4, v5] ++ us 4) ?_
  refine nx ?_
  refine wp_cond_split (t := decide (z < 0)) rfl (fun hc1 => ?_) (fun hc1 => ?_)
  · refine wp_seq ?_
    refine rg (fun c d v a w h => NL c d v a w h) [(2, .eq (.int .i64 (-1)))] [] [] [] 10 1 ?_ ?_
    · exact so [] (fun w3 hw3 => .fin (yld_assign rfl ⟨Grow.refl _, rfl⟩)) (.nil _ _)
    rintro w3 hw3 _ rfl -
    have W3 : Grow w w3 := W2.trans hw3
    replace B1 := B1.grow hw3
    refine fr ([va, pt b1, .int .i64 (-1), .bool (decide (z < 0)), v4, v5] ++ us 4) ?_
    refine nx ?_
    refine wp_ret ?_
    change bodyPost Try.prog Try.f60 (Ret (.eq (.int .i64 (z.sign))) w) .ret _ _
    exact body_slot rfl (by show Value.int _ _ = Value.int _ _; rw [show ((-1 : Int)) = (z.sign) from (by simp at hc1; first | omega | (rw [Int.sign_eq_neg_one_of_neg (by omega)]) | (rw [Int.sign_eq_one_of_pos (by omega)]) | (obtain rfl : z = 0 := (by omega); rfl))]) rfl W3
  · refine wp_seq ?_
    refine rg (fun c d v a w h => NL c d v a w h) [(7, .eq (.pointer (some ⟨b1, 1, none⟩))), (8, .nat ((z).natAbs)), (9, .eq (.bool (decide (((z).natAbs) = 0)))), (6, .eq (.bool (decide (((z).natAbs) = 0))))] [] [] [] 10 4 ?_ ?_
    · refine so [] (fun w4 hw4 => .fin (yld_fieldAddr rfl rfl fldInt1 ⟨Grow.refl _, rfl⟩)) ?_
      refine so [0] (fun w4 hw4 => by rintro _ rfl; exact .fin (yld_loadPart rfl rfl aggNat (B1.grow hw4) (paIntAbs _))) ?_
      refine so [1] (fun w4 hw4 => by rintro v8 h8; exact .fin (yld_call rfl cal_nat_Nat_Zero rfl (cNatZero h8))) ?_
      exact so [2] (fun w4 hw4 => by rintro _ rfl; exact .fin (yld_assign rfl ⟨Grow.refl _, rfl⟩)) (.nil _ _)
    rintro w4 hw4 v7 - v8 - v9 - _ rfl -
    have W4 : Grow w w4 := W2.trans hw4
    refine fr [va, pt b1, .int .i64 (0), .bool (decide (z < 0)), v4, v5, .bool (decide (((z).natAbs) = 0)), v7, v8, v9] ?_
    refine nx ?_
    refine wp_cond_split (t := decide (((z).natAbs) = 0)) rfl (fun hc2 => ?_) (fun hc2 => ?_)
    · refine wp_seq ?_
      refine rg (fun c d v a w h => NL c d v a w h) [(2, .eq (.int .i64 (0)))] [] [] [] 10 1 ?_ ?_
      · exact so [] (fun w5 hw5 => .fin (yld_assign rfl ⟨Grow.refl _, rfl⟩)) (.nil _ _)
      rintro w5 hw5 _ rfl -
      have W5 : Grow w w5 := W4.trans hw5
      refine fr [va, pt b1, .int .i64 (0), .bool (decide (z < 0)), v4, v5, .bool (decide (((z).natAbs) = 0)), v7, v8, v9] ?_
      refine nx ?_
      refine wp_ret ?_
      change bodyPost Try.prog Try.f60 (Ret (.eq (.int .i64 (z.sign))) w) .ret _ _
      exact body_slot rfl (by show Value.int _ _ = Value.int _ _; rw [show ((0 : Int)) = (z.sign) from (by simp at hc1 hc2; first | omega | (rw [Int.sign_eq_neg_one_of_neg (by omega)]) | (rw [Int.sign_eq_one_of_pos (by omega)]) | (obtain rfl : z = 0 := (by omega); rfl))]) rfl W5
    · refine wp_skip ?_
      change Code.wp _ _ _ ⟨_, []⟩ _
      refine wp_seq ?_
      refine rg (fun c d v a w h => NL c d v a w h) [(2, .eq (.int .i64 (1)))] [] [] [] 10 1 ?_ ?_
      · exact so [] (fun w6 hw6 => .fin (yld_assign rfl ⟨Grow.refl _, rfl⟩)) (.nil _ _)
      rintro w6 hw6 _ rfl -
      have W6 : Grow w w6 := W4.trans hw6
      refine fr [va, pt b1, .int .i64 (1), .bool (decide (z < 0)), v4, v5, .bool (decide (((z).natAbs) = 0)), v7, v8, v9] ?_
      refine nx ?_
      refine wp_ret ?_
      change bodyPost Try.prog Try.f60 (Ret (.eq (.int .i64 (z.sign))) w) .ret _ _
      exact body_slot rfl (by show Value.int _ _ = Value.int _ _; rw [show ((1 : Int)) = (z.sign) from (by simp at hc1 hc2; first | omega | (rw [Int.sign_eq_neg_one_of_neg (by omega)]) | (rw [Int.sign_eq_one_of_pos (by omega)]) | (obtain rfl : z = 0 := (by omega); rfl))]) rfl W6
set_option maxRecDepth 100000 in
set_option maxHeartbeats 2000000 in
theorem cIntCmp {y z : Int} {va : Value} {vb : Value} {w : World}  (ha : (MR.int (y)).R w va) (hb : (MR.int (z)).R w vb)  : Calls Try.prog 73 #[va, vb] w (Ret (.eq (.int .i64 (cmpV y z))) w) := by
  refine calls_enter (a := ⟨List.toArray ([va, vb] ++ us 32), []⟩) Try.func73 rfl (by kernel_rfl) ?_
  have NL : NoLook (bodyPost Try.prog Try.f73 (Ret (.eq (.int .i64 (cmpV y z))) w)) := noLook_body
  refine wp_seq ?_
  refine rg (fun c d v a w h => NL c d v a w h) [(2, .ptr 33 (.int (y))), (3, .ptr 33 (.int (z))), (4, .eq (.int .i64 (0)))] [0, 1] [] [] 34 3 ?_ ?_
  · refine sn [] (fun w1 hw1 => .fin (yld_newBox rfl rfl (MR.mono _ hw1 ha))) ?_
    refine sn [] (fun w1 hw1 => .fin (yld_newBox rfl rfl (MR.mono _ hw1 hb))) ?_
    exact so [] (fun w1 hw1 => .fin (yld_assign rfl ⟨Grow.refl _, rfl⟩)) (.nil _ _)
  rintro w1 hw1 _ ⟨b2, rfl, B2⟩ _ ⟨b3, rfl, B3⟩ _ rfl hN
  have W1 : Grow w w1 := (Grow.refl w).trans hw1
  clear hN
  refine fr ([va, vb, pt b2, pt b3, .int .i64 (0)] ++ us 29) ?_
  refine nx ?_
  refine wp_seq ?_
  refine wp_block ?_
  refine wp_seq ?_
  obtain ⟨x3, ex3⟩ : ∃ c : Bool, c = (decide (y < 0)) := ⟨_, rfl⟩
  obtain ⟨x4, ex4⟩ : ∃ c : Bool, c = (decide (z < 0)) := ⟨_, rfl⟩
  obtain ⟨x5, ex5⟩ : ∃ c : Bool, c = (x3 != x4) := ⟨_, rfl⟩
  obtain ⟨x6, ex6⟩ : ∃ c : Bool, c = (decide (y < 0)) := ⟨_, rfl⟩
  obtain ⟨x7, ex7⟩ : ∃ c : Bool, c = ((x5 && x6)) := ⟨_, rfl⟩
  refine rg (fun c d v a w h => NL c d v a w h) [(6, .eq (.pointer (some ⟨b2, 0, none⟩))), (7, .eq (.bool (x3))), (8, .eq (.pointer (some ⟨b3, 0, none⟩))), (9, .eq (.bool (x4))), (10, .eq (.bool (x5))), (11, .eq (.bool (x5))), (12, .opt ((x5 == true)) (.eq (.pointer (some ⟨b2, 0, none⟩)))), (13, .opt ((x5 == true)) (.eq (.bool (x6)))), (14, .eq (.bool (x7))), (5, .eq (.bool (x7)))] [] [] [] 34 10 ?_ ?_
  · refine so [] (fun w2 hw2 => .fin (yld_fieldAddr rfl rfl fldInt0 ⟨Grow.refl _, rfl⟩)) ?_
    refine so [0] (fun w2 hw2 => by rintro _ rfl; exact .fin (yld_eqTo (c := .bool (decide (y < 0))) (yld_loadOne rfl rfl oneBool (B2.grow hw2) (paIntBelow _)) (congrArg Value.bool ex3.symm))) ?_
    refine so [] (fun w2 hw2 => .fin (yld_fieldAddr rfl rfl fldInt0 ⟨Grow.refl _, rfl⟩)) ?_
    refine so [2] (fun w2 hw2 => by rintro _ rfl; exact .fin (yld_eqTo (c := .bool (decide (z < 0))) (yld_loadOne rfl rfl oneBool (B3.grow hw2) (paIntBelow _)) (congrArg Value.bool ex4.symm))) ?_
    refine so [1, 3] (fun w2 hw2 => by rintro _ rfl _ rfl; exact .fin (yld_eqTo (c := .bool (x3 != x4)) (yld_bneq rfl Try.underlying4 rfl rfl ⟨Grow.refl _, rfl⟩) (congrArg Value.bool ex5.symm))) ?_
    refine so [4] (fun w2 hw2 => by rintro _ rfl; exact .fin (yld_move rfl ⟨Grow.refl _, rfl⟩)) ?_
    refine sg (c := (x5 == true)) 11 [5] (fun w2 hw2 => by rintro _ rfl; exact .fin (⟨guard_eq, fun hc => yld_fieldAddr rfl rfl fldInt0 ⟨Grow.refl _, rfl⟩⟩)) ?_
    refine sg (c := (x5 == true)) 11 [5, 6] (fun w2 hw2 => by rintro _ rfl v12 h12; exact .fin (⟨guard_eq, fun hc => yld_eqTo (c := .bool (decide (y < 0))) (yld_loadOne rfl (show v12 = .pointer (some ⟨b2, 0, none⟩) from (h12.1 (by revert hc; exact fun h => h))) oneBool (B2.grow hw2) (paIntBelow _)) (congrArg Value.bool ex6.symm)⟩)) ?_
    refine so [5, 7] (fun w2 hw2 => by rintro _ rfl v13 h13; exact .fin (yld_eqTo (c := .bool ((x5 && x6))) (yld_pick_and rfl rfl (fun ht => h13.1 (by revert ht; cases x5 <;> decide)) rfl ⟨Grow.refl _, rfl⟩) (congrArg Value.bool ex7.symm))) ?_
    exact so [8] (fun w2 hw2 => by rintro _ rfl; exact .fin (yld_assign rfl ⟨Grow.refl _, rfl⟩)) (.nil _ _)
  rintro w2 hw2 v6 - _ rfl v8 - _ rfl _ rfl _ rfl v12 - v13 - _ rfl _ rfl -
  have W2 : Grow w w2 := W1.trans hw2
  replace B2 := B2.grow hw2
  replace B3 := B3.grow hw2
  subst ex3
  subst ex4
  subst ex5
  subst ex6
  subst ex7
  refine fr ([va, vb, pt b2, pt b3, .int .i64 (0), .bool (((((decide (y < 0)) != (decide (z < 0))) && (decide (y < 0))))), v6, .bool ((decide (y < 0))), v8, .bool ((decide (z < 0))), .bool (((decide (y < 0)) != (decide (z < 0)))), .bool (((decide (y < 0)) != (decide (z < 0)))), v12, v13, .bool (((((decide (y < 0)) != (decide (z < 0))) && (decide (y < 0)))))] ++ us 19) ?_
  refine nx ?_
  refine wp_cond_split (t := ((((decide (y < 0)) != (decide (z < 0))) && (decide (y < 0))))) rfl (fun hc1 => ?_) (fun hc1 => ?_)
  · refine wp_seq ?_
    refine rg (fun c d v a w h => NL c d v a w h) [(4, .eq (.int .i64 (-1)))] [] [] [] 34 1 ?_ ?_
    · exact so [] (fun w8 hw8 => .fin (yld_assign rfl ⟨Grow.refl _, rfl⟩)) (.nil _ _)
    rintro w8 hw8 _ rfl -
    have W8 : Grow w w8 := W2.trans hw8
    replace B2 := B2.grow hw8
    replace B3 := B3.grow hw8
    refine fr ([va, vb, pt b2, pt b3, .int .i64 (-1), .bool (((((decide (y < 0)) != (decide (z < 0))) && (decide (y < 0))))), v6, .bool ((decide (y < 0))), v8, .bool ((decide (z < 0))), .bool (((decide (y < 0)) != (decide (z < 0)))), .bool (((decide (y < 0)) != (decide (z < 0)))), v12, v13, .bool (((((decide (y < 0)) != (decide (z < 0))) && (decide (y < 0)))))] ++ us 19) ?_
    refine nx ?_
    refine wp_ret ?_
    change bodyPost Try.prog Try.f73 (Ret (.eq (.int .i64 (cmpV y z))) w) .ret _ _
    exact body_slot rfl (by show Value.int _ _ = Value.int _ _; rw [show ((-1 : Int)) = (cmpV y z) from (by simp at hc1; unfold cmpV; first | omega | (split <;> first | omega | (split <;> first | omega | (split <;> first | omega | (split <;> omega)))))]) rfl W8
  · refine wp_seq ?_
    refine rg (fun c d v a w h => NL c d v a w h) [(16, .eq (.pointer (some ⟨b2, 0, none⟩))), (17, .eq (.bool (decide (y < 0)))), (18, .eq (.pointer (some ⟨b3, 0, none⟩))), (19, .eq (.bool (decide (z < 0)))), (20, .eq (.bool ((decide (y < 0)) != (decide (z < 0))))), (15, .eq (.bool ((decide (y < 0)) != (decide (z < 0)))))] [] [] [] 34 6 ?_ ?_
    · refine so [] (fun w9 hw9 => .fin (yld_fieldAddr rfl rfl fldInt0 ⟨Grow.refl _, rfl⟩)) ?_
      refine so [0] (fun w9 hw9 => by rintro _ rfl; exact .fin (yld_loadOne rfl rfl oneBool (B2.grow hw9) (paIntBelow _))) ?_
      refine so [] (fun w9 hw9 => .fin (yld_fieldAddr rfl rfl fldInt0 ⟨Grow.refl _, rfl⟩)) ?_
      refine so [2] (fun w9 hw9 => by rintro _ rfl; exact .fin (yld_loadOne rfl rfl oneBool (B3.grow hw9) (paIntBelow _))) ?_
      refine so [1, 3] (fun w9 hw9 => by rintro _ rfl _ rfl; exact .fin (yld_bneq rfl Try.underlying4 rfl rfl ⟨Grow.refl _, rfl⟩)) ?_
      exact so [4] (fun w9 hw9 => by rintro _ rfl; exact .fin (yld_assign rfl ⟨Grow.refl _, rfl⟩)) (.nil _ _)
    rintro w9 hw9 v16 - v17 - v18 - v19 - v20 - _ rfl -
    have W9 : Grow w w9 := W2.trans hw9
    replace B2 := B2.grow hw9
    replace B3 := B3.grow hw9
    refine fr ([va, vb, pt b2, pt b3, .int .i64 (0), .bool (((((decide (y < 0)) != (decide (z < 0))) && (decide (y < 0))))), v6, .bool ((decide (y < 0))), v8, .bool ((decide (z < 0))), .bool (((decide (y < 0)) != (decide (z < 0)))), .bool (((decide (y < 0)) != (decide (z < 0)))), v12, v13, .bool (((((decide (y < 0)) != (decide (z < 0))) && (decide (y < 0))))), .bool ((decide (y < 0)) != (decide (z < 0))), v16, v17, v18, v19, v20] ++ us 13) ?_
    refine nx ?_
    refine wp_cond_split (t := (decide (y < 0)) != (decide (z < 0))) rfl (fun hc2 => ?_) (fun hc2 => ?_)
    · refine wp_seq ?_
      refine rg (fun c d v a w h => NL c d v a w h) [(4, .eq (.int .i64 (1)))] [] [] [] 34 1 ?_ ?_
      · exact so [] (fun w10 hw10 => .fin (yld_assign rfl ⟨Grow.refl _, rfl⟩)) (.nil _ _)
      rintro w10 hw10 _ rfl -
      have W10 : Grow w w10 := W9.trans hw10
      replace B2 := B2.grow hw10
      replace B3 := B3.grow hw10
      refine fr ([va, vb, pt b2, pt b3, .int .i64 (1), .bool (((((decide (y < 0)) != (decide (z < 0))) && (decide (y < 0))))), v6, .bool ((decide (y < 0))), v8, .bool ((decide (z < 0))), .bool (((decide (y < 0)) != (decide (z < 0)))), .bool (((decide (y < 0)) != (decide (z < 0)))), v12, v13, .bool (((((decide (y < 0)) != (decide (z < 0))) && (decide (y < 0))))), .bool ((decide (y < 0)) != (decide (z < 0))), v16, v17, v18, v19, v20] ++ us 13) ?_
      refine nx ?_
      refine wp_ret ?_
      change bodyPost Try.prog Try.f73 (Ret (.eq (.int .i64 (cmpV y z))) w) .ret _ _
      exact body_slot rfl (by show Value.int _ _ = Value.int _ _; rw [show ((1 : Int)) = (cmpV y z) from (by simp at hc1 hc2; unfold cmpV; first | omega | (split <;> first | omega | (split <;> first | omega | (split <;> first | omega | (split <;> omega)))))]) rfl W10
    · refine wp_seq ?_
      refine rg (fun c d v a w h => NL c d v a w h) [(22, .eq (.pointer (some ⟨b2, 0, none⟩))), (23, .eq (.bool (decide (y < 0)))), (21, .eq (.bool (decide (y < 0))))] [] [] [] 34 3 ?_ ?_
      · refine so [] (fun w11 hw11 => .fin (yld_fieldAddr rfl rfl fldInt0 ⟨Grow.refl _, rfl⟩)) ?_
        refine so [0] (fun w11 hw11 => by rintro _ rfl; exact .fin (yld_loadOne rfl rfl oneBool (B2.grow hw11) (paIntBelow _))) ?_
        exact so [1] (fun w11 hw11 => by rintro _ rfl; exact .fin (yld_assign rfl ⟨Grow.refl _, rfl⟩)) (.nil _ _)
      rintro w11 hw11 v22 - v23 - _ rfl -
      have W11 : Grow w w11 := W9.trans hw11
      replace B2 := B2.grow hw11
      replace B3 := B3.grow hw11
      refine fr ([va, vb, pt b2, pt b3, .int .i64 (0), .bool (((((decide (y < 0)) != (decide (z < 0))) && (decide (y < 0))))), v6, .bool ((decide (y < 0))), v8, .bool ((decide (z < 0))), .bool (((decide (y < 0)) != (decide (z < 0)))), .bool (((decide (y < 0)) != (decide (z < 0)))), v12, v13, .bool (((((decide (y < 0)) != (decide (z < 0))) && (decide (y < 0))))), .bool ((decide (y < 0)) != (decide (z < 0))), v16, v17, v18, v19, v20, .bool (decide (y < 0)), v22, v23] ++ us 10) ?_
      refine nx ?_
      refine wp_cond_split (t := decide (y < 0)) rfl (fun hc3 => ?_) (fun hc3 => ?_)
      · refine wp_seq ?_
        refine rg (fun c d v a w h => NL c d v a w h) [(24, .eq (.pointer (some ⟨b3, 1, none⟩))), (25, .nat ((z).natAbs)), (26, .eq (.pointer (some ⟨b2, 1, none⟩))), (27, .nat ((y).natAbs)), (28, .eq (.int .i64 (cmpV (((z).natAbs : Nat)) (((y).natAbs : Nat))))), (4, .eq (.int .i64 (cmpV (((z).natAbs : Nat)) (((y).natAbs : Nat)))))] [] [] [] 34 6 ?_ ?_
        · refine so [] (fun w12 hw12 => .fin (yld_fieldAddr rfl rfl fldInt1 ⟨Grow.refl _, rfl⟩)) ?_
          refine so [0] (fun w12 hw12 => by rintro _ rfl; exact .fin (yld_loadPart rfl rfl aggNat (B3.grow hw12) (paIntAbs _))) ?_
          refine so [] (fun w12 hw12 => .fin (yld_fieldAddr rfl rfl fldInt1 ⟨Grow.refl _, rfl⟩)) ?_
          refine so [2] (fun w12 hw12 => by rintro _ rfl; exact .fin (yld_loadPart rfl rfl aggNat (B2.grow hw12) (paIntAbs _))) ?_
          refine so [1, 3] (fun w12 hw12 => by rintro v25 h25 v27 h27; exact .fin (yld_call rfl cal_nat_Cmp rfl (cNatCmp h25 h27))) ?_
          exact so [4] (fun w12 hw12 => by rintro _ rfl; exact .fin (yld_assign rfl ⟨Grow.refl _, rfl⟩)) (.nil _ _)
        rintro w12 hw12 v24 - v25 - v26 - v27 - v28 - _ rfl -
        have W12 : Grow w w12 := W11.trans hw12
        replace B2 := B2.grow hw12
        replace B3 := B3.grow hw12
        refine fr ([va, vb, pt b2, pt b3, .int .i64 (cmpV (((z).natAbs : Nat)) (((y).natAbs : Nat))), .bool (((((decide (y < 0)) != (decide (z < 0))) && (decide (y < 0))))), v6, .bool ((decide (y < 0))), v8, .bool ((decide (z < 0))), .bool (((decide (y < 0)) != (decide (z < 0)))), .bool (((decide (y < 0)) != (decide (z < 0)))), v12, v13, .bool (((((decide (y < 0)) != (decide (z < 0))) && (decide (y < 0))))), .bool ((decide (y < 0)) != (decide (z < 0))), v16, v17, v18, v19, v20, .bool (decide (y < 0)), v22, v23, v24, v25, v26, v27, v28] ++ us 5) ?_
        refine nx ?_
        refine wp_ret ?_
        change bodyPost Try.prog Try.f73 (Ret (.eq (.int .i64 (cmpV y z))) w) .ret _ _
        exact body_slot rfl (by show Value.int _ _ = Value.int _ _; rw [show ((cmpV (((z).natAbs : Nat)) (((y).natAbs : Nat)) : Int)) = (cmpV y z) from (by simp at hc1 hc2 hc3; unfold cmpV; first | omega | (split <;> first | omega | (split <;> first | omega | (split <;> first | omega | (split <;> omega)))))]) rfl W12
      · refine wp_skip ?_
        change Code.wp _ _ _ ⟨_, []⟩ _
        refine wp_seq ?_
        refine rg (fun c d v a w h => NL c d v a w h) [(29, .eq (.pointer (some ⟨b2, 1, none⟩))), (30, .nat ((y).natAbs)), (31, .eq (.pointer (some ⟨b3, 1, none⟩))), (32, .nat ((z).natAbs)), (33, .eq (.int .i64 (cmpV (((y).natAbs : Nat)) (((z).natAbs : Nat))))), (4, .eq (.int .i64 (cmpV (((y).natAbs : Nat)) (((z).natAbs : Nat)))))] [] [] [] 34 6 ?_ ?_
        · refine so [] (fun w13 hw13 => .fin (yld_fieldAddr rfl rfl fldInt1 ⟨Grow.refl _, rfl⟩)) ?_
          refine so [0] (fun w13 hw13 => by rintro _ rfl; exact .fin (yld_loadPart rfl rfl aggNat (B2.grow hw13) (paIntAbs _))) ?_
          refine so [] (fun w13 hw13 => .fin (yld_fieldAddr rfl rfl fldInt1 ⟨Grow.refl _, rfl⟩)) ?_
          refine so [2] (fun w13 hw13 => by rintro _ rfl; exact .fin (yld_loadPart rfl rfl aggNat (B3.grow hw13) (paIntAbs _))) ?_
          refine so [1, 3] (fun w13 hw13 => by rintro v30 h30 v32 h32; exact .fin (yld_call rfl cal_nat_Cmp rfl (cNatCmp h30 h32))) ?_
          exact so [4] (fun w13 hw13 => by rintro _ rfl; exact .fin (yld_assign rfl ⟨Grow.refl _, rfl⟩)) (.nil _ _)
        rintro w13 hw13 v29 - v30 - v31 - v32 - v33 - _ rfl -
        have W13 : Grow w w13 := W11.trans hw13
        refine fr [va, vb, pt b2, pt b3, .int .i64 (cmpV (((y).natAbs : Nat)) (((z).natAbs : Nat))), .bool (((((decide (y < 0)) != (decide (z < 0))) && (decide (y < 0))))), v6, .bool ((decide (y < 0))), v8, .bool ((decide (z < 0))), .bool (((decide (y < 0)) != (decide (z < 0)))), .bool (((decide (y < 0)) != (decide (z < 0)))), v12, v13, .bool (((((decide (y < 0)) != (decide (z < 0))) && (decide (y < 0))))), .bool ((decide (y < 0)) != (decide (z < 0))), v16, v17, v18, v19, v20, .bool (decide (y < 0)), v22, v23, u, u, u, u, u, v29, v30, v31, v32, v33] ?_
        refine nx ?_
        refine wp_ret ?_
        change bodyPost Try.prog Try.f73 (Ret (.eq (.int .i64 (cmpV y z))) w) .ret _ _
        exact body_slot rfl (by show Value.int _ _ = Value.int _ _; rw [show ((cmpV (((y).natAbs : Nat)) (((z).natAbs : Nat)) : Int)) = (cmpV y z) from (by simp at hc1 hc2 hc3; unfold cmpV; first | omega | (split <;> first | omega | (split <;> first | omega | (split <;> first | omega | (split <;> omega)))))]) rfl W13
set_option maxRecDepth 100000 in
set_option maxHeartbeats 2000000 in
theorem cIntAdd {y z : Int} {va : Value} {vb : Value} {w : World}  (ha : (MR.int (y)).R w va) (hb : (MR.int (z)).R w vb) (hs : Small (y.natAbs + z.natAbs)) : Calls Try.prog 50 #[va, vb] w (Ret (.int (y + z)) w) := by
  refine calls_enter (a := ⟨List.toArray ([va, vb] ++ us 45), []⟩) Try.func50 rfl (by kernel_rfl) ?_
  have NL : NoLook (bodyPost Try.prog Try.f50 (Ret (.int (y + z)) w)) := noLook_body
  refine wp_seq ?_
  refine rg (fun c d v a w h => NL c d v a w h) [(2, .ptr 33 (.int (y))), (3, .ptr 33 (.int (z))), (4, .ptr 33 (.int (0)))] [0, 1, 2] [] [] 47 3 ?_ ?_
  · refine sn [] (fun w1 hw1 => .fin (yld_newBox rfl rfl (MR.mono _ hw1 ha))) ?_
    refine sn [] (fun w1 hw1 => .fin (yld_newBox rfl rfl (MR.mono _ hw1 hb))) ?_
    exact sn [] (fun w1 hw1 => .fin (yld_newAlloc rfl zeroInt zInt)) (.nil _ _)
  rintro w1 hw1 _ ⟨b2, rfl, B2⟩ _ ⟨b3, rfl, B3⟩ _ ⟨b4, rfl, B4⟩ hN
  have W1 : Grow w w1 := (Grow.refl w).trans hw1
  have n_b2_b4 : b2 ≠ b4 := hN.2.1 2 (by simp)
  have n_b3_b4 : b3 ≠ b4 := hN.2.2.2.1 2 (by simp)
  have g_b4 : w.heap.size ≤ b4 := Nat.le_trans (Grow.refl w).size hN.2.2.2.2.1.1
  clear hN
  refine fr ([va, vb, pt b2, pt b3, pt b4] ++ us 42) ?_
  refine nx ?_
  refine wp_seq ?_
  refine wp_seq ?_
  refine rg (fun c d v a w h => NL c d v a w h) [(9, .eq (.pointer (some ⟨b2, 0, none⟩))), (10, .eq (.bool (decide (y < 0)))), (11, .eq (.pointer (some ⟨b3, 0, none⟩))), (12, .eq (.bool (decide (z < 0)))), (13, .eq (.bool ((decide (y < 0)) == (decide (z < 0)))))] [] [] [] 47 5 ?_ ?_
  · refine so [] (fun w2 hw2 => .fin (yld_fieldAddr rfl rfl fldInt0 ⟨Grow.refl _, rfl⟩)) ?_
    refine so [0] (fun w2 hw2 => by rintro _ rfl; exact .fin (yld_loadOne rfl rfl oneBool (B2.grow hw2) (paIntBelow _))) ?_
    refine so [] (fun w2 hw2 => .fin (yld_fieldAddr rfl rfl fldInt0 ⟨Grow.refl _, rfl⟩)) ?_
    refine so [2] (fun w2 hw2 => by rintro _ rfl; exact .fin (yld_loadOne rfl rfl oneBool (B3.grow hw2) (paIntBelow _))) ?_
    exact so [1, 3] (fun w2 hw2 => by rintro _ rfl _ rfl; exact .fin (yld_beq rfl Try.underlying4 rfl rfl ⟨Grow.refl _, rfl⟩)) (.nil _ _)
  rintro w2 hw2 v9 - v10 - v11 - v12 - _ rfl -
  have W2 : Grow w w2 := W1.trans hw2
  replace B2 := B2.grow hw2
  replace B3 := B3.grow hw2
  replace B4 := B4.grow hw2
  refine fr ([va, vb, pt b2, pt b3, pt b4, u, u, u, u, v9, v10, v11, v12, .bool ((decide (y < 0)) == (decide (z < 0)))] ++ us 33) ?_
  refine nx ?_
  refine wp_cond_split (t := (decide (y < 0)) == (decide (z < 0))) rfl (fun hc1 => ?_) (fun hc1 => ?_)
  · refine wp_seq ?_
    refine rg (fun c d v a w h => NL c d v a w h) [(14, .eq (.pointer (some ⟨b2, 0, none⟩))), (15, .eq (.bool (decide (y < 0)))), (16, .eq (.pointer (some ⟨b2, 1, none⟩))), (17, .nat ((y).natAbs)), (18, .eq (.pointer (some ⟨b3, 1, none⟩))), (19, .nat ((z).natAbs)), (20, .nat (((y).natAbs) + ((z).natAbs))), (21, .int (signed (decide (y < 0)) (((y).natAbs) + ((z).natAbs))))] [] [] [] 47 8 ?_ ?_
    · refine so [] (fun w3 hw3 => .fin (yld_fieldAddr rfl rfl fldInt0 ⟨Grow.refl _, rfl⟩)) ?_
      refine so [0] (fun w3 hw3 => by rintro _ rfl; exact .fin (yld_loadOne rfl rfl oneBool (B2.grow hw3) (paIntBelow _))) ?_
      refine so [] (fun w3 hw3 => .fin (yld_fieldAddr rfl rfl fldInt1 ⟨Grow.refl _, rfl⟩)) ?_
      refine so [2] (fun w3 hw3 => by rintro _ rfl; exact .fin (yld_loadPart rfl rfl aggNat (B2.grow hw3) (paIntAbs _))) ?_
      refine so [] (fun w3 hw3 => .fin (yld_fieldAddr rfl rfl fldInt1 ⟨Grow.refl _, rfl⟩)) ?_
      refine so [4] (fun w3 hw3 => by rintro _ rfl; exact .fin (yld_loadPart rfl rfl aggNat (B3.grow hw3) (paIntAbs _))) ?_
      refine so [3, 5] (fun w3 hw3 => by rintro v17 h17 v19 h19; exact .fin (yld_call rfl cal_nat_Add rfl (cNatAdd h17 h19 hs))) ?_
      exact so [1, 6] (fun w3 hw3 => by rintro _ rfl v20 h20; exact .fin (yld_call rfl cal_integer_New rfl (cNew h20))) (.nil _ _)
    rintro w3 hw3 v14 - v15 - v16 - v17 - v18 - v19 - v20 - v21 h21 -
    have W3 : Grow w w3 := W2.trans hw3
    replace B2 := B2.grow hw3
    replace B3 := B3.grow hw3
    replace B4 := B4.grow hw3
    have KK : Kept [] w3 w3 := fun _ _ => rfl
    refine fr ([va, vb, pt b2, pt b3, pt b4, u, u, u, u, v9, v10, v11, v12, .bool ((decide (y < 0)) == (decide (z < 0))), v14, v15, v16, v17, v18, v19, v20, v21] ++ us 25) ?_
    change wpListS _ _ _ _ [_] ⟨_, []⟩ _
    refine wpListS_yld rfl ?_
    refine yld_storeBox (R' := .int (signed (decide (y < 0)) (((y).natAbs) + ((z).natAbs)))) (b := b4) rfl rfl aggInt.size B4 (shInt _) h21 (shInt _) (St.int _) (by decide) g_b4 fun w4 P4 E4 B' => ⟨fun _ => Kept.put KK P4 (fun _ hk => (by cases hk)), ?_⟩
    replace KK := Kept.put KK P4 (fun _ hk => (by cases hk))
    have W4 : Grow w w4 := W3.put P4 g_b4
    replace B2 := B2.put (St.int _) P4 E4 n_b2_b4
    replace B3 := B3.put (St.int _) P4 E4 n_b3_b4
    replace B4 := B'; clear B'
    refine nx ?_
    have BR : Box w4 b4 33 (.int (y + z)) := (by have e : (signed (decide (y < 0)) (((y).natAbs) + ((z).natAbs)) : Int) = y + z := (by simp at hc1; unfold signed; (repeat split) <;> simp_all <;> omega); rw [← e]; exact B4)
    refine wp_ret ?_
    change bodyPost Try.prog Try.f50 (Ret (.int (y + z)) w) .ret _ _
    exact body_cell (b := b4) rfl rfl aggInt BR (shInt _) rfl W4
  · refine wp_skip ?_
    change Code.wp _ _ _ ⟨_, []⟩ _
    refine wp_seq ?_
    refine wp_seq ?_
    refine rg (fun c d v a w h => NL c d v a w h) [(23, .eq (.pointer (some ⟨b2, 1, none⟩))), (24, .nat ((y).natAbs)), (25, .eq (.pointer (some ⟨b3, 1, none⟩))), (26, .nat ((z).natAbs)), (27, .tup2 (.nat (((y).natAbs) - ((z).natAbs))) (.eq (.bool (decide (((z).natAbs) ≤ ((y).natAbs)))))), (22, .tup2 (.nat (((y).natAbs) - ((z).natAbs))) (.eq (.bool (decide (((z).natAbs) ≤ ((y).natAbs)))))), (28, .nat (((y).natAbs) - ((z).natAbs))), (29, .eq (.bool (decide (((z).natAbs) ≤ ((y).natAbs))))), (5, .ptr 31 (.nat (0)))] [8] [7] [] 47 9 ?_ ?_
    · refine so [] (fun w5 hw5 => .fin (yld_fieldAddr rfl rfl fldInt1 ⟨Grow.refl _, rfl⟩)) ?_
      refine so [0] (fun w5 hw5 => by rintro _ rfl; exact .fin (yld_loadPart rfl rfl aggNat (B2.grow hw5) (paIntAbs _))) ?_
      refine so [] (fun w5 hw5 => .fin (yld_fieldAddr rfl rfl fldInt1 ⟨Grow.refl _, rfl⟩)) ?_
      refine so [2] (fun w5 hw5 => by rintro _ rfl; exact .fin (yld_loadPart rfl rfl aggNat (B3.grow hw5) (paIntAbs _))) ?_
      refine so [1, 3] (fun w5 hw5 => by rintro v24 h24 v26 h26; exact .fin (yld_call rfl cal_nat_Sub rfl (cNatSub h24 h26))) ?_
      refine so [4] (fun w5 hw5 => by rintro _ ⟨x27_0, x27_1, rfl, hx27_0, hx27_1⟩; exact .fin (yld_move rfl ⟨Grow.refl _, ⟨x27_0, x27_1, rfl, hx27_0, hx27_1⟩⟩)) ?_
      refine so [5] (fun w5 hw5 => by rintro _ ⟨x22_0, x22_1, rfl, hx22_0, hx22_1⟩; exact .fin (yld_extract rfl rfl rfl ⟨Grow.refl _, hx22_0⟩)) ?_
      refine sl [5] (fun w5 hw5 => by rintro _ ⟨x22_0, x22_1, rfl, hx22_0, hx22_1⟩; exact .fin (⟨_, fun w2 _ => pure_extract rfl rfl rfl w2, hx22_1⟩)) ?_
      exact sn [] (fun w5 hw5 => .fin (yld_newAlloc rfl zeroNat zNat)) (.nil _ _)
    rintro w5 hw5 v23 - v24 - v25 - v26 - v27 - v22 - v28 h28 _ rfl _ ⟨b5, rfl, B5⟩ hN
    have W5 : Grow w w5 := W2.trans hw5
    have g_b5 : w.heap.size ≤ b5 := Nat.le_trans W2.size hN.1.1
    have n_b2_b5 : b2 ≠ b5 := Nat.ne_of_lt (Nat.lt_of_lt_of_le B2.lt hN.1.1)
    have n_b3_b5 : b3 ≠ b5 := Nat.ne_of_lt (Nat.lt_of_lt_of_le B3.lt hN.1.1)
    have n_b4_b5 : b4 ≠ b5 := Nat.ne_of_lt (Nat.lt_of_lt_of_le B4.lt hN.1.1)
    clear hN
    replace B2 := B2.grow hw5
    replace B3 := B3.grow hw5
    replace B4 := B4.grow hw5
    have KK : Kept [] w5 w5 := fun _ _ => rfl
    refine fr ([va, vb, pt b2, pt b3, pt b4, pt b5, u, u, u, v9, v10, v11, v12, .bool ((decide (y < 0)) == (decide (z < 0))), u, u, u, u, u, u, u, u, v22, v23, v24, v25, v26, v27, v28, .bool (decide (((z).natAbs) ≤ ((y).natAbs)))] ++ us 17) ?_
    change wpListS _ _ _ _ [_, _] ⟨_, []⟩ _
    refine wpListS_yld rfl ?_
    refine yld_storeBox (R' := .nat (((y).natAbs) - ((z).natAbs))) (b := b5) rfl rfl aggNat.size B5 (shNat _) h28 (shNat _) (St.nat _) (by decide) g_b5 fun w6 P6 E6 B' => ⟨fun _ => Kept.put KK P6 (fun _ hk => (by cases hk)), ?_⟩
    replace KK := Kept.put KK P6 (fun _ hk => (by cases hk))
    have W6 : Grow w w6 := W5.put P6 g_b5
    replace B2 := B2.put (St.int _) P6 E6 n_b2_b5
    replace B3 := B3.put (St.int _) P6 E6 n_b3_b5
    replace B4 := B4.put (St.int _) P6 E6 n_b4_b5
    replace B5 := B'; clear B'
    change wpListS _ _ _ _ [_] ⟨_, []⟩ _
    refine wpListS_yld rfl ?_
    refine yld_assign rfl ⟨fun _ => KK, ?_⟩
    refine wpListS_nil ?_
    change Code.wp _ _ _ ⟨List.toArray (List.set _ 6 _), []⟩ _
    refine wp_seq ?_
    refine rg (fun c d v a w h => NL c d v a w h) [(30, .eq (.bool (decide (((z).natAbs) ≤ ((y).natAbs)))))] [] [] [] 47 1 ?_ ?_
    · exact so [] (fun w7 hw7 => .fin (yld_move rfl ⟨Grow.refl _, rfl⟩)) (.nil _ _)
    rintro w7 hw7 _ rfl -
    have W7 : Grow w w7 := W6.trans hw7
    replace B2 := B2.grow hw7
    replace B3 := B3.grow hw7
    replace B4 := B4.grow hw7
    replace B5 := B5.grow hw7
    refine fr ([va, vb, pt b2, pt b3, pt b4, pt b5, .bool (decide (((z).natAbs) ≤ ((y).natAbs))), u, u, v9, v10, v11, v12, .bool ((decide (y < 0)) == (decide (z < 0))), u, u, u, u, u, u, u, u, v22, v23, v24, v25, v26, v27, v28, .bool (decide (((z).natAbs) ≤ ((y).natAbs))), .bool (decide (((z).natAbs) ≤ ((y).natAbs)))] ++ us 16) ?_
    refine nx ?_
    refine wp_cond_split (t := decide (((z).natAbs) ≤ ((y).natAbs))) rfl (fun hc2 => ?_) (fun hc2 => ?_)
    · refine wp_seq ?_
      refine rg (fun c d v a w h => NL c d v a w h) [(31, .eq (.pointer (some ⟨b2, 0, none⟩))), (32, .eq (.bool (decide (y < 0)))), (33, .nat (((y).natAbs) - ((z).natAbs))), (34, .int (signed (decide (y < 0)) (((y).natAbs) - ((z).natAbs))))] [] [] [] 47 4 ?_ ?_
      · refine so [] (fun w8 hw8 => .fin (yld_fieldAddr rfl rfl fldInt0 ⟨Grow.refl _, rfl⟩)) ?_
        refine so [0] (fun w8 hw8 => by rintro _ rfl; exact .fin (yld_loadOne rfl rfl oneBool (B2.grow hw8) (paIntBelow _))) ?_
        refine so [] (fun w8 hw8 => .fin (yld_loadBox rfl rfl aggNat (B5.grow hw8) (shNat _))) ?_
        exact so [1, 2] (fun w8 hw8 => by rintro _ rfl v33 h33; exact .fin (yld_call rfl cal_integer_New rfl (cNew h33))) (.nil _ _)
      rintro w8 hw8 v31 - v32 - v33 - v34 h34 -
      have W8 : Grow w w8 := W7.trans hw8
      replace B2 := B2.grow hw8
      replace B3 := B3.grow hw8
      replace B4 := B4.grow hw8
      have KK : Kept [] w8 w8 := fun _ _ => rfl
      refine fr ([va, vb, pt b2, pt b3, pt b4, pt b5, .bool (decide (((z).natAbs) ≤ ((y).natAbs))), u, u, v9, v10, v11, v12, .bool ((decide (y < 0)) == (decide (z < 0))), u, u, u, u, u, u, u, u, v22, v23, v24, v25, v26, v27, v28, .bool (decide (((z).natAbs) ≤ ((y).natAbs))), .bool (decide (((z).natAbs) ≤ ((y).natAbs))), v31, v32, v33, v34] ++ us 12) ?_
      change wpListS _ _ _ _ [_] ⟨_, []⟩ _
      refine wpListS_yld rfl ?_
      refine yld_storeBox (R' := .int (signed (decide (y < 0)) (((y).natAbs) - ((z).natAbs)))) (b := b4) rfl rfl aggInt.size B4 (shInt _) h34 (shInt _) (St.int _) (by decide) g_b4 fun w9 P9 E9 B' => ⟨fun _ => Kept.put KK P9 (fun _ hk => (by cases hk)), ?_⟩
      replace KK := Kept.put KK P9 (fun _ hk => (by cases hk))
      have W9 : Grow w w9 := W8.put P9 g_b4
      replace B2 := B2.put (St.int _) P9 E9 n_b2_b4
      replace B3 := B3.put (St.int _) P9 E9 n_b3_b4
      replace B4 := B'; clear B'
      refine nx ?_
      have BR : Box w9 b4 33 (.int (y + z)) := (by have e : (signed (decide (y < 0)) (((y).natAbs) - ((z).natAbs)) : Int) = y + z := (by simp at hc1 hc2; unfold signed; (repeat split) <;> simp_all <;> omega); rw [← e]; exact B4)
      refine wp_ret ?_
      change bodyPost Try.prog Try.f50 (Ret (.int (y + z)) w) .ret _ _
      exact body_cell (b := b4) rfl rfl aggInt BR (shInt _) rfl W9
    · refine wp_skip ?_
      change Code.wp _ _ _ ⟨_, []⟩ _
      refine wp_seq ?_
      refine rg (fun c d v a w h => NL c d v a w h) [(36, .eq (.pointer (some ⟨b3, 1, none⟩))), (37, .nat ((z).natAbs)), (38, .eq (.pointer (some ⟨b2, 1, none⟩))), (39, .nat ((y).natAbs)), (40, .tup2 (.nat (((z).natAbs) - ((y).natAbs))) (.eq (.bool (decide (((y).natAbs) ≤ ((z).natAbs)))))), (35, .tup2 (.nat (((z).natAbs) - ((y).natAbs))) (.eq (.bool (decide (((y).natAbs) ≤ ((z).natAbs)))))), (41, .nat (((z).natAbs) - ((y).natAbs))), (42, .eq (.bool (decide (((y).natAbs) ≤ ((z).natAbs))))), (7, .ptr 31 (.nat (0)))] [8] [7] [] 47 9 ?_ ?_
      · refine so [] (fun w10 hw10 => .fin (yld_fieldAddr rfl rfl fldInt1 ⟨Grow.refl _, rfl⟩)) ?_
        refine so [0] (fun w10 hw10 => by rintro _ rfl; exact .fin (yld_loadPart rfl rfl aggNat (B3.grow hw10) (paIntAbs _))) ?_
        refine so [] (fun w10 hw10 => .fin (yld_fieldAddr rfl rfl fldInt1 ⟨Grow.refl _, rfl⟩)) ?_
        refine so [2] (fun w10 hw10 => by rintro _ rfl; exact .fin (yld_loadPart rfl rfl aggNat (B2.grow hw10) (paIntAbs _))) ?_
        refine so [1, 3] (fun w10 hw10 => by rintro v37 h37 v39 h39; exact .fin (yld_call rfl cal_nat_Sub rfl (cNatSub h37 h39))) ?_
        refine so [4] (fun w10 hw10 => by rintro _ ⟨x40_0, x40_1, rfl, hx40_0, hx40_1⟩; exact .fin (yld_move rfl ⟨Grow.refl _, ⟨x40_0, x40_1, rfl, hx40_0, hx40_1⟩⟩)) ?_
        refine so [5] (fun w10 hw10 => by rintro _ ⟨x35_0, x35_1, rfl, hx35_0, hx35_1⟩; exact .fin (yld_extract rfl rfl rfl ⟨Grow.refl _, hx35_0⟩)) ?_
        refine sl [5] (fun w10 hw10 => by rintro _ ⟨x35_0, x35_1, rfl, hx35_0, hx35_1⟩; exact .fin (⟨_, fun w2 _ => pure_extract rfl rfl rfl w2, hx35_1⟩)) ?_
        exact sn [] (fun w10 hw10 => .fin (yld_newAlloc rfl zeroNat zNat)) (.nil _ _)
      rintro w10 hw10 v36 - v37 - v38 - v39 - v40 - v35 - v41 h41 _ rfl _ ⟨b7, rfl, B7⟩ hN
      have W10 : Grow w w10 := W7.trans hw10
      have g_b7 : w.heap.size ≤ b7 := Nat.le_trans W7.size hN.1.1
      have n_b3_b7 : b3 ≠ b7 := Nat.ne_of_lt (Nat.lt_of_lt_of_le B3.lt hN.1.1)
      have n_b4_b7 : b4 ≠ b7 := Nat.ne_of_lt (Nat.lt_of_lt_of_le B4.lt hN.1.1)
      clear hN
      replace B3 := B3.grow hw10
      replace B4 := B4.grow hw10
      have KK : Kept [] w10 w10 := fun _ _ => rfl
      refine fr ([va, vb, pt b2, pt b3, pt b4, pt b5, .bool (decide (((z).natAbs) ≤ ((y).natAbs))), pt b7, u, v9, v10, v11, v12, .bool ((decide (y < 0)) == (decide (z < 0))), u, u, u, u, u, u, u, u, v22, v23, v24, v25, v26, v27, v28, .bool (decide (((z).natAbs) ≤ ((y).natAbs))), .bool (decide (((z).natAbs) ≤ ((y).natAbs))), u, u, u, u, v35, v36, v37, v38, v39, v40, v41, .bool (decide (((y).natAbs) ≤ ((z).natAbs)))] ++ us 4) ?_
      change wpListS _ _ _ _ [_, _] ⟨_, []⟩ _
      refine wpListS_yld rfl ?_
      refine yld_storeBox (R' := .nat (((z).natAbs) - ((y).natAbs))) (b := b7) rfl rfl aggNat.size B7 (shNat _) h41 (shNat _) (St.nat _) (by decide) g_b7 fun w11 P11 E11 B' => ⟨fun _ => Kept.put KK P11 (fun _ hk => (by cases hk)), ?_⟩
      replace KK := Kept.put KK P11 (fun _ hk => (by cases hk))
      have W11 : Grow w w11 := W10.put P11 g_b7
      replace B3 := B3.put (St.int _) P11 E11 n_b3_b7
      replace B4 := B4.put (St.int _) P11 E11 n_b4_b7
      replace B7 := B'; clear B'
      change wpListS _ _ _ _ [_] ⟨_, []⟩ _
      refine wpListS_yld rfl ?_
      refine yld_assign rfl ⟨fun _ => KK, ?_⟩
      refine wpListS_nil ?_
      change Code.wp _ _ _ ⟨List.toArray (List.set _ 8 _), []⟩ _
      refine wp_seq ?_
      refine rg (fun c d v a w h => NL c d v a w h) [(43, .eq (.pointer (some ⟨b3, 0, none⟩))), (44, .eq (.bool (decide (z < 0)))), (45, .nat (((z).natAbs) - ((y).natAbs))), (46, .int (signed (decide (z < 0)) (((z).natAbs) - ((y).natAbs))))] [] [] [] 47 4 ?_ ?_
      · refine so [] (fun w12 hw12 => .fin (yld_fieldAddr rfl rfl fldInt0 ⟨Grow.refl _, rfl⟩)) ?_
        refine so [0] (fun w12 hw12 => by rintro _ rfl; exact .fin (yld_loadOne rfl rfl oneBool (B3.grow hw12) (paIntBelow _))) ?_
        refine so [] (fun w12 hw12 => .fin (yld_loadBox rfl rfl aggNat (B7.grow hw12) (shNat _))) ?_
        exact so [1, 2] (fun w12 hw12 => by rintro _ rfl v45 h45; exact .fin (yld_call rfl cal_integer_New rfl (cNew h45))) (.nil _ _)
      rintro w12 hw12 v43 - v44 - v45 - v46 h46 -
      have W12 : Grow w w12 := W11.trans hw12
      replace B4 := B4.grow hw12
      have KK : Kept [] w12 w12 := fun _ _ => rfl
      refine fr [va, vb, pt b2, pt b3, pt b4, pt b5, .bool (decide (((z).natAbs) ≤ ((y).natAbs))), pt b7, .bool (decide (((y).natAbs) ≤ ((z).natAbs))), v9, v10, v11, v12, .bool ((decide (y < 0)) == (decide (z < 0))), u, u, u, u, u, u, u, u, v22, v23, v24, v25, v26, v27, v28, .bool (decide (((z).natAbs) ≤ ((y).natAbs))), .bool (decide (((z).natAbs) ≤ ((y).natAbs))), u, u, u, u, v35, v36, v37, v38, v39, v40, v41, .bool (decide (((y).natAbs) ≤ ((z).natAbs))), v43, v44, v45, v46] ?_
      change wpListS _ _ _ _ [_] ⟨_, []⟩ _
      refine wpListS_yld rfl ?_
      refine yld_storeBox (R' := .int (signed (decide (z < 0)) (((z).natAbs) - ((y).natAbs)))) (b := b4) rfl rfl aggInt.size B4 (shInt _) h46 (shInt _) (St.int _) (by decide) g_b4 fun w13 P13 E13 B' => ⟨fun _ => Kept.put KK P13 (fun _ hk => (by cases hk)), ?_⟩
      have W13 : Grow w w13 := W12.put P13 g_b4
      replace B4 := B'; clear B'
      refine nx ?_
      have BR : Box w13 b4 33 (.int (y + z)) := (by have e : (signed (decide (z < 0)) (((z).natAbs) - ((y).natAbs)) : Int) = y + z := (by simp at hc1 hc2; unfold signed; (repeat split) <;> simp_all <;> omega); rw [← e]; exact B4)
      refine wp_ret ?_
      change bodyPost Try.prog Try.f50 (Ret (.int (y + z)) w) .ret _ _
      exact body_cell (b := b4) rfl rfl aggInt BR (shInt _) rfl W13
set_option maxRecDepth 100000 in
set_option maxHeartbeats 2000000 in
theorem cIntOf {x : Int}  {w : World}   (hl : -9223372036854775808 ≤ x) (hu : x < 9223372036854775808) : Calls Try.prog 57 #[.int .i64 (x)] w (Ret (.int (x)) w) := by
  have _ := hu
  have _ := hl
  refine calls_enter (a := ⟨List.toArray ([.int .i64 (x)] ++ us 15), []⟩) Try.func57 rfl (by kernel_rfl) ?_
  have NL : NoLook (bodyPost Try.prog Try.f57 (Ret (.int (x)) w)) := noLook_body
  refine wp_seq ?_
  refine rg (fun c d v a w h => NL c d v a w h) [(2, .ptr 33 (.int (0)))] [0] [] [] 16 1 ?_ ?_
  · exact sn [] (fun w1 hw1 => .fin (yld_newAlloc rfl zeroInt zInt)) (.nil _ _)
  rintro w1 hw1 _ ⟨b2, rfl, B2⟩ hN
  have W1 : Grow w w1 := (Grow.refl w).trans hw1
  have g_b2 : w.heap.size ≤ b2 := Nat.le_trans (Grow.refl w).size hN.1.1
  clear hN
  refine fr ([.int .i64 (x), u, pt b2] ++ us 13) ?_
  refine nx ?_
  refine wp_seq ?_
  refine wp_seq ?_
  refine rg (fun c d v a w h => NL c d v a w h) [(3, .eq (.int .i64 (x))), (4, .eq (.bool (decide ((x : Int) < (0 : Int)))))] [] [] [] 16 2 ?_ ?_
  · refine so [] (fun w2 hw2 => .fin (yld_move rfl ⟨Grow.refl _, rfl⟩)) ?_
    exact so [0] (fun w2 hw2 => by rintro _ rfl; exact .fin (yld_lss rfl rfl rfl ⟨Grow.refl _, rfl⟩)) (.nil _ _)
  rintro w2 hw2 v3 - _ rfl -
  have W2 : Grow w w2 := W1.trans hw2
  replace B2 := B2.grow hw2
  refine fr ([.int .i64 (x), u, pt b2, v3, .bool (decide ((x : Int) < (0 : Int)))] ++ us 11) ?_
  refine nx ?_
  refine wp_cond_split (t := decide ((x : Int) < (0 : Int))) rfl (fun hc1 => ?_) (fun hc1 => ?_)
  · refine wp_seq ?_
    refine rg (fun c d v a w h => NL c d v a w h) [(5, .eq (.int .i64 (x))), (6, .eq (.int .u64 (x + 18446744073709551616))), (7, .eq (.int .u64 ((x.natAbs : Nat)))), (8, .lits ([x.natAbs])), (9, .nat (x.natAbs)), (10, .int (signed (true) (x.natAbs)))] [] [] [] 16 6 ?_ ?_
    · refine so [] (fun w3 hw3 => .fin (yld_move rfl ⟨Grow.refl _, rfl⟩)) ?_
      refine so [0] (fun w3 hw3 => by rintro _ rfl; exact .fin (yld_convert rfl rfl Try.underlying105 ⟨_, Try.underlying3⟩ (r := x + 18446744073709551616) (by simp at hc1; rw [IntKind.wrap_u64]; omega) ⟨Grow.refl _, rfl⟩)) ?_
      refine so [1] (fun w3 hw3 => by rintro _ rfl; exact .fin (yld_neg rfl rfl (r := (x.natAbs : Nat)) (by simp at hc1; rw [IntKind.wrap_u64]; omega) ⟨Grow.refl _, rfl⟩)) ?_
      refine so [2] (fun w3 hw3 => by rintro _ rfl; exact .fin (yld_lit rfl rfl)) ?_
      refine so [3] (fun w3 hw3 => by rintro v8 h8; exact .fin (yld_call rfl cal_nat_Of rfl (cNatOf1 h8 (by omega)))) ?_
      exact so [4] (fun w3 hw3 => by rintro v9 h9; exact .fin (yld_call rfl cal_integer_New rfl (cNew h9))) (.nil _ _)
    rintro w3 hw3 v5 - v6 - v7 - v8 - v9 - v10 h10 -
    have W3 : Grow w w3 := W2.trans hw3
    replace B2 := B2.grow hw3
    have KK : Kept [] w3 w3 := fun _ _ => rfl
    refine fr ([.int .i64 (x), u, pt b2, v3, .bool (decide ((x : Int) < (0 : Int))), v5, v6, v7, v8, v9, v10] ++ us 5) ?_
    change wpListS _ _ _ _ [_] ⟨_, []⟩ _
    refine wpListS_yld rfl ?_
    refine yld_storeBox (R' := .int (signed (true) (x.natAbs))) (b := b2) rfl rfl aggInt.size B2 (shInt _) h10 (shInt _) (St.int _) (by decide) g_b2 fun w4 P4 E4 B' => ⟨fun _ => Kept.put KK P4 (fun _ hk => (by cases hk)), ?_⟩
    replace KK := Kept.put KK P4 (fun _ hk => (by cases hk))
    have W4 : Grow w w4 := W3.put P4 g_b2
    replace B2 := B'; clear B'
    refine nx ?_
    have BR : Box w4 b2 33 (.int (x)) := (by have e : (signed (true) (x.natAbs) : Int) = x := (by simp at hc1; unfold signed; simp; omega); rw [← e]; exact B2)
    refine wp_ret ?_
    change bodyPost Try.prog Try.f57 (Ret (.int (x)) w) .ret _ _
    exact body_cell (b := b2) rfl rfl aggInt BR (shInt _) rfl W4
  · refine wp_skip ?_
    change Code.wp _ _ _ ⟨_, []⟩ _
    refine wp_seq ?_
    refine rg (fun c d v a w h => NL c d v a w h) [(11, .eq (.int .i64 (x))), (12, .eq (.int .u64 ((x.natAbs : Nat)))), (13, .lits ([x.natAbs])), (14, .nat (x.natAbs)), (15, .int (signed (false) (x.natAbs)))] [] [] [] 16 5 ?_ ?_
    · refine so [] (fun w5 hw5 => .fin (yld_move rfl ⟨Grow.refl _, rfl⟩)) ?_
      refine so [0] (fun w5 hw5 => by rintro _ rfl; exact .fin (yld_convert rfl rfl Try.underlying105 ⟨_, Try.underlying3⟩ (r := (x.natAbs : Nat)) (by simp at hc1; rw [IntKind.wrap_u64]; omega) ⟨Grow.refl _, rfl⟩)) ?_
      refine so [1] (fun w5 hw5 => by rintro _ rfl; exact .fin (yld_lit rfl rfl)) ?_
      refine so [2] (fun w5 hw5 => by rintro v13 h13; exact .fin (yld_call rfl cal_nat_Of rfl (cNatOf1 h13 (by omega)))) ?_
      exact so [3] (fun w5 hw5 => by rintro v14 h14; exact .fin (yld_call rfl cal_integer_New rfl (cNew h14))) (.nil _ _)
    rintro w5 hw5 v11 - v12 - v13 - v14 - v15 h15 -
    have W5 : Grow w w5 := W2.trans hw5
    replace B2 := B2.grow hw5
    have KK : Kept [] w5 w5 := fun _ _ => rfl
    refine fr [.int .i64 (x), u, pt b2, v3, .bool (decide ((x : Int) < (0 : Int))), u, u, u, u, u, u, v11, v12, v13, v14, v15] ?_
    change wpListS _ _ _ _ [_] ⟨_, []⟩ _
    refine wpListS_yld rfl ?_
    refine yld_storeBox (R' := .int (signed (false) (x.natAbs))) (b := b2) rfl rfl aggInt.size B2 (shInt _) h15 (shInt _) (St.int _) (by decide) g_b2 fun w6 P6 E6 B' => ⟨fun _ => Kept.put KK P6 (fun _ hk => (by cases hk)), ?_⟩
    have W6 : Grow w w6 := W5.put P6 g_b2
    replace B2 := B'; clear B'
    refine nx ?_
    have BR : Box w6 b2 33 (.int (x)) := (by have e : (signed (false) (x.natAbs) : Int) = x := (by simp at hc1; unfold signed; simp; omega); rw [← e]; exact B2)
    refine wp_ret ?_
    change bodyPost Try.prog Try.f57 (Ret (.int (x)) w) .ret _ _
    exact body_cell (b := b2) rfl rfl aggInt BR (shInt _) rfl W6
end Go.Proofs.Ytngghjhmfpmilaa
