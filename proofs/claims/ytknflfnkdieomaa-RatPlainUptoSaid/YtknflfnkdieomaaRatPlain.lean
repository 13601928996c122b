/- actuarylaw08.RatPlain, its walk. -/
import Derived.Test.YtknflfnkdieomaaAwake8
import Derived.Test.YtknflfnkdieomaaRatL
namespace Go.Proofs.Ytknflfnkdieomaa
open Go.RowKit
theorem cal_actuarylaw08_awake : Callable Try.prog 20 := callable_of Try.func20 rfl (by kernel_rfl)
theorem cal_rat_Rat_Zero : Callable Try.prog 24 := callable_of Try.func24 rfl (by kernel_rfl)
theorem cal_actuarylaw08_Make : Callable Try.prog 30 := callable_of Try.func30 rfl (by kernel_rfl)
theorem cal_gcd_Coprime : Callable Try.prog 39 := callable_of Try.func39 rfl (by kernel_rfl)
theorem cal_rat_Rat_IsInt : Callable Try.prog 42 := callable_of Try.func42 rfl (by kernel_rfl)
theorem cal_rat_Whole : Callable Try.prog 43 := callable_of Try.func43 rfl (by kernel_rfl)
set_option maxRecDepth 100000 in
set_option maxHeartbeats 2000000 in
theorem ratPlain {B : Nat} {bk : Bool} {fk gk : Nat → Nat} {nk mk : Nat} {bl : Bool} {fl gl : Nat → Nat} {nl ml : Nat} {vk : Value} {vl : Value} {w : World} (hB : B ≤ w.heap.size) (hk : (MR.part (B) (bk) (fk) (nk) (gk) (mk)).R w vk) (hl : (MR.part (B) (bl) (fl) (nl) (gl) (ml)).R w vl) (wfk : Wf fk nk) (hnk : nk ≤ 1048576) (wgk : Wf gk mk) (hmk : mk ≤ 1048576) (wfl : Wf fl nl) (hnl : nl ≤ 1048576) (wgl : Wf gl ml) (hml : ml ≤ 1048576) : Calls Try.prog 10 #[vk, vl] w (Ret (.eq (.bool (true))) w) := by
  obtain ⟨qk, ek⟩ : ∃ q, q = partQ bk fk nk gk mk := ⟨_, rfl⟩
  have sk : szq qk ≤ 2097153 := by rw [ek]; exact Nat.le_trans (szq_part wfk wgk) (by omega)
  obtain ⟨ql, el⟩ : ∃ q, q = partQ bl fl nl gl ml := ⟨_, rfl⟩
  have sl : szq ql ≤ 2097153 := by rw [el]; exact Nat.le_trans (szq_part wfl wgl) (by omega)
  refine calls_enter (a := ⟨List.toArray ([vk, vl] ++ us 66), []⟩) Try.func10 rfl (by kernel_rfl) ?_
  have NL : NoLook (bodyPost Try.prog Try.f10 (Ret (.eq (.bool (true))) w)) := noLook_body
  refine wp_seq ?_
  refine rg (fun c d v a w h => NL c d v a w h) [(2, .ptr 54 (.part (B) (bk) (fk) (nk) (gk) (mk))), (3, .ptr 54 (.part (B) (bl) (fl) (nl) (gl) (ml))), (4, .eq (.bool (false)))] [0, 1] [] [] 68 3 ?_ ?_
  · refine sn [] (fun w1 hw1 => .fin (yld_newBox rfl rfl (MR.mono _ hw1 hk))) ?_
    refine sn [] (fun w1 hw1 => .fin (yld_newBox rfl rfl (MR.mono _ hw1 hl))) ?_
    exact so [] (fun w1 hw1 => .fin (yld_assign rfl ⟨Grow.refl _, rfl⟩)) (.nil _ _)
  rintro w1 hw1 _ ⟨b2, rfl, B2⟩ _ ⟨b3, rfl, B3⟩ _ rfl hN
  have W1 : Grow w w1 := (Grow.refl w).trans hw1
  clear hN
  replace hk := MR.mono _ hw1 hk
  replace hl := MR.mono _ hw1 hl
  refine fr ([vk, vl, pt b2, pt b3, .bool (false)] ++ us 63) ?_
  refine nx ?_
  refine wp_seq ?_
  refine wp_seq ?_
  refine rg (fun c d v a w h => NL c d v a w h) [(8, .eq (.bool (true))), (9, .eq (.bool (!true)))] [] [] [] 68 2 ?_ ?_
  · refine so [] (fun w2 hw2 => .fin (yld_call rfl cal_actuarylaw08_awake rfl (cAwake8))) ?_
    exact so [0] (fun w2 hw2 => by rintro _ rfl; exact .fin (yld_not rfl rfl ⟨Grow.refl _, rfl⟩)) (.nil _ _)
  rintro w2 hw2 _ rfl _ rfl -
  have W2 : Grow w w2 := W1.trans hw2
  replace B2 := B2.grow hw2
  replace B3 := B3.grow hw2
  replace hk := MR.mono _ hw2 hk
  replace hl := MR.mono _ hw2 hl
  refine fr ([vk, vl, pt b2, pt b3, .bool (false), u, u, u, .bool (true), .bool (!true)] ++ us 58) ?_
  refine nx ?_
  refine wp_cond_false rfl ?_
  refine wp_skip ?_
  change Code.wp _ _ _ ⟨_, []⟩ _
  refine wp_seq ?_
  refine rg (fun c d v a w h => NL c d v a w h) [(10, .part (B) (bk) (fk) (nk) (gk) (mk)), (11, .rat (qk)), (12, .part (B) (bl) (fl) (nl) (gl) (ml)), (13, .rat (ql)), (5, .ptr 37 (.rat (0))), (6, .ptr 37 (.rat (0)))] [4, 5] [] [] 68 6 ?_ ?_
  · refine so [] (fun w3 hw3 => .fin (yld_loadBox rfl rfl aggPart (B2.grow hw3) (shPart))) ?_
    refine so [0] (fun w3 hw3 => by rintro v10 h10; exact .fin (yld_as (R := .rat (partQ bk fk nk gk mk)) (R2 := .rat (qk)) (yld_call rfl cal_actuarylaw08_Make rfl (cMake8 (Nat.le_trans hB (Grow.trans W2 hw3).size) h10 wfk hnk wgk hmk)) (fun h => ek ▸ h))) ?_
    refine so [] (fun w3 hw3 => .fin (yld_loadBox rfl rfl aggPart (B3.grow hw3) (shPart))) ?_
    refine so [2] (fun w3 hw3 => by rintro v12 h12; exact .fin (yld_as (R := .rat (partQ bl fl nl gl ml)) (R2 := .rat (ql)) (yld_call rfl cal_actuarylaw08_Make rfl (cMake8 (Nat.le_trans hB (Grow.trans W2 hw3).size) h12 wfl hnl wgl hml)) (fun h => el ▸ h))) ?_
    refine sn [] (fun w3 hw3 => .fin (yld_newAlloc rfl zeroRat zRat)) ?_
    exact sn [] (fun w3 hw3 => .fin (yld_newAlloc rfl zeroRat zRat)) (.nil _ _)
  rintro w3 hw3 v10 - v11 h11 v12 - v13 h13 _ ⟨b5, rfl, B5⟩ _ ⟨b6, rfl, B6⟩ hN
  have W3 : Grow w w3 := W2.trans hw3
  have g_b5 : w.heap.size ≤ b5 := Nat.le_trans W2.size hN.1.1
  have n_b5_b6 : b5 ≠ b6 := hN.2.1 5 (by simp)
  have g_b6 : w.heap.size ≤ b6 := Nat.le_trans W2.size hN.2.2.1.1
  clear hN
  replace hk := MR.mono _ hw3 hk
  replace hl := MR.mono _ hw3 hl
  have KK : Kept [] w3 w3 := fun _ _ => rfl
  refine fr ([vk, vl, pt b2, pt b3, .bool (false), pt b5, pt b6, u, .bool (true), .bool (!true), v10, v11, v12, v13] ++ us 54) ?_
  change wpListS _ _ _ _ [_, _] ⟨_, []⟩ _
  refine wpListS_yld rfl ?_
  refine yld_storeBox (R' := .rat (qk)) (b := b5) rfl rfl aggRat.size B5 (shRat _) h11 (shRat _) (St.rat _) (by decide) g_b5 fun w4 P4 E4 B' => ⟨fun _ => Kept.put KK P4 (fun _ hk => (by cases hk)), ?_⟩
  replace KK := Kept.put KK P4 (fun _ hk => (by cases hk))
  have W4 : Grow w w4 := W3.put P4 g_b5
  replace B6 := B6.put (St.rat _) P4 E4 (Ne.symm n_b5_b6)
  replace B5 := B'; clear B'
  replace hk := MR.put hk (St.part hB) E4
  replace hl := MR.put hl (St.part hB) E4
  replace h13 := MR.put h13 (St.rat _) E4
  change wpListS _ _ _ _ [_] ⟨_, []⟩ _
  refine wpListS_yld rfl ?_
  refine yld_storeBox (R' := .rat (ql)) (b := b6) rfl rfl aggRat.size B6 (shRat _) h13 (shRat _) (St.rat _) (by decide) g_b6 fun w5 P5 E5 B' => ⟨fun _ => Kept.put KK P5 (fun _ hk => (by cases hk)), ?_⟩
  have W5 : Grow w w5 := W4.put P5 g_b6
  replace B5 := B5.put (St.rat _) P5 E5 n_b5_b6
  replace B6 := B'; clear B'
  replace hk := MR.put hk (St.part hB) E5
  replace hl := MR.put hl (St.part hB) E5
  refine nx ?_
  refine wp_seq ?_
  obtain ⟨x7, ex7⟩ : ∃ c : Bool, c = ((cmpV qk.num ql.num : Int) == (0 : Int)) := ⟨_, rfl⟩
  obtain ⟨x8, ex8⟩ : ∃ c : Bool, c = ((cmpV ((qk.den : Nat)) ((ql.den : Nat)) : Int) == (0 : Int)) := ⟨_, rfl⟩
  obtain ⟨x9, ex9⟩ : ∃ c : Bool, c = ((x7 && x8)) := ⟨_, rfl⟩
  refine rg (fun c d v a w h => NL c d v a w h) [(14, .rat (qk)), (15, .int (qk.num)), (16, .rat (ql)), (17, .int (ql.num)), (18, .eq (.int .i64 (cmpV qk.num ql.num))), (19, .eq (.bool (x7))), (20, .eq (.bool (x7))), (21, .opt ((x7 == true)) (.rat (qk))), (22, .opt ((x7 == true)) (.nat (qk.den))), (23, .opt ((x7 == true)) (.rat (ql))), (24, .opt ((x7 == true)) (.nat (ql.den))), (25, .opt ((x7 == true)) (.eq (.int .i64 (cmpV ((qk.den : Nat)) ((ql.den : Nat)))))), (26, .opt ((x7 == true)) (.eq (.bool (x8)))), (27, .eq (.bool (x9))), (7, .eq (.bool (x9)))] [] [] [] 68 15 ?_ ?_
  · refine so [] (fun w6 hw6 => .fin (yld_loadBox rfl rfl aggRat (B5.grow hw6) (shRat _))) ?_
    refine so [0] (fun w6 hw6 => by rintro v14 h14; exact .fin (yld_call rfl cal_rat_Rat_Num rfl (cRatNum h14))) ?_
    refine so [] (fun w6 hw6 => .fin (yld_loadBox rfl rfl aggRat (B6.grow hw6) (shRat _))) ?_
    refine so [2] (fun w6 hw6 => by rintro v16 h16; exact .fin (yld_call rfl cal_rat_Rat_Num rfl (cRatNum h16))) ?_
    refine so [1, 3] (fun w6 hw6 => by rintro v15 h15 v17 h17; exact .fin (yld_call rfl cal_integer_Cmp rfl (cIntCmp h15 h17))) ?_
    refine so [4] (fun w6 hw6 => by rintro _ rfl; exact .fin (yld_eqTo (c := .bool ((cmpV qk.num ql.num : Int) == (0 : Int))) (yld_eql rfl rfl rfl ⟨Grow.refl _, rfl⟩) (congrArg Value.bool ex7.symm))) ?_
    refine so [5] (fun w6 hw6 => by rintro _ rfl; exact .fin (yld_move rfl ⟨Grow.refl _, rfl⟩)) ?_
    refine sg (c := (x7 == true)) 20 [6] (fun w6 hw6 => by rintro _ rfl; exact .fin (⟨guard_eq, fun hc => yld_loadBox rfl rfl aggRat (B5.grow hw6) (shRat _)⟩)) ?_
    refine sg (c := (x7 == true)) 20 [6, 7] (fun w6 hw6 => by rintro _ rfl v21 h21; exact .fin (⟨guard_eq, fun hc => yld_call rfl cal_rat_Rat_Den rfl (cRatDen (h21.1 (by revert hc; exact fun h => h)))⟩)) ?_
    refine sg (c := (x7 == true)) 20 [6] (fun w6 hw6 => by rintro _ rfl; exact .fin (⟨guard_eq, fun hc => yld_loadBox rfl rfl aggRat (B6.grow hw6) (shRat _)⟩)) ?_
    refine sg (c := (x7 == true)) 20 [6, 9] (fun w6 hw6 => by rintro _ rfl v23 h23; exact .fin (⟨guard_eq, fun hc => yld_call rfl cal_rat_Rat_Den rfl (cRatDen (h23.1 (by revert hc; exact fun h => h)))⟩)) ?_
    refine sg (c := (x7 == true)) 20 [6, 8, 10] (fun w6 hw6 => by rintro _ rfl v22 h22 v24 h24; exact .fin (⟨guard_eq, fun hc => yld_call rfl cal_nat_Cmp rfl (cNatCmp (h22.1 (by revert hc; exact fun h => h)) (h24.1 (by revert hc; exact fun h => h)))⟩)) ?_
    refine sg (c := (x7 == true)) 20 [6, 11] (fun w6 hw6 => by rintro _ rfl v25 h25; exact .fin (⟨guard_eq, fun hc => yld_eqTo (c := .bool ((cmpV ((qk.den : Nat)) ((ql.den : Nat)) : Int) == (0 : Int))) (yld_eql rfl (show v25 = .int .i64 (cmpV ((qk.den : Nat)) ((ql.den : Nat))) from (h25.1 (by revert hc; exact fun h => h))) rfl ⟨Grow.refl _, rfl⟩) (congrArg Value.bool ex8.symm)⟩)) ?_
    refine so [6, 12] (fun w6 hw6 => by rintro _ rfl v26 h26; exact .fin (yld_eqTo (c := .bool ((x7 && x8))) (yld_pick_and rfl rfl (fun ht => h26.1 (by revert ht; cases x7 <;> decide)) rfl ⟨Grow.refl _, rfl⟩) (congrArg Value.bool ex9.symm))) ?_
    exact so [13] (fun w6 hw6 => by rintro _ rfl; exact .fin (yld_assign rfl ⟨Grow.refl _, rfl⟩)) (.nil _ _)
  rintro w6 hw6 v14 - v15 - v16 - v17 - v18 - _ rfl _ rfl v21 - v22 - v23 - v24 - v25 - v26 - _ rfl _ rfl -
  have W6 : Grow w w6 := W5.trans hw6
  replace B5 := B5.grow hw6
  replace B6 := B6.grow hw6
  replace hk := MR.mono _ hw6 hk
  replace hl := MR.mono _ hw6 hl
  subst ex7
  subst ex8
  subst ex9
  refine fr ([vk, vl, pt b2, pt b3, .bool (false), pt b5, pt b6, .bool (((((cmpV qk.num ql.num : Int) == (0 : Int)) && ((cmpV ((qk.den : Nat)) ((ql.den : Nat)) : Int) == (0 : Int))))), .bool (true), .bool (!true), v10, v11, v12, v13, v14, v15, v16, v17, v18, .bool (((cmpV qk.num ql.num : Int) == (0 : Int))), .bool (((cmpV qk.num ql.num : Int) == (0 : Int))), v21, v22, v23, v24, v25, v26, .bool (((((cmpV qk.num ql.num : Int) == (0 : Int)) && ((cmpV ((qk.den : Nat)) ((ql.den : Nat)) : Int) == (0 : Int)))))] ++ us 40) ?_
  refine nx ?_
  refine wp_seq ?_
  obtain ⟨x11, ex11⟩ : ∃ c : Bool, c = (decide (qk = ql)) := ⟨_, rfl⟩
  obtain ⟨x12, ex12⟩ : ∃ c : Bool, c = (((((cmpV qk.num ql.num : Int) == (0 : Int)) && ((cmpV ((qk.den : Nat)) ((ql.den : Nat)) : Int) == (0 : Int))))) := ⟨_, rfl⟩
  obtain ⟨x13, ex13⟩ : ∃ c : Bool, c = (x11 == x12) := ⟨_, rfl⟩
  obtain ⟨x14, ex14⟩ : ∃ c : Bool, c = (decide (Nat.gcd ((qk.num).natAbs) qk.den = 1)) := ⟨_, rfl⟩
  obtain ⟨x15, ex15⟩ : ∃ c : Bool, c = ((x13 && x14)) := ⟨_, rfl⟩
  obtain ⟨x16, ex16⟩ : ∃ c : Bool, c = (decide (qk.den = 0)) := ⟨_, rfl⟩
  obtain ⟨x17, ex17⟩ : ∃ c : Bool, c = (!x16) := ⟨_, rfl⟩
  obtain ⟨x18, ex18⟩ : ∃ c : Bool, c = ((x15 && x17)) := ⟨_, rfl⟩
  obtain ⟨x19, ex19⟩ : ∃ c : Bool, c = (decide (qk = 0)) := ⟨_, rfl⟩
  obtain ⟨x20, ex20⟩ : ∃ c : Bool, c = (!x19) := ⟨_, rfl⟩
  obtain ⟨x21, ex21⟩ : ∃ c : Bool, c = (decide (qk.den = 1)) := ⟨_, rfl⟩
  obtain ⟨x22, ex22⟩ : ∃ c : Bool, c = ((x20 || x21)) := ⟨_, rfl⟩
  obtain ⟨x23, ex23⟩ : ∃ c : Bool, c = ((x18 && x22)) := ⟨_, rfl⟩
  obtain ⟨x24, ex24⟩ : ∃ c : Bool, c = (decide ((qk * ((((signed (false) (qk.den)) : Int) : Rat))) = (((qk.num : Int) : Rat)))) := ⟨_, rfl⟩
  obtain ⟨x25, ex25⟩ : ∃ c : Bool, c = ((x23 && x24)) := ⟨_, rfl⟩
  refine rg (fun c d v a w h => NL c d v a w h) [(28, .rat (qk)), (29, .rat (ql)), (30, .eq (.bool (x11))), (31, .eq (.bool (x12))), (32, .eq (.bool (x13))), (33, .eq (.bool (x13))), (34, .opt ((x13 == true)) (.rat (qk))), (35, .opt ((x13 == true)) (.int (qk.num))), (36, .opt ((x13 == true)) (.nat ((qk.num).natAbs))), (37, .opt ((x13 == true)) (.rat (qk))), (38, .opt ((x13 == true)) (.nat (qk.den))), (39, .opt ((x13 == true)) (.eq (.bool (x14)))), (40, .eq (.bool (x15))), (41, .eq (.bool (x15))), (42, .opt ((x15 == true)) (.rat (qk))), (43, .opt ((x15 == true)) (.nat (qk.den))), (44, .opt ((x15 == true)) (.eq (.bool (x16)))), (45, .opt ((x15 == true)) (.eq (.bool (x17)))), (46, .eq (.bool (x18))), (47, .eq (.bool (x18))), (48, .opt ((x18 == true)) (.rat (qk))), (49, .opt ((x18 == true)) (.eq (.bool (x19)))), (50, .opt ((x18 == true)) (.eq (.bool (x20)))), (51, .opt ((x18 == true)) (.eq (.bool (x20)))), (52, .opt (((x18 == true) && (x20 == false))) (.rat (qk))), (53, .opt (((x18 == true) && (x20 == false))) (.eq (.bool (x21)))), (54, .opt ((x18 == true)) (.eq (.bool (x22)))), (55, .eq (.bool (x23))), (56, .eq (.bool (x23))), (57, .opt ((x23 == true)) (.rat (qk))), (58, .opt ((x23 == true)) (.rat (qk))), (59, .opt ((x23 == true)) (.nat (qk.den))), (60, .opt ((x23 == true)) (.int (signed (false) (qk.den)))), (61, .opt ((x23 == true)) (.rat ((((signed (false) (qk.den)) : Int) : Rat)))), (62, .opt ((x23 == true)) (.rat (qk * ((((signed (false) (qk.den)) : Int) : Rat))))), (63, .opt ((x23 == true)) (.rat (qk))), (64, .opt ((x23 == true)) (.int (qk.num))), (65, .opt ((x23 == true)) (.rat (((qk.num : Int) : Rat)))), (66, .opt ((x23 == true)) (.eq (.bool (x24)))), (67, .eq (.bool (x25))), (4, .eq (.bool (x25)))] [] [] [] 68 41 ?_ ?_
  · refine so [] (fun w10 hw10 => .fin (yld_loadBox rfl rfl aggRat (B5.grow hw10) (shRat _))) ?_
    refine so [] (fun w10 hw10 => .fin (yld_loadBox rfl rfl aggRat (B6.grow hw10) (shRat _))) ?_
    refine so [0, 1] (fun w10 hw10 => by rintro v28 h28 v29 h29; exact .fin (yld_eqTo (c := .bool (decide (qk = ql))) (yld_call rfl cal_rat_Same rfl (cRatSame h28 h29 (sz2 sk sl (by decide)))) (congrArg Value.bool ex11.symm))) ?_
    refine so [] (fun w10 hw10 => .fin (yld_eqTo (c := .bool (((((cmpV qk.num ql.num : Int) == (0 : Int)) && ((cmpV ((qk.den : Nat)) ((ql.den : Nat)) : Int) == (0 : Int)))))) (yld_move rfl ⟨Grow.refl _, rfl⟩) (congrArg Value.bool ex12.symm))) ?_
    refine so [2, 3] (fun w10 hw10 => by rintro _ rfl _ rfl; exact .fin (yld_eqTo (c := .bool (x11 == x12)) (yld_beq rfl Try.underlying4 rfl rfl ⟨Grow.refl _, rfl⟩) (congrArg Value.bool ex13.symm))) ?_
    refine so [4] (fun w10 hw10 => by rintro _ rfl; exact .fin (yld_move rfl ⟨Grow.refl _, rfl⟩)) ?_
    refine sg (c := (x13 == true)) 33 [5] (fun w10 hw10 => by rintro _ rfl; exact .fin (⟨guard_eq, fun hc => yld_loadBox rfl rfl aggRat (B5.grow hw10) (shRat _)⟩)) ?_
    refine sg (c := (x13 == true)) 33 [5, 6] (fun w10 hw10 => by rintro _ rfl v34 h34; exact .fin (⟨guard_eq, fun hc => yld_call rfl cal_rat_Rat_Num rfl (cRatNum (h34.1 (by revert hc; exact fun h => h)))⟩)) ?_
    refine sg (c := (x13 == true)) 33 [5, 7] (fun w10 hw10 => by rintro _ rfl v35 h35; exact .fin (⟨guard_eq, fun hc => yld_call rfl cal_integer_Int_Abs rfl (cIntAbs (h35.1 (by revert hc; exact fun h => h)))⟩)) ?_
    refine sg (c := (x13 == true)) 33 [5] (fun w10 hw10 => by rintro _ rfl; exact .fin (⟨guard_eq, fun hc => yld_loadBox rfl rfl aggRat (B5.grow hw10) (shRat _)⟩)) ?_
    refine sg (c := (x13 == true)) 33 [5, 9] (fun w10 hw10 => by rintro _ rfl v37 h37; exact .fin (⟨guard_eq, fun hc => yld_call rfl cal_rat_Rat_Den rfl (cRatDen (h37.1 (by revert hc; exact fun h => h)))⟩)) ?_
    refine sg (c := (x13 == true)) 33 [5, 8, 10] (fun w10 hw10 => by rintro _ rfl v36 h36 v38 h38; exact .fin (⟨guard_eq, fun hc => yld_eqTo (c := .bool (decide (Nat.gcd ((qk.num).natAbs) qk.den = 1))) (yld_call rfl cal_gcd_Coprime rfl (cGcdCoprime (h36.1 (by revert hc; exact fun h => h)) (h38.1 (by revert hc; exact fun h => h)) (sz_num sk (by decide)) (sz_den sk (by decide)))) (congrArg Value.bool ex14.symm)⟩)) ?_
    refine so [5, 11] (fun w10 hw10 => by rintro _ rfl v39 h39; exact .fin (yld_eqTo (c := .bool ((x13 && x14))) (yld_pick_and rfl rfl (fun ht => h39.1 (by revert ht; cases x13 <;> decide)) rfl ⟨Grow.refl _, rfl⟩) (congrArg Value.bool ex15.symm))) ?_
    refine so [12] (fun w10 hw10 => by rintro _ rfl; exact .fin (yld_move rfl ⟨Grow.refl _, rfl⟩)) ?_
    refine sg (c := (x15 == true)) 41 [13] (fun w10 hw10 => by rintro _ rfl; exact .fin (⟨guard_eq, fun hc => yld_loadBox rfl rfl aggRat (B5.grow hw10) (shRat _)⟩)) ?_
    refine sg (c := (x15 == true)) 41 [13, 14] (fun w10 hw10 => by rintro _ rfl v42 h42; exact .fin (⟨guard_eq, fun hc => yld_call rfl cal_rat_Rat_Den rfl (cRatDen (h42.1 (by revert hc; exact fun h => h)))⟩)) ?_
    refine sg (c := (x15 == true)) 41 [13, 15] (fun w10 hw10 => by rintro _ rfl v43 h43; exact .fin (⟨guard_eq, fun hc => yld_eqTo (c := .bool (decide (qk.den = 0))) (yld_call rfl cal_nat_Nat_Zero rfl (cNatZero (h43.1 (by revert hc; exact fun h => h)))) (congrArg Value.bool ex16.symm)⟩)) ?_
    refine sg (c := (x15 == true)) 41 [13, 16] (fun w10 hw10 => by rintro _ rfl v44 h44; exact .fin (⟨guard_eq, fun hc => yld_eqTo (c := .bool (!x16)) (yld_not rfl (show v44 = .bool (x16) from (h44.1 (by revert hc; exact fun h => h))) ⟨Grow.refl _, rfl⟩) (congrArg Value.bool ex17.symm)⟩)) ?_
    refine so [13, 17] (fun w10 hw10 => by rintro _ rfl v45 h45; exact .fin (yld_eqTo (c := .bool ((x15 && x17))) (yld_pick_and rfl rfl (fun ht => h45.1 (by revert ht; cases x15 <;> decide)) rfl ⟨Grow.refl _, rfl⟩) (congrArg Value.bool ex18.symm))) ?_
    refine so [18] (fun w10 hw10 => by rintro _ rfl; exact .fin (yld_move rfl ⟨Grow.refl _, rfl⟩)) ?_
    refine sg (c := (x18 == true)) 47 [19] (fun w10 hw10 => by rintro _ rfl; exact .fin (⟨guard_eq, fun hc => yld_loadBox rfl rfl aggRat (B5.grow hw10) (shRat _)⟩)) ?_
    refine sg (c := (x18 == true)) 47 [19, 20] (fun w10 hw10 => by rintro _ rfl v48 h48; exact .fin (⟨guard_eq, fun hc => yld_eqTo (c := .bool (decide (qk = 0))) (yld_call rfl cal_rat_Rat_Zero rfl (cRatZero (h48.1 (by revert hc; exact fun h => h)))) (congrArg Value.bool ex19.symm)⟩)) ?_
    refine sg (c := (x18 == true)) 47 [19, 21] (fun w10 hw10 => by rintro _ rfl v49 h49; exact .fin (⟨guard_eq, fun hc => yld_eqTo (c := .bool (!x19)) (yld_not rfl (show v49 = .bool (x19) from (h49.1 (by revert hc; exact fun h => h))) ⟨Grow.refl _, rfl⟩) (congrArg Value.bool ex20.symm)⟩)) ?_
    refine sg (c := (x18 == true)) 47 [19, 22] (fun w10 hw10 => by rintro _ rfl v50 h50; exact .fin (⟨guard_eq, fun hc => yld_move rfl ⟨Grow.refl _, (show v50 = .bool (x20) from (h50.1 (by revert hc; exact fun h => h)))⟩⟩)) ?_
    refine sg (c := ((x18 == true) && (x20 == false))) 51 [23] (fun w10 hw10 => by rintro v51 h51; exact .fin (⟨guard_opt h51, fun hc => yld_loadBox rfl rfl aggRat (B5.grow hw10) (shRat _)⟩)) ?_
    refine sg (c := ((x18 == true) && (x20 == false))) 51 [23, 24] (fun w10 hw10 => by rintro v51 h51 v52 h52; exact .fin (⟨guard_opt h51, fun hc => yld_eqTo (c := .bool (decide (qk.den = 1))) (yld_call rfl cal_rat_Rat_IsInt rfl (cRatIsInt (h52.1 (by revert hc; exact fun h => h)))) (congrArg Value.bool ex21.symm)⟩)) ?_
    refine sg (c := (x18 == true)) 47 [19, 23, 25] (fun w10 hw10 => by rintro _ rfl v51 h51 v53 h53; exact .fin (⟨guard_eq, fun hc => yld_eqTo (c := .bool ((x20 || x21))) (yld_pick_or rfl (show v51 = .bool (x20) from (h51.1 (by revert hc; exact fun h => h))) rfl (fun ht => h53.1 (by revert ht; revert hc; cases x18 <;> cases x20 <;> decide)) ⟨Grow.refl _, rfl⟩) (congrArg Value.bool ex22.symm)⟩)) ?_
    refine so [19, 26] (fun w10 hw10 => by rintro _ rfl v54 h54; exact .fin (yld_eqTo (c := .bool ((x18 && x22))) (yld_pick_and rfl rfl (fun ht => h54.1 (by revert ht; cases x18 <;> decide)) rfl ⟨Grow.refl _, rfl⟩) (congrArg Value.bool ex23.symm))) ?_
    refine so [27] (fun w10 hw10 => by rintro _ rfl; exact .fin (yld_move rfl ⟨Grow.refl _, rfl⟩)) ?_
    refine sg (c := (x23 == true)) 56 [28] (fun w10 hw10 => by rintro _ rfl; exact .fin (⟨guard_eq, fun hc => yld_loadBox rfl rfl aggRat (B5.grow hw10) (shRat _)⟩)) ?_
    refine sg (c := (x23 == true)) 56 [28] (fun w10 hw10 => by rintro _ rfl; exact .fin (⟨guard_eq, fun hc => yld_loadBox rfl rfl aggRat (B5.grow hw10) (shRat _)⟩)) ?_
    refine sg (c := (x23 == true)) 56 [28, 30] (fun w10 hw10 => by rintro _ rfl v58 h58; exact .fin (⟨guard_eq, fun hc => yld_call rfl cal_rat_Rat_Den rfl (cRatDen (h58.1 (by revert hc; exact fun h => h)))⟩)) ?_
    refine sg (c := (x23 == true)) 56 [28, 31] (fun w10 hw10 => by rintro _ rfl v59 h59; exact .fin (⟨guard_eq, fun hc => yld_call rfl cal_integer_New rfl (cNew (h59.1 (by revert hc; exact fun h => h)))⟩)) ?_
    refine sg (c := (x23 == true)) 56 [28, 32] (fun w10 hw10 => by rintro _ rfl v60 h60; exact .fin (⟨guard_eq, fun hc => yld_call rfl cal_rat_Whole rfl (cRatWhole (h60.1 (by revert hc; exact fun h => h)))⟩)) ?_
    refine sg (c := (x23 == true)) 56 [28, 29, 33] (fun w10 hw10 => by rintro _ rfl v57 h57 v61 h61; exact .fin (⟨guard_eq, fun hc => yld_call rfl cal_rat_Mul rfl (cRatMul (h57.1 (by revert hc; exact fun h => h)) (h61.1 (by revert hc; exact fun h => h)) (sz2 sk (sb_whole _ (by rw [natAbs_signed]; exact Nat.le_of_lt (sz_den sk (show 2097153 < 2097154 by decide)))) (by decide)))⟩)) ?_
    refine sg (c := (x23 == true)) 56 [28] (fun w10 hw10 => by rintro _ rfl; exact .fin (⟨guard_eq, fun hc => yld_loadBox rfl rfl aggRat (B5.grow hw10) (shRat _)⟩)) ?_
    refine sg (c := (x23 == true)) 56 [28, 35] (fun w10 hw10 => by rintro _ rfl v63 h63; exact .fin (⟨guard_eq, fun hc => yld_call rfl cal_rat_Rat_Num rfl (cRatNum (h63.1 (by revert hc; exact fun h => h)))⟩)) ?_
    refine sg (c := (x23 == true)) 56 [28, 36] (fun w10 hw10 => by rintro _ rfl v64 h64; exact .fin (⟨guard_eq, fun hc => yld_call rfl cal_rat_Whole rfl (cRatWhole (h64.1 (by revert hc; exact fun h => h)))⟩)) ?_
    refine sg (c := (x23 == true)) 56 [28, 34, 37] (fun w10 hw10 => by rintro _ rfl v62 h62 v65 h65; exact .fin (⟨guard_eq, fun hc => yld_eqTo (c := .bool (decide ((qk * ((((signed (false) (qk.den)) : Int) : Rat))) = (((qk.num : Int) : Rat))))) (yld_call rfl cal_rat_Same rfl (cRatSame (h62.1 (by revert hc; exact fun h => h)) (h65.1 (by revert hc; exact fun h => h)) (sz2 (sb_mul sk (sb_whole _ (by rw [natAbs_signed]; exact Nat.le_of_lt (sz_den sk (show 2097153 < 2097154 by decide))))) (sb_whole _ (Nat.le_of_lt (sz_num sk (show 2097153 < 2097154 by decide)))) (by decide)))) (congrArg Value.bool ex24.symm)⟩)) ?_
    refine so [28, 38] (fun w10 hw10 => by rintro _ rfl v66 h66; exact .fin (yld_eqTo (c := .bool ((x23 && x24))) (yld_pick_and rfl rfl (fun ht => h66.1 (by revert ht; cases x23 <;> decide)) rfl ⟨Grow.refl _, rfl⟩) (congrArg Value.bool ex25.symm))) ?_
    exact so [39] (fun w10 hw10 => by rintro _ rfl; exact .fin (yld_assign rfl ⟨Grow.refl _, rfl⟩)) (.nil _ _)
  rintro w10 hw10 v28 - v29 - _ rfl _ rfl _ rfl _ rfl v34 - v35 - v36 - v37 - v38 - v39 - _ rfl _ rfl v42 - v43 - v44 - v45 - _ rfl _ rfl v48 - v49 - v50 - v51 - v52 - v53 - v54 - _ rfl _ rfl v57 - v58 - v59 - v60 - v61 - v62 - v63 - v64 - v65 - v66 - _ rfl _ rfl -
  have W10 : Grow w w10 := W6.trans hw10
  replace hk := MR.mono _ hw10 hk
  replace hl := MR.mono _ hw10 hl
  subst ex11
  subst ex12
  subst ex13
  subst ex14
  subst ex15
  subst ex16
  subst ex17
  subst ex18
  subst ex19
  subst ex20
  subst ex21
  subst ex22
  subst ex23
  subst ex24
  subst ex25
  refine fr (vk :: vl :: pt b2 :: pt b3 :: .bool (((((((((((decide (qk = ql)) == (((((cmpV qk.num ql.num : Int) == (0 : Int)) && ((cmpV ((qk.den : Nat)) ((ql.den : Nat)) : Int) == (0 : Int)))))) && (decide (Nat.gcd ((qk.num).natAbs) qk.den = 1)))) && (!(decide (qk.den = 0))))) && (((!(decide (qk = 0))) || (decide (qk.den = 1)))))) && (decide ((qk * ((((signed (false) (qk.den)) : Int) : Rat))) = (((qk.num : Int) : Rat))))))) :: pt b5 :: pt b6 :: .bool (((((cmpV qk.num ql.num : Int) == (0 : Int)) && ((cmpV ((qk.den : Nat)) ((ql.den : Nat)) : Int) == (0 : Int))))) :: .bool (true) :: .bool (!true) :: v10 :: v11 :: v12 :: v13 :: v14 :: v15 :: v16 :: v17 :: v18 :: .bool (((cmpV qk.num ql.num : Int) == (0 : Int))) :: .bool (((cmpV qk.num ql.num : Int) == (0 : Int))) :: v21 :: v22 :: v23 :: v24 :: v25 :: v26 :: .bool (((((cmpV qk.num ql.num : Int) == (0 : Int)) && ((cmpV ((qk.den : Nat)) ((ql.den : Nat)) : Int) == (0 : Int))))) :: v28 :: v29 :: .bool ((decide (qk = ql))) :: .bool ((((((cmpV qk.num ql.num : Int) == (0 : Int)) && ((cmpV ((qk.den : Nat)) ((ql.den : Nat)) : Int) == (0 : Int)))))) :: .bool (((decide (qk = ql)) == (((((cmpV qk.num ql.num : Int) == (0 : Int)) && ((cmpV ((qk.den : Nat)) ((ql.den : Nat)) : Int) == (0 : Int))))))) :: .bool (((decide (qk = ql)) == (((((cmpV qk.num ql.num : Int) == (0 : Int)) && ((cmpV ((qk.den : Nat)) ((ql.den : Nat)) : Int) == (0 : Int))))))) :: v34 :: v35 :: v36 :: v37 :: v38 :: v39 :: .bool (((((decide (qk = ql)) == (((((cmpV qk.num ql.num : Int) == (0 : Int)) && ((cmpV ((qk.den : Nat)) ((ql.den : Nat)) : Int) == (0 : Int)))))) && (decide (Nat.gcd ((qk.num).natAbs) qk.den = 1))))) :: .bool (((((decide (qk = ql)) == (((((cmpV qk.num ql.num : Int) == (0 : Int)) && ((cmpV ((qk.den : Nat)) ((ql.den : Nat)) : Int) == (0 : Int)))))) && (decide (Nat.gcd ((qk.num).natAbs) qk.den = 1))))) :: v42 :: v43 :: v44 :: v45 :: .bool (((((((decide (qk = ql)) == (((((cmpV qk.num ql.num : Int) == (0 : Int)) && ((cmpV ((qk.den : Nat)) ((ql.den : Nat)) : Int) == (0 : Int)))))) && (decide (Nat.gcd ((qk.num).natAbs) qk.den = 1)))) && (!(decide (qk.den = 0)))))) :: .bool (((((((decide (qk = ql)) == (((((cmpV qk.num ql.num : Int) == (0 : Int)) && ((cmpV ((qk.den : Nat)) ((ql.den : Nat)) : Int) == (0 : Int)))))) && (decide (Nat.gcd ((qk.num).natAbs) qk.den = 1)))) && (!(decide (qk.den = 0)))))) :: v48 :: v49 :: v50 :: v51 :: v52 :: v53 :: v54 :: .bool (((((((((decide (qk = ql)) == (((((cmpV qk.num ql.num : Int) == (0 : Int)) && ((cmpV ((qk.den : Nat)) ((ql.den : Nat)) : Int) == (0 : Int)))))) && (decide (Nat.gcd ((qk.num).natAbs) qk.den = 1)))) && (!(decide (qk.den = 0))))) && (((!(decide (qk = 0))) || (decide (qk.den = 1))))))) :: .bool (((((((((decide (qk = ql)) == (((((cmpV qk.num ql.num : Int) == (0 : Int)) && ((cmpV ((qk.den : Nat)) ((ql.den : Nat)) : Int) == (0 : Int)))))) && (decide (Nat.gcd ((qk.num).natAbs) qk.den = 1)))) && (!(decide (qk.den = 0))))) && (((!(decide (qk = 0))) || (decide (qk.den = 1))))))) :: v57 :: v58 :: v59 :: v60 :: v61 :: v62 :: v63 :: v64 :: v65 :: v66 :: .bool (((((((((((decide (qk = ql)) == (((((cmpV qk.num ql.num : Int) == (0 : Int)) && ((cmpV ((qk.den : Nat)) ((ql.den : Nat)) : Int) == (0 : Int)))))) && (decide (Nat.gcd ((qk.num).natAbs) qk.den = 1)))) && (!(decide (qk.den = 0))))) && (((!(decide (qk = 0))) || (decide (qk.den = 1)))))) && (decide ((qk * ((((signed (false) (qk.den)) : Int) : Rat))) = (((qk.num : Int) : Rat))))))) :: []) ?_
  refine nx ?_
  refine wp_ret ?_
  change bodyPost Try.prog Try.f10 (Ret (.eq (.bool (true))) w) .ret _ _
  exact body_slot rfl (by show Value.bool _ = Value.bool _; rw [show (((((((((((decide (qk = ql)) == (((((cmpV qk.num ql.num : Int) == (0 : Int)) && ((cmpV ((qk.den : Nat)) ((ql.den : Nat)) : Int) == (0 : Int)))))) && (decide (Nat.gcd ((qk.num).natAbs) qk.den = 1)))) && (!(decide (qk.den = 0))))) && (((!(decide (qk = 0))) || (decide (qk.den = 1)))))) && (decide ((qk * ((((signed (false) (qk.den)) : Int) : Rat))) = (((qk.num : Int) : Rat))))))) = (true) from (plain1 qk ql)]) rfl W10
end Go.Proofs.Ytknflfnkdieomaa
