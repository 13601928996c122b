/- actuarylaw08.RatFloors, its walk. -/
import Derived.Test.YtknflfnkdieomaaAwake8
import Derived.Test.YtknflfnkdieomaaRatL
namespace Go.Proofs.Ytknflfnkdieomaa
open Go.RowKit
theorem cal_actuarylaw08_awake : Callable Try.prog 20 := callable_of Try.func20 rfl (by kernel_rfl)
theorem cal_rat_Rat_Sign : Callable Try.prog 27 := callable_of Try.func27 rfl (by kernel_rfl)
theorem cal_actuarylaw08_Make : Callable Try.prog 30 := callable_of Try.func30 rfl (by kernel_rfl)
theorem cal_rat_Rat_IsInt : Callable Try.prog 42 := callable_of Try.func42 rfl (by kernel_rfl)
theorem cal_rat_Whole : Callable Try.prog 43 := callable_of Try.func43 rfl (by kernel_rfl)
theorem cal_rat_Int : Callable Try.prog 47 := callable_of Try.func47 rfl (by kernel_rfl)
theorem cal_rat_Rat_Abs : Callable Try.prog 48 := callable_of Try.func48 rfl (by kernel_rfl)
theorem cal_rat_Max : Callable Try.prog 49 := callable_of Try.func49 rfl (by kernel_rfl)
set_option maxRecDepth 100000 in
set_option maxHeartbeats 2000000 in
theorem ratFloors {B : Nat} {bk : Bool} {fk gk : Nat → Nat} {nk mk : Nat} {vk : Value} {w : World} (hB : B ≤ w.heap.size) (hk : (MR.part (B) (bk) (fk) (nk) (gk) (mk)).R w vk) (wfk : Wf fk nk) (hnk : nk ≤ 1048576) (wgk : Wf gk mk) (hmk : mk ≤ 1048576) : Calls Try.prog 11 #[vk] w (Ret (.eq (.bool (true))) w) := by
  obtain ⟨qk, ek⟩ : ∃ q, q = partQ bk fk nk gk mk := ⟨_, rfl⟩
  have sk : szq qk ≤ 2097153 := by rw [ek]; exact Nat.le_trans (szq_part wfk wgk) (by omega)
  refine calls_enter (a := ⟨List.toArray ([vk] ++ us 61), []⟩) Try.func11 rfl (by kernel_rfl) ?_
  have NL : NoLook (bodyPost Try.prog Try.f11 (Ret (.eq (.bool (true))) w)) := noLook_body
  refine wp_seq ?_
  refine rg (fun c d v a w h => NL c d v a w h) [(1, .ptr 54 (.part (B) (bk) (fk) (nk) (gk) (mk))), (2, .eq (.bool (false)))] [0] [] [] 62 2 ?_ ?_
  · refine sn [] (fun w1 hw1 => .fin (yld_newBox rfl rfl (MR.mono _ hw1 hk))) ?_
    exact so [] (fun w1 hw1 => .fin (yld_assign rfl ⟨Grow.refl _, rfl⟩)) (.nil _ _)
  rintro w1 hw1 _ ⟨b1, rfl, B1⟩ _ rfl hN
  have W1 : Grow w w1 := (Grow.refl w).trans hw1
  clear hN
  replace hk := MR.mono _ hw1 hk
  refine fr ([vk, pt b1, .bool (false)] ++ us 59) ?_
  refine nx ?_
  refine wp_seq ?_
  refine wp_seq ?_
  refine rg (fun c d v a w h => NL c d v a w h) [(7, .eq (.bool (true))), (8, .eq (.bool (!true)))] [] [] [] 62 2 ?_ ?_
  · refine so [] (fun w2 hw2 => .fin (yld_call rfl cal_actuarylaw08_awake rfl (cAwake8))) ?_
    exact so [0] (fun w2 hw2 => by rintro _ rfl; exact .fin (yld_not rfl rfl ⟨Grow.refl _, rfl⟩)) (.nil _ _)
  rintro w2 hw2 _ rfl _ rfl -
  have W2 : Grow w w2 := W1.trans hw2
  replace B1 := B1.grow hw2
  replace hk := MR.mono _ hw2 hk
  refine fr ([vk, pt b1, .bool (false), u, u, u, u, .bool (true), .bool (!true)] ++ us 53) ?_
  refine nx ?_
  refine wp_cond_false rfl ?_
  refine wp_skip ?_
  change Code.wp _ _ _ ⟨_, []⟩ _
  refine wp_seq ?_
  refine rg (fun c d v a w h => NL c d v a w h) [(9, .part (B) (bk) (fk) (nk) (gk) (mk)), (10, .rat (qk)), (3, .ptr 37 (.rat (0)))] [2] [] [] 62 3 ?_ ?_
  · refine so [] (fun w3 hw3 => .fin (yld_loadBox rfl rfl aggPart (B1.grow hw3) (shPart))) ?_
    refine so [0] (fun w3 hw3 => by rintro v9 h9; exact .fin (yld_as (R := .rat (partQ bk fk nk gk mk)) (R2 := .rat (qk)) (yld_call rfl cal_actuarylaw08_Make rfl (cMake8 (Nat.le_trans hB (Grow.trans W2 hw3).size) h9 wfk hnk wgk hmk)) (fun h => ek ▸ h))) ?_
    exact sn [] (fun w3 hw3 => .fin (yld_newAlloc rfl zeroRat zRat)) (.nil _ _)
  rintro w3 hw3 v9 - v10 h10 _ ⟨b3, rfl, B3⟩ hN
  have W3 : Grow w w3 := W2.trans hw3
  have g_b3 : w.heap.size ≤ b3 := Nat.le_trans W2.size hN.1.1
  clear hN
  replace hk := MR.mono _ hw3 hk
  have KK : Kept [] w3 w3 := fun _ _ => rfl
  refine fr ([vk, pt b1, .bool (false), pt b3, u, u, u, .bool (true), .bool (!true), v9, v10] ++ us 51) ?_
  change wpListS _ _ _ _ [_] ⟨_, []⟩ _
  refine wpListS_yld rfl ?_
  refine yld_storeBox (R' := .rat (qk)) (b := b3) rfl rfl aggRat.size B3 (shRat _) h10 (shRat _) (St.rat _) (by decide) g_b3 fun w4 P4 E4 B' => ⟨fun _ => Kept.put KK P4 (fun _ hk => (by cases hk)), ?_⟩
  replace KK := Kept.put KK P4 (fun _ hk => (by cases hk))
  have W4 : Grow w w4 := W3.put P4 g_b3
  replace B3 := B'; clear B'
  replace hk := MR.put hk (St.part hB) E4
  refine nx ?_
  refine wp_seq ?_
  refine rg (fun c d v a w h => NL c d v a w h) [(11, .rat (qk)), (12, .int ((qk).floor)), (13, .rat (((((qk).floor) : Int) : Rat))), (14, .rat (qk)), (15, .int (-(-qk).floor)), (16, .rat ((((-(-qk).floor) : Int) : Rat))), (4, .ptr 37 (.rat (0))), (5, .ptr 37 (.rat (0)))] [6, 7] [] [] 62 8 ?_ ?_
  · refine so [] (fun w5 hw5 => .fin (yld_loadBox rfl rfl aggRat (B3.grow hw5) (shRat _))) ?_
    refine so [0] (fun w5 hw5 => by rintro v11 h11; exact .fin (yld_call rfl cal_rat_Rat_Floor rfl (cRatFloor h11 (sz1 sk (by decide))))) ?_
    refine so [1] (fun w5 hw5 => by rintro v12 h12; exact .fin (yld_call rfl cal_rat_Whole rfl (cRatWhole h12))) ?_
    refine so [] (fun w5 hw5 => .fin (yld_loadBox rfl rfl aggRat (B3.grow hw5) (shRat _))) ?_
    refine so [3] (fun w5 hw5 => by rintro v14 h14; exact .fin (yld_call rfl cal_rat_Rat_Ceil rfl (cRatCeil h14 (sz1 sk (by decide))))) ?_
    refine so [4] (fun w5 hw5 => by rintro v15 h15; exact .fin (yld_call rfl cal_rat_Whole rfl (cRatWhole h15))) ?_
    refine sn [] (fun w5 hw5 => .fin (yld_newAlloc rfl zeroRat zRat)) ?_
    exact sn [] (fun w5 hw5 => .fin (yld_newAlloc rfl zeroRat zRat)) (.nil _ _)
  rintro w5 hw5 v11 - v12 - v13 h13 v14 - v15 - v16 h16 _ ⟨b4, rfl, B4⟩ _ ⟨b5, rfl, B5⟩ hN
  have W5 : Grow w w5 := W4.trans hw5
  have g_b4 : w.heap.size ≤ b4 := Nat.le_trans W4.size hN.1.1
  have n_b3_b4 : b3 ≠ b4 := Nat.ne_of_lt (Nat.lt_of_lt_of_le B3.lt hN.1.1)
  have n_b4_b5 : b4 ≠ b5 := hN.2.1 7 (by simp)
  have g_b5 : w.heap.size ≤ b5 := Nat.le_trans W4.size hN.2.2.1.1
  have n_b3_b5 : b3 ≠ b5 := Nat.ne_of_lt (Nat.lt_of_lt_of_le B3.lt hN.2.2.1.1)
  clear hN
  replace B3 := B3.grow hw5
  replace hk := MR.mono _ hw5 hk
  have KK : Kept [] w5 w5 := fun _ _ => rfl
  refine fr ([vk, pt b1, .bool (false), pt b3, pt b4, pt b5, u, .bool (true), .bool (!true), v9, v10, v11, v12, v13, v14, v15, v16] ++ us 45) ?_
  change wpListS _ _ _ _ [_, _] ⟨_, []⟩ _
  refine wpListS_yld rfl ?_
  refine yld_storeBox (R' := .rat (((((qk).floor) : Int) : Rat))) (b := b4) rfl rfl aggRat.size B4 (shRat _) h13 (shRat _) (St.rat _) (by decide) g_b4 fun w6 P6 E6 B' => ⟨fun _ => Kept.put KK P6 (fun _ hk => (by cases hk)), ?_⟩
  replace KK := Kept.put KK P6 (fun _ hk => (by cases hk))
  have W6 : Grow w w6 := W5.put P6 g_b4
  replace B3 := B3.put (St.rat _) P6 E6 n_b3_b4
  replace B5 := B5.put (St.rat _) P6 E6 (Ne.symm n_b4_b5)
  replace B4 := B'; clear B'
  replace hk := MR.put hk (St.part hB) E6
  replace h16 := MR.put h16 (St.rat _) E6
  change wpListS _ _ _ _ [_] ⟨_, []⟩ _
  refine wpListS_yld rfl ?_
  refine yld_storeBox (R' := .rat ((((-(-qk).floor) : Int) : Rat))) (b := b5) rfl rfl aggRat.size B5 (shRat _) h16 (shRat _) (St.rat _) (by decide) g_b5 fun w7 P7 E7 B' => ⟨fun _ => Kept.put KK P7 (fun _ hk => (by cases hk)), ?_⟩
  have W7 : Grow w w7 := W6.put P7 g_b5
  replace B3 := B3.put (St.rat _) P7 E7 n_b3_b5
  replace B4 := B4.put (St.rat _) P7 E7 n_b4_b5
  replace B5 := B'; clear B'
  replace hk := MR.put hk (St.part hB) E7
  refine nx ?_
  refine wp_seq ?_
  refine rg (fun c d v a w h => NL c d v a w h) [(6, .eq (.int .i64 (1)))] [] [] [] 62 1 ?_ ?_
  · exact so [] (fun w8 hw8 => .fin (yld_assign rfl ⟨Grow.refl _, rfl⟩)) (.nil _ _)
  rintro w8 hw8 _ rfl -
  have W8 : Grow w w8 := W7.trans hw8
  replace B3 := B3.grow hw8
  replace B4 := B4.grow hw8
  replace B5 := B5.grow hw8
  replace hk := MR.mono _ hw8 hk
  refine fr ([vk, pt b1, .bool (false), pt b3, pt b4, pt b5, .int .i64 (1), .bool (true), .bool (!true), v9, v10, v11, v12, v13, v14, v15, v16] ++ us 45) ?_
  refine nx ?_
  refine wp_seq ?_
  refine wp_seq ?_
  refine rg (fun c d v a w h => NL c d v a w h) [(17, .rat (qk)), (18, .eq (.bool (decide (qk.den = 1))))] [] [] [] 62 2 ?_ ?_
  · refine so [] (fun w9 hw9 => .fin (yld_loadBox rfl rfl aggRat (B3.grow hw9) (shRat _))) ?_
    exact so [0] (fun w9 hw9 => by rintro v17 h17; exact .fin (yld_call rfl cal_rat_Rat_IsInt rfl (cRatIsInt h17))) (.nil _ _)
  rintro w9 hw9 v17 - _ rfl -
  have W9 : Grow w w9 := W8.trans hw9
  replace B3 := B3.grow hw9
  replace B4 := B4.grow hw9
  replace B5 := B5.grow hw9
  replace hk := MR.mono _ hw9 hk
  refine fr ([vk, pt b1, .bool (false), pt b3, pt b4, pt b5, .int .i64 (1), .bool (true), .bool (!true), v9, v10, v11, v12, v13, v14, v15, v16, v17, .bool (decide (qk.den = 1))] ++ us 43) ?_
  refine nx ?_
  refine wp_cond_split (t := decide (qk.den = 1)) rfl (fun hi => ?_) (fun hi => ?_)
  · refine rg (fun c d v a w h => NL c d v a w h) [(6, .eq (.int .i64 (0)))] [] [] [] 62 1 ?_ ?_
    · exact so [] (fun w10 hw10 => .fin (yld_assign rfl ⟨Grow.refl _, rfl⟩)) (.nil _ _)
    rintro w10 hw10 _ rfl -
    have W10 : Grow w w10 := W9.trans hw10
    replace B3 := B3.grow hw10
    replace B4 := B4.grow hw10
    replace B5 := B5.grow hw10
    replace hk := MR.mono _ hw10 hk
    refine fr ([vk, pt b1, .bool (false), pt b3, pt b4, pt b5, .int .i64 (0), .bool (true), .bool (!true), v9, v10, v11, v12, v13, v14, v15, v16, v17, .bool (decide (qk.den = 1))] ++ us 43) ?_
    refine nx ?_
    refine wp_seq ?_
    obtain ⟨x12, ex12⟩ : ∃ c : Bool, c = (decide ((cmpQ (((((qk).floor) : Int) : Rat)) qk : Int) ≤ (0 : Int))) := ⟨_, rfl⟩
    obtain ⟨x13, ex13⟩ : ∃ c : Bool, c = (decide ((cmpQ qk ((((((qk).floor) : Int) : Rat)) + (((1 : Int) : Rat))) : Int) < (0 : Int))) := ⟨_, rfl⟩
    obtain ⟨x14, ex14⟩ : ∃ c : Bool, c = ((x12 && x13)) := ⟨_, rfl⟩
    obtain ⟨x15, ex15⟩ : ∃ c : Bool, c = (decide (((((-(-qk).floor) : Int) : Rat)) = ((((((qk).floor) : Int) : Rat)) + (((0 : Int) : Rat))))) := ⟨_, rfl⟩
    obtain ⟨x16, ex16⟩ : ∃ c : Bool, c = ((x14 && x15)) := ⟨_, rfl⟩
    obtain ⟨x17, ex17⟩ : ∃ c : Bool, c = (decide ((((((qk).floor) : Int) : Rat)) = qk)) := ⟨_, rfl⟩
    obtain ⟨x18, ex18⟩ : ∃ c : Bool, c = (decide (qk.den = 1)) := ⟨_, rfl⟩
    obtain ⟨x19, ex19⟩ : ∃ c : Bool, c = (x17 == x18) := ⟨_, rfl⟩
    obtain ⟨x20, ex20⟩ : ∃ c : Bool, c = ((x16 && x19)) := ⟨_, rfl⟩
    obtain ⟨x21, ex21⟩ : ∃ c : Bool, c = (decide (((absQ qk).num.sign : Int) ≥ (0 : Int))) := ⟨_, rfl⟩
    obtain ⟨x22, ex22⟩ : ∃ c : Bool, c = ((x20 && x21)) := ⟨_, rfl⟩
    obtain ⟨x23, ex23⟩ : ∃ c : Bool, c = (decide ((absQ qk) = (if cmpQ (-qk) qk > 0 then (-qk) else qk))) := ⟨_, rfl⟩
    obtain ⟨x24, ex24⟩ : ∃ c : Bool, c = ((x22 && x23)) := ⟨_, rfl⟩
    refine rg (fun c d v a w h => NL c d v a w h) [(19, .rat (((((qk).floor) : Int) : Rat))), (20, .rat (qk)), (21, .eq (.int .i64 (cmpQ (((((qk).floor) : Int) : Rat)) qk))), (22, .eq (.bool (x12))), (23, .eq (.bool (x12))), (24, .opt ((x12 == true)) (.rat (qk))), (25, .opt ((x12 == true)) (.rat (((((qk).floor) : Int) : Rat)))), (26, .opt ((x12 == true)) (.rat (((1 : Int) : Rat)))), (27, .opt ((x12 == true)) (.rat ((((((qk).floor) : Int) : Rat)) + (((1 : Int) : Rat))))), (28, .opt ((x12 == true)) (.eq (.int .i64 (cmpQ qk ((((((qk).floor) : Int) : Rat)) + (((1 : Int) : Rat))))))), (29, .opt ((x12 == true)) (.eq (.bool (x13)))), (30, .eq (.bool (x14))), (31, .eq (.bool (x14))), (32, .opt ((x14 == true)) (.rat ((((-(-qk).floor) : Int) : Rat)))), (33, .opt ((x14 == true)) (.rat (((((qk).floor) : Int) : Rat)))), (34, .opt ((x14 == true)) (.eq (.int .i64 (0)))), (35, .opt ((x14 == true)) (.rat (((0 : Int) : Rat)))), (36, .opt ((x14 == true)) (.rat ((((((qk).floor) : Int) : Rat)) + (((0 : Int) : Rat))))), (37, .opt ((x14 == true)) (.eq (.bool (x15)))), (38, .eq (.bool (x16))), (39, .eq (.bool (x16))), (40, .opt ((x16 == true)) (.rat (((((qk).floor) : Int) : Rat)))), (41, .opt ((x16 == true)) (.rat (qk))), (42, .opt ((x16 == true)) (.eq (.bool (x17)))), (43, .opt ((x16 == true)) (.rat (qk))), (44, .opt ((x16 == true)) (.eq (.bool (x18)))), (45, .opt ((x16 == true)) (.eq (.bool (x19)))), (46, .eq (.bool (x20))), (47, .eq (.bool (x20))), (48, .opt ((x20 == true)) (.rat (qk))), (49, .opt ((x20 == true)) (.rat (absQ qk))), (50, .opt ((x20 == true)) (.eq (.int .i64 ((absQ qk).num.sign)))), (51, .opt ((x20 == true)) (.eq (.bool (x21)))), (52, .eq (.bool (x22))), (53, .eq (.bool (x22))), (54, .opt ((x22 == true)) (.rat (qk))), (55, .opt ((x22 == true)) (.rat (absQ qk))), (56, .opt ((x22 == true)) (.rat (qk))), (57, .opt ((x22 == true)) (.rat (qk))), (58, .opt ((x22 == true)) (.rat (-qk))), (59, .opt ((x22 == true)) (.rat (if cmpQ (-qk) qk > 0 then (-qk) else qk))), (60, .opt ((x22 == true)) (.eq (.bool (x23)))), (61, .eq (.bool (x24))), (2, .eq (.bool (x24)))] [] [] [] 62 44 ?_ ?_
    · refine so [] (fun w11 hw11 => .fin (yld_loadBox rfl rfl aggRat (B4.grow hw11) (shRat _))) ?_
      refine so [] (fun w11 hw11 => .fin (yld_loadBox rfl rfl aggRat (B3.grow hw11) (shRat _))) ?_
      refine so [0, 1] (fun w11 hw11 => by rintro v19 h19 v20 h20; exact .fin (yld_call rfl cal_rat_Cmp rfl (cRatCmp h19 h20 (sz2 (sb_floor sk) sk (by decide))))) ?_
      refine so [2] (fun w11 hw11 => by rintro _ rfl; exact .fin (yld_eqTo (c := .bool (decide ((cmpQ (((((qk).floor) : Int) : Rat)) qk : Int) ≤ (0 : Int)))) (yld_leq rfl rfl rfl ⟨Grow.refl _, rfl⟩) (congrArg Value.bool ex12.symm))) ?_
      refine so [3] (fun w11 hw11 => by rintro _ rfl; exact .fin (yld_move rfl ⟨Grow.refl _, rfl⟩)) ?_
      refine sg (c := (x12 == true)) 23 [4] (fun w11 hw11 => by rintro _ rfl; exact .fin (⟨guard_eq, fun hc => yld_loadBox rfl rfl aggRat (B3.grow hw11) (shRat _)⟩)) ?_
      refine sg (c := (x12 == true)) 23 [4] (fun w11 hw11 => by rintro _ rfl; exact .fin (⟨guard_eq, fun hc => yld_loadBox rfl rfl aggRat (B4.grow hw11) (shRat _)⟩)) ?_
      refine sg (c := (x12 == true)) 23 [4] (fun w11 hw11 => by rintro _ rfl; exact .fin (⟨guard_eq, fun hc => yld_call rfl cal_rat_Int rfl (cRatInt (x := 1) (by omega) (by omega))⟩)) ?_
      refine sg (c := (x12 == true)) 23 [4, 6, 7] (fun w11 hw11 => by rintro _ rfl v25 h25 v26 h26; exact .fin (⟨guard_eq, fun hc => yld_call rfl cal_rat_Add rfl (cRatAdd (h25.1 (by revert hc; exact fun h => h)) (h26.1 (by revert hc; exact fun h => h)) (sz2 (sb_floor sk) (sb_int (x := 1) (by omega) (by omega)) (by decide)))⟩)) ?_
      refine sg (c := (x12 == true)) 23 [4, 5, 8] (fun w11 hw11 => by rintro _ rfl v24 h24 v27 h27; exact .fin (⟨guard_eq, fun hc => yld_call rfl cal_rat_Cmp rfl (cRatCmp (h24.1 (by revert hc; exact fun h => h)) (h27.1 (by revert hc; exact fun h => h)) (sz2 sk (sb_add (sb_floor sk) (sb_int (x := 1) (by omega) (by omega))) (by decide)))⟩)) ?_
      refine sg (c := (x12 == true)) 23 [4, 9] (fun w11 hw11 => by rintro _ rfl v28 h28; exact .fin (⟨guard_eq, fun hc => yld_eqTo (c := .bool (decide ((cmpQ qk ((((((qk).floor) : Int) : Rat)) + (((1 : Int) : Rat))) : Int) < (0 : Int)))) (yld_lss rfl (show v28 = .int .i64 (cmpQ qk ((((((qk).floor) : Int) : Rat)) + (((1 : Int) : Rat)))) from (h28.1 (by revert hc; exact fun h => h))) rfl ⟨Grow.refl _, rfl⟩) (congrArg Value.bool ex13.symm)⟩)) ?_
      refine so [4, 10] (fun w11 hw11 => by rintro _ rfl v29 h29; exact .fin (yld_eqTo (c := .bool ((x12 && x13))) (yld_pick_and rfl rfl (fun ht => h29.1 (by revert ht; cases x12 <;> decide)) rfl ⟨Grow.refl _, rfl⟩) (congrArg Value.bool ex14.symm))) ?_
      refine so [11] (fun w11 hw11 => by rintro _ rfl; exact .fin (yld_move rfl ⟨Grow.refl _, rfl⟩)) ?_
      refine sg (c := (x14 == true)) 31 [12] (fun w11 hw11 => by rintro _ rfl; exact .fin (⟨guard_eq, fun hc => yld_loadBox rfl rfl aggRat (B5.grow hw11) (shRat _)⟩)) ?_
      refine sg (c := (x14 == true)) 31 [12] (fun w11 hw11 => by rintro _ rfl; exact .fin (⟨guard_eq, fun hc => yld_loadBox rfl rfl aggRat (B4.grow hw11) (shRat _)⟩)) ?_
      refine sg (c := (x14 == true)) 31 [12] (fun w11 hw11 => by rintro _ rfl; exact .fin (⟨guard_eq, fun hc => yld_move rfl ⟨Grow.refl _, rfl⟩⟩)) ?_
      refine sg (c := (x14 == true)) 31 [12, 15] (fun w11 hw11 => by rintro _ rfl v34 h34; exact .fin (⟨guard_eq, fun hc => (by have ev34 : v34 = .int .i64 (0) := (show v34 = .int .i64 (0) from (h34.1 (by revert hc; exact fun h => h))); subst ev34; exact yld_call rfl cal_rat_Int rfl (cRatInt (x := 0) (by omega) (by omega)))⟩)) ?_
      refine sg (c := (x14 == true)) 31 [12, 14, 16] (fun w11 hw11 => by rintro _ rfl v33 h33 v35 h35; exact .fin (⟨guard_eq, fun hc => yld_call rfl cal_rat_Add rfl (cRatAdd (h33.1 (by revert hc; exact fun h => h)) (h35.1 (by revert hc; exact fun h => h)) (sz2 (sb_floor sk) (sb_int (x := 0) (by omega) (by omega)) (by decide)))⟩)) ?_
      refine sg (c := (x14 == true)) 31 [12, 13, 17] (fun w11 hw11 => by rintro _ rfl v32 h32 v36 h36; exact .fin (⟨guard_eq, fun hc => yld_eqTo (c := .bool (decide (((((-(-qk).floor) : Int) : Rat)) = ((((((qk).floor) : Int) : Rat)) + (((0 : Int) : Rat)))))) (yld_call rfl cal_rat_Same rfl (cRatSame (h32.1 (by revert hc; exact fun h => h)) (h36.1 (by revert hc; exact fun h => h)) (sz2 (sb_ceil sk) (sb_add (sb_floor sk) (sb_int (x := 0) (by omega) (by omega))) (by decide)))) (congrArg Value.bool ex15.symm)⟩)) ?_
      refine so [12, 18] (fun w11 hw11 => by rintro _ rfl v37 h37; exact .fin (yld_eqTo (c := .bool ((x14 && x15))) (yld_pick_and rfl rfl (fun ht => h37.1 (by revert ht; cases x14 <;> decide)) rfl ⟨Grow.refl _, rfl⟩) (congrArg Value.bool ex16.symm))) ?_
      refine so [19] (fun w11 hw11 => by rintro _ rfl; exact .fin (yld_move rfl ⟨Grow.refl _, rfl⟩)) ?_
      refine sg (c := (x16 == true)) 39 [20] (fun w11 hw11 => by rintro _ rfl; exact .fin (⟨guard_eq, fun hc => yld_loadBox rfl rfl aggRat (B4.grow hw11) (shRat _)⟩)) ?_
      refine sg (c := (x16 == true)) 39 [20] (fun w11 hw11 => by rintro _ rfl; exact .fin (⟨guard_eq, fun hc => yld_loadBox rfl rfl aggRat (B3.grow hw11) (shRat _)⟩)) ?_
      refine sg (c := (x16 == true)) 39 [20, 21, 22] (fun w11 hw11 => by rintro _ rfl v40 h40 v41 h41; exact .fin (⟨guard_eq, fun hc => yld_eqTo (c := .bool (decide ((((((qk).floor) : Int) : Rat)) = qk))) (yld_call rfl cal_rat_Same rfl (cRatSame (h40.1 (by revert hc; exact fun h => h)) (h41.1 (by revert hc; exact fun h => h)) (sz2 (sb_floor sk) sk (by decide)))) (congrArg Value.bool ex17.symm)⟩)) ?_
      refine sg (c := (x16 == true)) 39 [20] (fun w11 hw11 => by rintro _ rfl; exact .fin (⟨guard_eq, fun hc => yld_loadBox rfl rfl aggRat (B3.grow hw11) (shRat _)⟩)) ?_
      refine sg (c := (x16 == true)) 39 [20, 24] (fun w11 hw11 => by rintro _ rfl v43 h43; exact .fin (⟨guard_eq, fun hc => yld_eqTo (c := .bool (decide (qk.den = 1))) (yld_call rfl cal_rat_Rat_IsInt rfl (cRatIsInt (h43.1 (by revert hc; exact fun h => h)))) (congrArg Value.bool ex18.symm)⟩)) ?_
      refine sg (c := (x16 == true)) 39 [20, 23, 25] (fun w11 hw11 => by rintro _ rfl v42 h42 v44 h44; exact .fin (⟨guard_eq, fun hc => yld_eqTo (c := .bool (x17 == x18)) (yld_beq rfl Try.underlying4 (show v42 = .bool (x17) from (h42.1 (by revert hc; exact fun h => h))) (show v44 = .bool (x18) from (h44.1 (by revert hc; exact fun h => h))) ⟨Grow.refl _, rfl⟩) (congrArg Value.bool ex19.symm)⟩)) ?_
      refine so [20, 26] (fun w11 hw11 => by rintro _ rfl v45 h45; exact .fin (yld_eqTo (c := .bool ((x16 && x19))) (yld_pick_and rfl rfl (fun ht => h45.1 (by revert ht; cases x16 <;> decide)) rfl ⟨Grow.refl _, rfl⟩) (congrArg Value.bool ex20.symm))) ?_
      refine so [27] (fun w11 hw11 => by rintro _ rfl; exact .fin (yld_move rfl ⟨Grow.refl _, rfl⟩)) ?_
      refine sg (c := (x20 == true)) 47 [28] (fun w11 hw11 => by rintro _ rfl; exact .fin (⟨guard_eq, fun hc => yld_loadBox rfl rfl aggRat (B3.grow hw11) (shRat _)⟩)) ?_
      refine sg (c := (x20 == true)) 47 [28, 29] (fun w11 hw11 => by rintro _ rfl v48 h48; exact .fin (⟨guard_eq, fun hc => yld_call rfl cal_rat_Rat_Abs rfl (cRatAbs (h48.1 (by revert hc; exact fun h => h)))⟩)) ?_
      refine sg (c := (x20 == true)) 47 [28, 30] (fun w11 hw11 => by rintro _ rfl v49 h49; exact .fin (⟨guard_eq, fun hc => yld_call rfl cal_rat_Rat_Sign rfl (cRatSign (h49.1 (by revert hc; exact fun h => h)))⟩)) ?_
      refine sg (c := (x20 == true)) 47 [28, 31] (fun w11 hw11 => by rintro _ rfl v50 h50; exact .fin (⟨guard_eq, fun hc => yld_eqTo (c := .bool (decide (((absQ qk).num.sign : Int) ≥ (0 : Int)))) (yld_geq rfl (show v50 = .int .i64 ((absQ qk).num.sign) from (h50.1 (by revert hc; exact fun h => h))) rfl ⟨Grow.refl _, rfl⟩) (congrArg Value.bool ex21.symm)⟩)) ?_
      refine so [28, 32] (fun w11 hw11 => by rintro _ rfl v51 h51; exact .fin (yld_eqTo (c := .bool ((x20 && x21))) (yld_pick_and rfl rfl (fun ht => h51.1 (by revert ht; cases x20 <;> decide)) rfl ⟨Grow.refl _, rfl⟩) (congrArg Value.bool ex22.symm))) ?_
      refine so [33] (fun w11 hw11 => by rintro _ rfl; exact .fin (yld_move rfl ⟨Grow.refl _, rfl⟩)) ?_
      refine sg (c := (x22 == true)) 53 [34] (fun w11 hw11 => by rintro _ rfl; exact .fin (⟨guard_eq, fun hc => yld_loadBox rfl rfl aggRat (B3.grow hw11) (shRat _)⟩)) ?_
      refine sg (c := (x22 == true)) 53 [34, 35] (fun w11 hw11 => by rintro _ rfl v54 h54; exact .fin (⟨guard_eq, fun hc => yld_call rfl cal_rat_Rat_Abs rfl (cRatAbs (h54.1 (by revert hc; exact fun h => h)))⟩)) ?_
      refine sg (c := (x22 == true)) 53 [34] (fun w11 hw11 => by rintro _ rfl; exact .fin (⟨guard_eq, fun hc => yld_loadBox rfl rfl aggRat (B3.grow hw11) (shRat _)⟩)) ?_
      refine sg (c := (x22 == true)) 53 [34] (fun w11 hw11 => by rintro _ rfl; exact .fin (⟨guard_eq, fun hc => yld_loadBox rfl rfl aggRat (B3.grow hw11) (shRat _)⟩)) ?_
      refine sg (c := (x22 == true)) 53 [34, 38] (fun w11 hw11 => by rintro _ rfl v57 h57; exact .fin (⟨guard_eq, fun hc => yld_call rfl cal_rat_Rat_Neg rfl (cRatNeg (h57.1 (by revert hc; exact fun h => h)))⟩)) ?_
      refine sg (c := (x22 == true)) 53 [34, 37, 39] (fun w11 hw11 => by rintro _ rfl v56 h56 v58 h58; exact .fin (⟨guard_eq, fun hc => yld_call rfl cal_rat_Max rfl (cRatMax (h56.1 (by revert hc; exact fun h => h)) (h58.1 (by revert hc; exact fun h => h)) (sz2 sk (sb_neg sk) (by decide)))⟩)) ?_
      refine sg (c := (x22 == true)) 53 [34, 36, 40] (fun w11 hw11 => by rintro _ rfl v55 h55 v59 h59; exact .fin (⟨guard_eq, fun hc => yld_eqTo (c := .bool (decide ((absQ qk) = (if cmpQ (-qk) qk > 0 then (-qk) else qk)))) (yld_call rfl cal_rat_Same rfl (cRatSame (h55.1 (by revert hc; exact fun h => h)) (h59.1 (by revert hc; exact fun h => h)) (sz2 (sb_abs sk) (sb_ite (sb_neg sk) sk) (by decide)))) (congrArg Value.bool ex23.symm)⟩)) ?_
      refine so [34, 41] (fun w11 hw11 => by rintro _ rfl v60 h60; exact .fin (yld_eqTo (c := .bool ((x22 && x23))) (yld_pick_and rfl rfl (fun ht => h60.1 (by revert ht; cases x22 <;> decide)) rfl ⟨Grow.refl _, rfl⟩) (congrArg Value.bool ex24.symm))) ?_
      exact so [42] (fun w11 hw11 => by rintro _ rfl; exact .fin (yld_assign rfl ⟨Grow.refl _, rfl⟩)) (.nil _ _)
    rintro w11 hw11 v19 - v20 - v21 - _ rfl _ rfl v24 - v25 - v26 - v27 - v28 - v29 - _ rfl _ rfl v32 - v33 - v34 - v35 - v36 - v37 - _ rfl _ rfl v40 - v41 - v42 - v43 - v44 - v45 - _ rfl _ rfl v48 - v49 - v50 - v51 - _ rfl _ rfl v54 - v55 - v56 - v57 - v58 - v59 - v60 - _ rfl _ rfl -
    have W11 : Grow w w11 := W10.trans hw11
    replace B3 := B3.grow hw11
    replace B4 := B4.grow hw11
    replace B5 := B5.grow hw11
    replace hk := MR.mono _ hw11 hk
    subst ex12
    subst ex13
    subst ex14
    subst ex15
    subst ex16
    subst ex17
    subst ex18
    subst ex19
    subst ex20
    subst ex21
    subst ex22
    subst ex23
    subst ex24
    refine fr [vk, pt b1, .bool ((((((((((((decide ((cmpQ (((((qk).floor) : Int) : Rat)) qk : Int) ≤ (0 : Int))) && (decide ((cmpQ qk ((((((qk).floor) : Int) : Rat)) + (((1 : Int) : Rat))) : Int) < (0 : Int))))) && (decide (((((-(-qk).floor) : Int) : Rat)) = ((((((qk).floor) : Int) : Rat)) + (((0 : Int) : Rat))))))) && ((decide ((((((qk).floor) : Int) : Rat)) = qk)) == (decide (qk.den = 1))))) && (decide (((absQ qk).num.sign : Int) ≥ (0 : Int))))) && (decide ((absQ qk) = (if cmpQ (-qk) qk > 0 then (-qk) else qk)))))), pt b3, pt b4, pt b5, .int .i64 (0), .bool (true), .bool (!true), v9, v10, v11, v12, v13, v14, v15, v16, v17, .bool (decide (qk.den = 1)), v19, v20, v21, .bool ((decide ((cmpQ (((((qk).floor) : Int) : Rat)) qk : Int) ≤ (0 : Int)))), .bool ((decide ((cmpQ (((((qk).floor) : Int) : Rat)) qk : Int) ≤ (0 : Int)))), v24, v25, v26, v27, v28, v29, .bool ((((decide ((cmpQ (((((qk).floor) : Int) : Rat)) qk : Int) ≤ (0 : Int))) && (decide ((cmpQ qk ((((((qk).floor) : Int) : Rat)) + (((1 : Int) : Rat))) : Int) < (0 : Int)))))), .bool ((((decide ((cmpQ (((((qk).floor) : Int) : Rat)) qk : Int) ≤ (0 : Int))) && (decide ((cmpQ qk ((((((qk).floor) : Int) : Rat)) + (((1 : Int) : Rat))) : Int) < (0 : Int)))))), v32, v33, v34, v35, v36, v37, .bool ((((((decide ((cmpQ (((((qk).floor) : Int) : Rat)) qk : Int) ≤ (0 : Int))) && (decide ((cmpQ qk ((((((qk).floor) : Int) : Rat)) + (((1 : Int) : Rat))) : Int) < (0 : Int))))) && (decide (((((-(-qk).floor) : Int) : Rat)) = ((((((qk).floor) : Int) : Rat)) + (((0 : Int) : Rat)))))))), .bool ((((((decide ((cmpQ (((((qk).floor) : Int) : Rat)) qk : Int) ≤ (0 : Int))) && (decide ((cmpQ qk ((((((qk).floor) : Int) : Rat)) + (((1 : Int) : Rat))) : Int) < (0 : Int))))) && (decide (((((-(-qk).floor) : Int) : Rat)) = ((((((qk).floor) : Int) : Rat)) + (((0 : Int) : Rat)))))))), v40, v41, v42, v43, v44, v45, .bool ((((((((decide ((cmpQ (((((qk).floor) : Int) : Rat)) qk : Int) ≤ (0 : Int))) && (decide ((cmpQ qk ((((((qk).floor) : Int) : Rat)) + (((1 : Int) : Rat))) : Int) < (0 : Int))))) && (decide (((((-(-qk).floor) : Int) : Rat)) = ((((((qk).floor) : Int) : Rat)) + (((0 : Int) : Rat))))))) && ((decide ((((((qk).floor) : Int) : Rat)) = qk)) == (decide (qk.den = 1)))))), .bool ((((((((decide ((cmpQ (((((qk).floor) : Int) : Rat)) qk : Int) ≤ (0 : Int))) && (decide ((cmpQ qk ((((((qk).floor) : Int) : Rat)) + (((1 : Int) : Rat))) : Int) < (0 : Int))))) && (decide (((((-(-qk).floor) : Int) : Rat)) = ((((((qk).floor) : Int) : Rat)) + (((0 : Int) : Rat))))))) && ((decide ((((((qk).floor) : Int) : Rat)) = qk)) == (decide (qk.den = 1)))))), v48, v49, v50, v51, .bool ((((((((((decide ((cmpQ (((((qk).floor) : Int) : Rat)) qk : Int) ≤ (0 : Int))) && (decide ((cmpQ qk ((((((qk).floor) : Int) : Rat)) + (((1 : Int) : Rat))) : Int) < (0 : Int))))) && (decide (((((-(-qk).floor) : Int) : Rat)) = ((((((qk).floor) : Int) : Rat)) + (((0 : Int) : Rat))))))) && ((decide ((((((qk).floor) : Int) : Rat)) = qk)) == (decide (qk.den = 1))))) && (decide (((absQ qk).num.sign : Int) ≥ (0 : Int)))))), .bool ((((((((((decide ((cmpQ (((((qk).floor) : Int) : Rat)) qk : Int) ≤ (0 : Int))) && (decide ((cmpQ qk ((((((qk).floor) : Int) : Rat)) + (((1 : Int) : Rat))) : Int) < (0 : Int))))) && (decide (((((-(-qk).floor) : Int) : Rat)) = ((((((qk).floor) : Int) : Rat)) + (((0 : Int) : Rat))))))) && ((decide ((((((qk).floor) : Int) : Rat)) = qk)) == (decide (qk.den = 1))))) && (decide (((absQ qk).num.sign : Int) ≥ (0 : Int)))))), v54, v55, v56, v57, v58, v59, v60, .bool ((((((((((((decide ((cmpQ (((((qk).floor) : Int) : Rat)) qk : Int) ≤ (0 : Int))) && (decide ((cmpQ qk ((((((qk).floor) : Int) : Rat)) + (((1 : Int) : Rat))) : Int) < (0 : Int))))) && (decide (((((-(-qk).floor) : Int) : Rat)) = ((((((qk).floor) : Int) : Rat)) + (((0 : Int) : Rat))))))) && ((decide ((((((qk).floor) : Int) : Rat)) = qk)) == (decide (qk.den = 1))))) && (decide (((absQ qk).num.sign : Int) ≥ (0 : Int))))) && (decide ((absQ qk) = (if cmpQ (-qk) qk > 0 then (-qk) else qk))))))] ?_
    refine nx ?_
    refine wp_ret ?_
    change bodyPost Try.prog Try.f11 (Ret (.eq (.bool (true))) w) .ret _ _
    exact body_slot rfl (by show Value.bool _ = Value.bool _; rw [show ((((((((((((decide ((cmpQ (((((qk).floor) : Int) : Rat)) qk : Int) ≤ (0 : Int))) && (decide ((cmpQ qk ((((((qk).floor) : Int) : Rat)) + (((1 : Int) : Rat))) : Int) < (0 : Int))))) && (decide (((((-(-qk).floor) : Int) : Rat)) = ((((((qk).floor) : Int) : Rat)) + (((0 : Int) : Rat))))))) && ((decide ((((((qk).floor) : Int) : Rat)) = qk)) == (decide (qk.den = 1))))) && (decide (((absQ qk).num.sign : Int) ≥ (0 : Int))))) && (decide ((absQ qk) = (if cmpQ (-qk) qk > 0 then (-qk) else qk)))))) = (true) from (by first | exact floorsG qk 0 (gap0 hi) | exact floorsG qk 1 (gap1 hi))]) rfl W11
  · refine wp_skip ?_
    change Code.wp _ _ _ ⟨_, []⟩ _
    refine wp_seq ?_
    obtain ⟨x26, ex26⟩ : ∃ c : Bool, c = (decide ((cmpQ (((((qk).floor) : Int) : Rat)) qk : Int) ≤ (0 : Int))) := ⟨_, rfl⟩
    obtain ⟨x27, ex27⟩ : ∃ c : Bool, c = (decide ((cmpQ qk ((((((qk).floor) : Int) : Rat)) + (((1 : Int) : Rat))) : Int) < (0 : Int))) := ⟨_, rfl⟩
    obtain ⟨x28, ex28⟩ : ∃ c : Bool, c = ((x26 && x27)) := ⟨_, rfl⟩
    obtain ⟨x29, ex29⟩ : ∃ c : Bool, c = (decide (((((-(-qk).floor) : Int) : Rat)) = ((((((qk).floor) : Int) : Rat)) + (((1 : Int) : Rat))))) := ⟨_, rfl⟩
    obtain ⟨x30, ex30⟩ : ∃ c : Bool, c = ((x28 && x29)) := ⟨_, rfl⟩
    obtain ⟨x31, ex31⟩ : ∃ c : Bool, c = (decide ((((((qk).floor) : Int) : Rat)) = qk)) := ⟨_, rfl⟩
    obtain ⟨x32, ex32⟩ : ∃ c : Bool, c = (decide (qk.den = 1)) := ⟨_, rfl⟩
    obtain ⟨x33, ex33⟩ : ∃ c : Bool, c = (x31 == x32) := ⟨_, rfl⟩
    obtain ⟨x34, ex34⟩ : ∃ c : Bool, c = ((x30 && x33)) := ⟨_, rfl⟩
    obtain ⟨x35, ex35⟩ : ∃ c : Bool, c = (decide (((absQ qk).num.sign : Int) ≥ (0 : Int))) := ⟨_, rfl⟩
    obtain ⟨x36, ex36⟩ : ∃ c : Bool, c = ((x34 && x35)) := ⟨_, rfl⟩
    obtain ⟨x37, ex37⟩ : ∃ c : Bool, c = (decide ((absQ qk) = (if cmpQ (-qk) qk > 0 then (-qk) else qk))) := ⟨_, rfl⟩
    obtain ⟨x38, ex38⟩ : ∃ c : Bool, c = ((x36 && x37)) := ⟨_, rfl⟩
    refine rg (fun c d v a w h => NL c d v a w h) [(19, .rat (((((qk).floor) : Int) : Rat))), (20, .rat (qk)), (21, .eq (.int .i64 (cmpQ (((((qk).floor) : Int) : Rat)) qk))), (22, .eq (.bool (x26))), (23, .eq (.bool (x26))), (24, .opt ((x26 == true)) (.rat (qk))), (25, .opt ((x26 == true)) (.rat (((((qk).floor) : Int) : Rat)))), (26, .opt ((x26 == true)) (.rat (((1 : Int) : Rat)))), (27, .opt ((x26 == true)) (.rat ((((((qk).floor) : Int) : Rat)) + (((1 : Int) : Rat))))), (28, .opt ((x26 == true)) (.eq (.int .i64 (cmpQ qk ((((((qk).floor) : Int) : Rat)) + (((1 : Int) : Rat))))))), (29, .opt ((x26 == true)) (.eq (.bool (x27)))), (30, .eq (.bool (x28))), (31, .eq (.bool (x28))), (32, .opt ((x28 == true)) (.rat ((((-(-qk).floor) : Int) : Rat)))), (33, .opt ((x28 == true)) (.rat (((((qk).floor) : Int) : Rat)))), (34, .opt ((x28 == true)) (.eq (.int .i64 (1)))), (35, .opt ((x28 == true)) (.rat (((1 : Int) : Rat)))), (36, .opt ((x28 == true)) (.rat ((((((qk).floor) : Int) : Rat)) + (((1 : Int) : Rat))))), (37, .opt ((x28 == true)) (.eq (.bool (x29)))), (38, .eq (.bool (x30))), (39, .eq (.bool (x30))), (40, .opt ((x30 == true)) (.rat (((((qk).floor) : Int) : Rat)))), (41, .opt ((x30 == true)) (.rat (qk))), (42, .opt ((x30 == true)) (.eq (.bool (x31)))), (43, .opt ((x30 == true)) (.rat (qk))), (44, .opt ((x30 == true)) (.eq (.bool (x32)))), (45, .opt ((x30 == true)) (.eq (.bool (x33)))), (46, .eq (.bool (x34))), (47, .eq (.bool (x34))), (48, .opt ((x34 == true)) (.rat (qk))), (49, .opt ((x34 == true)) (.rat (absQ qk))), (50, .opt ((x34 == true)) (.eq (.int .i64 ((absQ qk).num.sign)))), (51, .opt ((x34 == true)) (.eq (.bool (x35)))), (52, .eq (.bool (x36))), (53, .eq (.bool (x36))), (54, .opt ((x36 == true)) (.rat (qk))), (55, .opt ((x36 == true)) (.rat (absQ qk))), (56, .opt ((x36 == true)) (.rat (qk))), (57, .opt ((x36 == true)) (.rat (qk))), (58, .opt ((x36 == true)) (.rat (-qk))), (59, .opt ((x36 == true)) (.rat (if cmpQ (-qk) qk > 0 then (-qk) else qk))), (60, .opt ((x36 == true)) (.eq (.bool (x37)))), (61, .eq (.bool (x38))), (2, .eq (.bool (x38)))] [] [] [] 62 44 ?_ ?_
    · refine so [] (fun w25 hw25 => .fin (yld_loadBox rfl rfl aggRat (B4.grow hw25) (shRat _))) ?_
      refine so [] (fun w25 hw25 => .fin (yld_loadBox rfl rfl aggRat (B3.grow hw25) (shRat _))) ?_
      refine so [0, 1] (fun w25 hw25 => by rintro v19 h19 v20 h20; exact .fin (yld_call rfl cal_rat_Cmp rfl (cRatCmp h19 h20 (sz2 (sb_floor sk) sk (by decide))))) ?_
      refine so [2] (fun w25 hw25 => by rintro _ rfl; exact .fin (yld_eqTo (c := .bool (decide ((cmpQ (((((qk).floor) : Int) : Rat)) qk : Int) ≤ (0 : Int)))) (yld_leq rfl rfl rfl ⟨Grow.refl _, rfl⟩) (congrArg Value.bool ex26.symm))) ?_
      refine so [3] (fun w25 hw25 => by rintro _ rfl; exact .fin (yld_move rfl ⟨Grow.refl _, rfl⟩)) ?_
      refine sg (c := (x26 == true)) 23 [4] (fun w25 hw25 => by rintro _ rfl; exact .fin (⟨guard_eq, fun hc => yld_loadBox rfl rfl aggRat (B3.grow hw25) (shRat _)⟩)) ?_
      refine sg (c := (x26 == true)) 23 [4] (fun w25 hw25 => by rintro _ rfl; exact .fin (⟨guard_eq, fun hc => yld_loadBox rfl rfl aggRat (B4.grow hw25) (shRat _)⟩)) ?_
      refine sg (c := (x26 == true)) 23 [4] (fun w25 hw25 => by rintro _ rfl; exact .fin (⟨guard_eq, fun hc => yld_call rfl cal_rat_Int rfl (cRatInt (x := 1) (by omega) (by omega))⟩)) ?_
      refine sg (c := (x26 == true)) 23 [4, 6, 7] (fun w25 hw25 => by rintro _ rfl v25 h25 v26 h26; exact .fin (⟨guard_eq, fun hc => yld_call rfl cal_rat_Add rfl (cRatAdd (h25.1 (by revert hc; exact fun h => h)) (h26.1 (by revert hc; exact fun h => h)) (sz2 (sb_floor sk) (sb_int (x := 1) (by omega) (by omega)) (by decide)))⟩)) ?_
      refine sg (c := (x26 == true)) 23 [4, 5, 8] (fun w25 hw25 => by rintro _ rfl v24 h24 v27 h27; exact .fin (⟨guard_eq, fun hc => yld_call rfl cal_rat_Cmp rfl (cRatCmp (h24.1 (by revert hc; exact fun h => h)) (h27.1 (by revert hc; exact fun h => h)) (sz2 sk (sb_add (sb_floor sk) (sb_int (x := 1) (by omega) (by omega))) (by decide)))⟩)) ?_
      refine sg (c := (x26 == true)) 23 [4, 9] (fun w25 hw25 => by rintro _ rfl v28 h28; exact .fin (⟨guard_eq, fun hc => yld_eqTo (c := .bool (decide ((cmpQ qk ((((((qk).floor) : Int) : Rat)) + (((1 : Int) : Rat))) : Int) < (0 : Int)))) (yld_lss rfl (show v28 = .int .i64 (cmpQ qk ((((((qk).floor) : Int) : Rat)) + (((1 : Int) : Rat)))) from (h28.1 (by revert hc; exact fun h => h))) rfl ⟨Grow.refl _, rfl⟩) (congrArg Value.bool ex27.symm)⟩)) ?_
      refine so [4, 10] (fun w25 hw25 => by rintro _ rfl v29 h29; exact .fin (yld_eqTo (c := .bool ((x26 && x27))) (yld_pick_and rfl rfl (fun ht => h29.1 (by revert ht; cases x26 <;> decide)) rfl ⟨Grow.refl _, rfl⟩) (congrArg Value.bool ex28.symm))) ?_
      refine so [11] (fun w25 hw25 => by rintro _ rfl; exact .fin (yld_move rfl ⟨Grow.refl _, rfl⟩)) ?_
      refine sg (c := (x28 == true)) 31 [12] (fun w25 hw25 => by rintro _ rfl; exact .fin (⟨guard_eq, fun hc => yld_loadBox rfl rfl aggRat (B5.grow hw25) (shRat _)⟩)) ?_
      refine sg (c := (x28 == true)) 31 [12] (fun w25 hw25 => by rintro _ rfl; exact .fin (⟨guard_eq, fun hc => yld_loadBox rfl rfl aggRat (B4.grow hw25) (shRat _)⟩)) ?_
      refine sg (c := (x28 == true)) 31 [12] (fun w25 hw25 => by rintro _ rfl; exact .fin (⟨guard_eq, fun hc => yld_move rfl ⟨Grow.refl _, rfl⟩⟩)) ?_
      refine sg (c := (x28 == true)) 31 [12, 15] (fun w25 hw25 => by rintro _ rfl v34 h34; exact .fin (⟨guard_eq, fun hc => (by have ev34 : v34 = .int .i64 (1) := (show v34 = .int .i64 (1) from (h34.1 (by revert hc; exact fun h => h))); subst ev34; exact yld_call rfl cal_rat_Int rfl (cRatInt (x := 1) (by omega) (by omega)))⟩)) ?_
      refine sg (c := (x28 == true)) 31 [12, 14, 16] (fun w25 hw25 => by rintro _ rfl v33 h33 v35 h35; exact .fin (⟨guard_eq, fun hc => yld_call rfl cal_rat_Add rfl (cRatAdd (h33.1 (by revert hc; exact fun h => h)) (h35.1 (by revert hc; exact fun h => h)) (sz2 (sb_floor sk) (sb_int (x := 1) (by omega) (by omega)) (by decide)))⟩)) ?_
      refine sg (c := (x28 == true)) 31 [12, 13, 17] (fun w25 hw25 => by rintro _ rfl v32 h32 v36 h36; exact .fin (⟨guard_eq, fun hc => yld_eqTo (c := .bool (decide (((((-(-qk).floor) : Int) : Rat)) = ((((((qk).floor) : Int) : Rat)) + (((1 : Int) : Rat)))))) (yld_call rfl cal_rat_Same rfl (cRatSame (h32.1 (by revert hc; exact fun h => h)) (h36.1 (by revert hc; exact fun h => h)) (sz2 (sb_ceil sk) (sb_add (sb_floor sk) (sb_int (x := 1) (by omega) (by omega))) (by decide)))) (congrArg Value.bool ex29.symm)⟩)) ?_
      refine so [12, 18] (fun w25 hw25 => by rintro _ rfl v37 h37; exact .fin (yld_eqTo (c := .bool ((x28 && x29))) (yld_pick_and rfl rfl (fun ht => h37.1 (by revert ht; cases x28 <;> decide)) rfl ⟨Grow.refl _, rfl⟩) (congrArg Value.bool ex30.symm))) ?_
      refine so [19] (fun w25 hw25 => by rintro _ rfl; exact .fin (yld_move rfl ⟨Grow.refl _, rfl⟩)) ?_
      refine sg (c := (x30 == true)) 39 [20] (fun w25 hw25 => by rintro _ rfl; exact .fin (⟨guard_eq, fun hc => yld_loadBox rfl rfl aggRat (B4.grow hw25) (shRat _)⟩)) ?_
      refine sg (c := (x30 == true)) 39 [20] (fun w25 hw25 => by rintro _ rfl; exact .fin (⟨guard_eq, fun hc => yld_loadBox rfl rfl aggRat (B3.grow hw25) (shRat _)⟩)) ?_
      refine sg (c := (x30 == true)) 39 [20, 21, 22] (fun w25 hw25 => by rintro _ rfl v40 h40 v41 h41; exact .fin (⟨guard_eq, fun hc => yld_eqTo (c := .bool (decide ((((((qk).floor) : Int) : Rat)) = qk))) (yld_call rfl cal_rat_Same rfl (cRatSame (h40.1 (by revert hc; exact fun h => h)) (h41.1 (by revert hc; exact fun h => h)) (sz2 (sb_floor sk) sk (by decide)))) (congrArg Value.bool ex31.symm)⟩)) ?_
      refine sg (c := (x30 == true)) 39 [20] (fun w25 hw25 => by rintro _ rfl; exact .fin (⟨guard_eq, fun hc => yld_loadBox rfl rfl aggRat (B3.grow hw25) (shRat _)⟩)) ?_
      refine sg (c := (x30 == true)) 39 [20, 24] (fun w25 hw25 => by rintro _ rfl v43 h43; exact .fin (⟨guard_eq, fun hc => yld_eqTo (c := .bool (decide (qk.den = 1))) (yld_call rfl cal_rat_Rat_IsInt rfl (cRatIsInt (h43.1 (by revert hc; exact fun h => h)))) (congrArg Value.bool ex32.symm)⟩)) ?_
      refine sg (c := (x30 == true)) 39 [20, 23, 25] (fun w25 hw25 => by rintro _ rfl v42 h42 v44 h44; exact .fin (⟨guard_eq, fun hc => yld_eqTo (c := .bool (x31 == x32)) (yld_beq rfl Try.underlying4 (show v42 = .bool (x31) from (h42.1 (by revert hc; exact fun h => h))) (show v44 = .bool (x32) from (h44.1 (by revert hc; exact fun h => h))) ⟨Grow.refl _, rfl⟩) (congrArg Value.bool ex33.symm)⟩)) ?_
      refine so [20, 26] (fun w25 hw25 => by rintro _ rfl v45 h45; exact .fin (yld_eqTo (c := .bool ((x30 && x33))) (yld_pick_and rfl rfl (fun ht => h45.1 (by revert ht; cases x30 <;> decide)) rfl ⟨Grow.refl _, rfl⟩) (congrArg Value.bool ex34.symm))) ?_
      refine so [27] (fun w25 hw25 => by rintro _ rfl; exact .fin (yld_move rfl ⟨Grow.refl _, rfl⟩)) ?_
      refine sg (c := (x34 == true)) 47 [28] (fun w25 hw25 => by rintro _ rfl; exact .fin (⟨guard_eq, fun hc => yld_loadBox rfl rfl aggRat (B3.grow hw25) (shRat _)⟩)) ?_
      refine sg (c := (x34 == true)) 47 [28, 29] (fun w25 hw25 => by rintro _ rfl v48 h48; exact .fin (⟨guard_eq, fun hc => yld_call rfl cal_rat_Rat_Abs rfl (cRatAbs (h48.1 (by revert hc; exact fun h => h)))⟩)) ?_
      refine sg (c := (x34 == true)) 47 [28, 30] (fun w25 hw25 => by rintro _ rfl v49 h49; exact .fin (⟨guard_eq, fun hc => yld_call rfl cal_rat_Rat_Sign rfl (cRatSign (h49.1 (by revert hc; exact fun h => h)))⟩)) ?_
      refine sg (c := (x34 == true)) 47 [28, 31] (fun w25 hw25 => by rintro _ rfl v50 h50; exact .fin (⟨guard_eq, fun hc => yld_eqTo (c := .bool (decide (((absQ qk).num.sign : Int) ≥ (0 : Int)))) (yld_geq rfl (show v50 = .int .i64 ((absQ qk).num.sign) from (h50.1 (by revert hc; exact fun h => h))) rfl ⟨Grow.refl _, rfl⟩) (congrArg Value.bool ex35.symm)⟩)) ?_
      refine so [28, 32] (fun w25 hw25 => by rintro _ rfl v51 h51; exact .fin (yld_eqTo (c := .bool ((x34 && x35))) (yld_pick_and rfl rfl (fun ht => h51.1 (by revert ht; cases x34 <;> decide)) rfl ⟨Grow.refl _, rfl⟩) (congrArg Value.bool ex36.symm))) ?_
      refine so [33] (fun w25 hw25 => by rintro _ rfl; exact .fin (yld_move rfl ⟨Grow.refl _, rfl⟩)) ?_
      refine sg (c := (x36 == true)) 53 [34] (fun w25 hw25 => by rintro _ rfl; exact .fin (⟨guard_eq, fun hc => yld_loadBox rfl rfl aggRat (B3.grow hw25) (shRat _)⟩)) ?_
      refine sg (c := (x36 == true)) 53 [34, 35] (fun w25 hw25 => by rintro _ rfl v54 h54; exact .fin (⟨guard_eq, fun hc => yld_call rfl cal_rat_Rat_Abs rfl (cRatAbs (h54.1 (by revert hc; exact fun h => h)))⟩)) ?_
      refine sg (c := (x36 == true)) 53 [34] (fun w25 hw25 => by rintro _ rfl; exact .fin (⟨guard_eq, fun hc => yld_loadBox rfl rfl aggRat (B3.grow hw25) (shRat _)⟩)) ?_
      refine sg (c := (x36 == true)) 53 [34] (fun w25 hw25 => by rintro _ rfl; exact .fin (⟨guard_eq, fun hc => yld_loadBox rfl rfl aggRat (B3.grow hw25) (shRat _)⟩)) ?_
      refine sg (c := (x36 == true)) 53 [34, 38] (fun w25 hw25 => by rintro _ rfl v57 h57; exact .fin (⟨guard_eq, fun hc => yld_call rfl cal_rat_Rat_Neg rfl (cRatNeg (h57.1 (by revert hc; exact fun h => h)))⟩)) ?_
      refine sg (c := (x36 == true)) 53 [34, 37, 39] (fun w25 hw25 => by rintro _ rfl v56 h56 v58 h58; exact .fin (⟨guard_eq, fun hc => yld_call rfl cal_rat_Max rfl (cRatMax (h56.1 (by revert hc; exact fun h => h)) (h58.1 (by revert hc; exact fun h => h)) (sz2 sk (sb_neg sk) (by decide)))⟩)) ?_
      refine sg (c := (x36 == true)) 53 [34, 36, 40] (fun w25 hw25 => by rintro _ rfl v55 h55 v59 h59; exact .fin (⟨guard_eq, fun hc => yld_eqTo (c := .bool (decide ((absQ qk) = (if cmpQ (-qk) qk > 0 then (-qk) else qk)))) (yld_call rfl cal_rat_Same rfl (cRatSame (h55.1 (by revert hc; exact fun h => h)) (h59.1 (by revert hc; exact fun h => h)) (sz2 (sb_abs sk) (sb_ite (sb_neg sk) sk) (by decide)))) (congrArg Value.bool ex37.symm)⟩)) ?_
      refine so [34, 41] (fun w25 hw25 => by rintro _ rfl v60 h60; exact .fin (yld_eqTo (c := .bool ((x36 && x37))) (yld_pick_and rfl rfl (fun ht => h60.1 (by revert ht; cases x36 <;> decide)) rfl ⟨Grow.refl _, rfl⟩) (congrArg Value.bool ex38.symm))) ?_
      exact so [42] (fun w25 hw25 => by rintro _ rfl; exact .fin (yld_assign rfl ⟨Grow.refl _, rfl⟩)) (.nil _ _)
    rintro w25 hw25 v19 - v20 - v21 - _ rfl _ rfl v24 - v25 - v26 - v27 - v28 - v29 - _ rfl _ rfl v32 - v33 - v34 - v35 - v36 - v37 - _ rfl _ rfl v40 - v41 - v42 - v43 - v44 - v45 - _ rfl _ rfl v48 - v49 - v50 - v51 - _ rfl _ rfl v54 - v55 - v56 - v57 - v58 - v59 - v60 - _ rfl _ rfl -
    have W25 : Grow w w25 := W9.trans hw25
    replace hk := MR.mono _ hw25 hk
    subst ex26
    subst ex27
    subst ex28
    subst ex29
    subst ex30
    subst ex31
    subst ex32
    subst ex33
    subst ex34
    subst ex35
    subst ex36
    subst ex37
    subst ex38
    refine fr [vk, pt b1, .bool ((((((((((((decide ((cmpQ (((((qk).floor) : Int) : Rat)) qk : Int) ≤ (0 : Int))) && (decide ((cmpQ qk ((((((qk).floor) : Int) : Rat)) + (((1 : Int) : Rat))) : Int) < (0 : Int))))) && (decide (((((-(-qk).floor) : Int) : Rat)) = ((((((qk).floor) : Int) : Rat)) + (((1 : Int) : Rat))))))) && ((decide ((((((qk).floor) : Int) : Rat)) = qk)) == (decide (qk.den = 1))))) && (decide (((absQ qk).num.sign : Int) ≥ (0 : Int))))) && (decide ((absQ qk) = (if cmpQ (-qk) qk > 0 then (-qk) else qk)))))), pt b3, pt b4, pt b5, .int .i64 (1), .bool (true), .bool (!true), v9, v10, v11, v12, v13, v14, v15, v16, v17, .bool (decide (qk.den = 1)), v19, v20, v21, .bool ((decide ((cmpQ (((((qk).floor) : Int) : Rat)) qk : Int) ≤ (0 : Int)))), .bool ((decide ((cmpQ (((((qk).floor) : Int) : Rat)) qk : Int) ≤ (0 : Int)))), v24, v25, v26, v27, v28, v29, .bool ((((decide ((cmpQ (((((qk).floor) : Int) : Rat)) qk : Int) ≤ (0 : Int))) && (decide ((cmpQ qk ((((((qk).floor) : Int) : Rat)) + (((1 : Int) : Rat))) : Int) < (0 : Int)))))), .bool ((((decide ((cmpQ (((((qk).floor) : Int) : Rat)) qk : Int) ≤ (0 : Int))) && (decide ((cmpQ qk ((((((qk).floor) : Int) : Rat)) + (((1 : Int) : Rat))) : Int) < (0 : Int)))))), v32, v33, v34, v35, v36, v37, .bool ((((((decide ((cmpQ (((((qk).floor) : Int) : Rat)) qk : Int) ≤ (0 : Int))) && (decide ((cmpQ qk ((((((qk).floor) : Int) : Rat)) + (((1 : Int) : Rat))) : Int) < (0 : Int))))) && (decide (((((-(-qk).floor) : Int) : Rat)) = ((((((qk).floor) : Int) : Rat)) + (((1 : Int) : Rat)))))))), .bool ((((((decide ((cmpQ (((((qk).floor) : Int) : Rat)) qk : Int) ≤ (0 : Int))) && (decide ((cmpQ qk ((((((qk).floor) : Int) : Rat)) + (((1 : Int) : Rat))) : Int) < (0 : Int))))) && (decide (((((-(-qk).floor) : Int) : Rat)) = ((((((qk).floor) : Int) : Rat)) + (((1 : Int) : Rat)))))))), v40, v41, v42, v43, v44, v45, .bool ((((((((decide ((cmpQ (((((qk).floor) : Int) : Rat)) qk : Int) ≤ (0 : Int))) && (decide ((cmpQ qk ((((((qk).floor) : Int) : Rat)) + (((1 : Int) : Rat))) : Int) < (0 : Int))))) && (decide (((((-(-qk).floor) : Int) : Rat)) = ((((((qk).floor) : Int) : Rat)) + (((1 : Int) : Rat))))))) && ((decide ((((((qk).floor) : Int) : Rat)) = qk)) == (decide (qk.den = 1)))))), .bool ((((((((decide ((cmpQ (((((qk).floor) : Int) : Rat)) qk : Int) ≤ (0 : Int))) && (decide ((cmpQ qk ((((((qk).floor) : Int) : Rat)) + (((1 : Int) : Rat))) : Int) < (0 : Int))))) && (decide (((((-(-qk).floor) : Int) : Rat)) = ((((((qk).floor) : Int) : Rat)) + (((1 : Int) : Rat))))))) && ((decide ((((((qk).floor) : Int) : Rat)) = qk)) == (decide (qk.den = 1)))))), v48, v49, v50, v51, .bool ((((((((((decide ((cmpQ (((((qk).floor) : Int) : Rat)) qk : Int) ≤ (0 : Int))) && (decide ((cmpQ qk ((((((qk).floor) : Int) : Rat)) + (((1 : Int) : Rat))) : Int) < (0 : Int))))) && (decide (((((-(-qk).floor) : Int) : Rat)) = ((((((qk).floor) : Int) : Rat)) + (((1 : Int) : Rat))))))) && ((decide ((((((qk).floor) : Int) : Rat)) = qk)) == (decide (qk.den = 1))))) && (decide (((absQ qk).num.sign : Int) ≥ (0 : Int)))))), .bool ((((((((((decide ((cmpQ (((((qk).floor) : Int) : Rat)) qk : Int) ≤ (0 : Int))) && (decide ((cmpQ qk ((((((qk).floor) : Int) : Rat)) + (((1 : Int) : Rat))) : Int) < (0 : Int))))) && (decide (((((-(-qk).floor) : Int) : Rat)) = ((((((qk).floor) : Int) : Rat)) + (((1 : Int) : Rat))))))) && ((decide ((((((qk).floor) : Int) : Rat)) = qk)) == (decide (qk.den = 1))))) && (decide (((absQ qk).num.sign : Int) ≥ (0 : Int)))))), v54, v55, v56, v57, v58, v59, v60, .bool ((((((((((((decide ((cmpQ (((((qk).floor) : Int) : Rat)) qk : Int) ≤ (0 : Int))) && (decide ((cmpQ qk ((((((qk).floor) : Int) : Rat)) + (((1 : Int) : Rat))) : Int) < (0 : Int))))) && (decide (((((-(-qk).floor) : Int) : Rat)) = ((((((qk).floor) : Int) : Rat)) + (((1 : Int) : Rat))))))) && ((decide ((((((qk).floor) : Int) : Rat)) = qk)) == (decide (qk.den = 1))))) && (decide (((absQ qk).num.sign : Int) ≥ (0 : Int))))) && (decide ((absQ qk) = (if cmpQ (-qk) qk > 0 then (-qk) else qk))))))] ?_
    refine nx ?_
    refine wp_ret ?_
    change bodyPost Try.prog Try.f11 (Ret (.eq (.bool (true))) w) .ret _ _
    exact body_slot rfl (by show Value.bool _ = Value.bool _; rw [show ((((((((((((decide ((cmpQ (((((qk).floor) : Int) : Rat)) qk : Int) ≤ (0 : Int))) && (decide ((cmpQ qk ((((((qk).floor) : Int) : Rat)) + (((1 : Int) : Rat))) : Int) < (0 : Int))))) && (decide (((((-(-qk).floor) : Int) : Rat)) = ((((((qk).floor) : Int) : Rat)) + (((1 : Int) : Rat))))))) && ((decide ((((((qk).floor) : Int) : Rat)) = qk)) == (decide (qk.den = 1))))) && (decide (((absQ qk).num.sign : Int) ≥ (0 : Int))))) && (decide ((absQ qk) = (if cmpQ (-qk) qk > 0 then (-qk) else qk)))))) = (true) from (by first | exact floorsG qk 0 (gap0 hi) | exact floorsG qk 1 (gap1 hi))]) rfl W25
end Go.Proofs.Ytknflfnkdieomaa
