/- actuarylaw08.RatField, its walk. -/
import Derived.Test.YtknflfnkdieomaaAwake8
import Derived.Test.YtknflfnkdieomaaRatL
namespace Go.Proofs.Ytknflfnkdieomaa
open Go.RowKit
theorem cal_actuarylaw08_awake : Callable Try.prog 20 := callable_of Try.func20 rfl (by kernel_rfl)
theorem cal_rat_Rat_Zero : Callable Try.prog 24 := callable_of Try.func24 rfl (by kernel_rfl)
theorem cal_actuarylaw08_Make : Callable Try.prog 30 := callable_of Try.func30 rfl (by kernel_rfl)
theorem cal_rat_Sub : Callable Try.prog 51 := callable_of Try.func51 rfl (by kernel_rfl)
theorem cal_rat_Div : Callable Try.prog 53 := callable_of Try.func53 rfl (by kernel_rfl)
set_option maxRecDepth 100000 in
set_option maxHeartbeats 2000000 in
theorem ratField {B : Nat} {bk : Bool} {fk gk : Nat → Nat} {nk mk : Nat} {bm : Bool} {fm gm : Nat → Nat} {nm mm : Nat} {bp : Bool} {fp gp : Nat → Nat} {np mp : Nat} {vk : Value} {vm : Value} {vp : Value} {w : World} (hB : B ≤ w.heap.size) (hk : (MR.part (B) (bk) (fk) (nk) (gk) (mk)).R w vk) (hm : (MR.part (B) (bm) (fm) (nm) (gm) (mm)).R w vm) (hp : (MR.part (B) (bp) (fp) (np) (gp) (mp)).R w vp) (wfk : Wf fk nk) (hnk : nk ≤ 1048576) (wgk : Wf gk mk) (hmk : mk ≤ 1048576) (wfm : Wf fm nm) (hnm : nm ≤ 1048576) (wgm : Wf gm mm) (hmm : mm ≤ 1048576) (wfp : Wf fp np) (hnp : np ≤ 1048576) (wgp : Wf gp mp) (hmp : mp ≤ 1048576) : Calls Try.prog 12 #[vk, vm, vp] w (Ret (.eq (.bool (true))) w) := by
  obtain ⟨qk, ek⟩ : ∃ q, q = partQ bk fk nk gk mk := ⟨_, rfl⟩
  have sk : szq qk ≤ 2097153 := by rw [ek]; exact Nat.le_trans (szq_part wfk wgk) (by omega)
  obtain ⟨qm, em⟩ : ∃ q, q = partQ bm fm nm gm mm := ⟨_, rfl⟩
  have sm : szq qm ≤ 2097153 := by rw [em]; exact Nat.le_trans (szq_part wfm wgm) (by omega)
  obtain ⟨qp, ep⟩ : ∃ q, q = partQ bp fp np gp mp := ⟨_, rfl⟩
  have sp : szq qp ≤ 2097153 := by rw [ep]; exact Nat.le_trans (szq_part wfp wgp) (by omega)
  refine calls_enter (a := ⟨List.toArray ([vk, vm, vp] ++ us 116), []⟩) Try.func12 rfl (by kernel_rfl) ?_
  have NL : NoLook (bodyPost Try.prog Try.f12 (Ret (.eq (.bool (true))) w)) := noLook_body
  refine wp_seq ?_
  refine rg (fun c d v a w h => NL c d v a w h) [(3, .ptr 54 (.part (B) (bk) (fk) (nk) (gk) (mk))), (4, .ptr 54 (.part (B) (bm) (fm) (nm) (gm) (mm))), (5, .ptr 54 (.part (B) (bp) (fp) (np) (gp) (mp))), (6, .eq (.bool (false)))] [0, 1, 2] [] [] 119 4 ?_ ?_
  · refine sn [] (fun w1 hw1 => .fin (yld_newBox rfl rfl (MR.mono _ hw1 hk))) ?_
    refine sn [] (fun w1 hw1 => .fin (yld_newBox rfl rfl (MR.mono _ hw1 hm))) ?_
    refine sn [] (fun w1 hw1 => .fin (yld_newBox rfl rfl (MR.mono _ hw1 hp))) ?_
    exact so [] (fun w1 hw1 => .fin (yld_assign rfl ⟨Grow.refl _, rfl⟩)) (.nil _ _)
  rintro w1 hw1 _ ⟨b3, rfl, B3⟩ _ ⟨b4, rfl, B4⟩ _ ⟨b5, rfl, B5⟩ _ rfl hN
  have W1 : Grow w w1 := (Grow.refl w).trans hw1
  clear hN
  replace hk := MR.mono _ hw1 hk
  replace hm := MR.mono _ hw1 hm
  replace hp := MR.mono _ hw1 hp
  refine fr ([vk, vm, vp, pt b3, pt b4, pt b5, .bool (false)] ++ us 112) ?_
  refine nx ?_
  refine wp_seq ?_
  refine wp_seq ?_
  refine rg (fun c d v a w h => NL c d v a w h) [(16, .eq (.bool (true))), (17, .eq (.bool (!true)))] [] [] [] 119 2 ?_ ?_
  · refine so [] (fun w2 hw2 => .fin (yld_call rfl cal_actuarylaw08_awake rfl (cAwake8))) ?_
    exact so [0] (fun w2 hw2 => by rintro _ rfl; exact .fin (yld_not rfl rfl ⟨Grow.refl _, rfl⟩)) (.nil _ _)
  rintro w2 hw2 _ rfl _ rfl -
  have W2 : Grow w w2 := W1.trans hw2
  replace B3 := B3.grow hw2
  replace B4 := B4.grow hw2
  replace B5 := B5.grow hw2
  replace hk := MR.mono _ hw2 hk
  replace hm := MR.mono _ hw2 hm
  replace hp := MR.mono _ hw2 hp
  refine fr ([vk, vm, vp, pt b3, pt b4, pt b5, .bool (false), u, u, u, u, u, u, u, u, u, .bool (true), .bool (!true)] ++ us 101) ?_
  refine nx ?_
  refine wp_cond_false rfl ?_
  refine wp_skip ?_
  change Code.wp _ _ _ ⟨_, []⟩ _
  refine wp_seq ?_
  refine rg (fun c d v a w h => NL c d v a w h) [(18, .part (B) (bk) (fk) (nk) (gk) (mk)), (19, .rat (qk)), (20, .part (B) (bm) (fm) (nm) (gm) (mm)), (21, .rat (qm)), (22, .part (B) (bp) (fp) (np) (gp) (mp)), (23, .rat (qp)), (7, .ptr 37 (.rat (0))), (8, .ptr 37 (.rat (0))), (9, .ptr 37 (.rat (0)))] [6, 7, 8] [] [] 119 9 ?_ ?_
  · refine so [] (fun w3 hw3 => .fin (yld_loadBox rfl rfl aggPart (B3.grow hw3) (shPart))) ?_
    refine so [0] (fun w3 hw3 => by rintro v18 h18; exact .fin (yld_as (R := .rat (partQ bk fk nk gk mk)) (R2 := .rat (qk)) (yld_call rfl cal_actuarylaw08_Make rfl (cMake8 (Nat.le_trans hB (Grow.trans W2 hw3).size) h18 wfk hnk wgk hmk)) (fun h => ek ▸ h))) ?_
    refine so [] (fun w3 hw3 => .fin (yld_loadBox rfl rfl aggPart (B4.grow hw3) (shPart))) ?_
    refine so [2] (fun w3 hw3 => by rintro v20 h20; exact .fin (yld_as (R := .rat (partQ bm fm nm gm mm)) (R2 := .rat (qm)) (yld_call rfl cal_actuarylaw08_Make rfl (cMake8 (Nat.le_trans hB (Grow.trans W2 hw3).size) h20 wfm hnm wgm hmm)) (fun h => em ▸ h))) ?_
    refine so [] (fun w3 hw3 => .fin (yld_loadBox rfl rfl aggPart (B5.grow hw3) (shPart))) ?_
    refine so [4] (fun w3 hw3 => by rintro v22 h22; exact .fin (yld_as (R := .rat (partQ bp fp np gp mp)) (R2 := .rat (qp)) (yld_call rfl cal_actuarylaw08_Make rfl (cMake8 (Nat.le_trans hB (Grow.trans W2 hw3).size) h22 wfp hnp wgp hmp)) (fun h => ep ▸ h))) ?_
    refine sn [] (fun w3 hw3 => .fin (yld_newAlloc rfl zeroRat zRat)) ?_
    refine sn [] (fun w3 hw3 => .fin (yld_newAlloc rfl zeroRat zRat)) ?_
    exact sn [] (fun w3 hw3 => .fin (yld_newAlloc rfl zeroRat zRat)) (.nil _ _)
  rintro w3 hw3 v18 - v19 h19 v20 - v21 h21 v22 - v23 h23 _ ⟨b7, rfl, B7⟩ _ ⟨b8, rfl, B8⟩ _ ⟨b9, rfl, B9⟩ hN
  have W3 : Grow w w3 := W2.trans hw3
  have g_b7 : w.heap.size ≤ b7 := Nat.le_trans W2.size hN.1.1
  have n_b7_b8 : b7 ≠ b8 := hN.2.1 7 (by simp)
  have n_b7_b9 : b7 ≠ b9 := hN.2.1 8 (by simp)
  have g_b8 : w.heap.size ≤ b8 := Nat.le_trans W2.size hN.2.2.1.1
  have n_b8_b9 : b8 ≠ b9 := hN.2.2.2.1 8 (by simp)
  have g_b9 : w.heap.size ≤ b9 := Nat.le_trans W2.size hN.2.2.2.2.1.1
  clear hN
  replace hk := MR.mono _ hw3 hk
  replace hm := MR.mono _ hw3 hm
  replace hp := MR.mono _ hw3 hp
  have KK : Kept [] w3 w3 := fun _ _ => rfl
  refine fr ([vk, vm, vp, pt b3, pt b4, pt b5, .bool (false), pt b7, pt b8, pt b9, u, u, u, u, u, u, .bool (true), .bool (!true), v18, v19, v20, v21, v22, v23] ++ us 95) ?_
  change wpListS _ _ _ _ [_, _, _] ⟨_, []⟩ _
  refine wpListS_yld rfl ?_
  refine yld_storeBox (R' := .rat (qk)) (b := b7) rfl rfl aggRat.size B7 (shRat _) h19 (shRat _) (St.rat _) (by decide) g_b7 fun w4 P4 E4 B' => ⟨fun _ => Kept.put KK P4 (fun _ hk => (by cases hk)), ?_⟩
  replace KK := Kept.put KK P4 (fun _ hk => (by cases hk))
  have W4 : Grow w w4 := W3.put P4 g_b7
  replace B8 := B8.put (St.rat _) P4 E4 (Ne.symm n_b7_b8)
  replace B9 := B9.put (St.rat _) P4 E4 (Ne.symm n_b7_b9)
  replace B7 := B'; clear B'
  replace hk := MR.put hk (St.part hB) E4
  replace hm := MR.put hm (St.part hB) E4
  replace hp := MR.put hp (St.part hB) E4
  replace h21 := MR.put h21 (St.rat _) E4
  replace h23 := MR.put h23 (St.rat _) E4
  change wpListS _ _ _ _ [_, _] ⟨_, []⟩ _
  refine wpListS_yld rfl ?_
  refine yld_storeBox (R' := .rat (qm)) (b := b8) rfl rfl aggRat.size B8 (shRat _) h21 (shRat _) (St.rat _) (by decide) g_b8 fun w5 P5 E5 B' => ⟨fun _ => Kept.put KK P5 (fun _ hk => (by cases hk)), ?_⟩
  replace KK := Kept.put KK P5 (fun _ hk => (by cases hk))
  have W5 : Grow w w5 := W4.put P5 g_b8
  replace B7 := B7.put (St.rat _) P5 E5 n_b7_b8
  replace B9 := B9.put (St.rat _) P5 E5 (Ne.symm n_b8_b9)
  replace B8 := B'; clear B'
  replace hk := MR.put hk (St.part hB) E5
  replace hm := MR.put hm (St.part hB) E5
  replace hp := MR.put hp (St.part hB) E5
  replace h23 := MR.put h23 (St.rat _) E5
  change wpListS _ _ _ _ [_] ⟨_, []⟩ _
  refine wpListS_yld rfl ?_
  refine yld_storeBox (R' := .rat (qp)) (b := b9) rfl rfl aggRat.size B9 (shRat _) h23 (shRat _) (St.rat _) (by decide) g_b9 fun w6 P6 E6 B' => ⟨fun _ => Kept.put KK P6 (fun _ hk => (by cases hk)), ?_⟩
  replace KK := Kept.put KK P6 (fun _ hk => (by cases hk))
  have W6 : Grow w w6 := W5.put P6 g_b9
  replace B7 := B7.put (St.rat _) P6 E6 n_b7_b9
  replace B8 := B8.put (St.rat _) P6 E6 n_b8_b9
  replace B9 := B'; clear B'
  replace hk := MR.put hk (St.part hB) E6
  replace hm := MR.put hm (St.part hB) E6
  replace hp := MR.put hp (St.part hB) E6
  refine nx ?_
  refine wp_seq ?_
  refine rg (fun c d v a w h => NL c d v a w h) [(24, .rat (qk)), (25, .rat (qm)), (26, .rat (qk + qm)), (27, .rat (qk)), (28, .rat (qm)), (29, .rat (qk * qm)), (10, .ptr 37 (.rat (0))), (11, .ptr 37 (.rat (0)))] [6, 7] [] [] 119 8 ?_ ?_
  · refine so [] (fun w7 hw7 => .fin (yld_loadBox rfl rfl aggRat (B7.grow hw7) (shRat _))) ?_
    refine so [] (fun w7 hw7 => .fin (yld_loadBox rfl rfl aggRat (B8.grow hw7) (shRat _))) ?_
    refine so [0, 1] (fun w7 hw7 => by rintro v24 h24 v25 h25; exact .fin (yld_call rfl cal_rat_Add rfl (cRatAdd h24 h25 (sz2 sk sm (by decide))))) ?_
    refine so [] (fun w7 hw7 => .fin (yld_loadBox rfl rfl aggRat (B7.grow hw7) (shRat _))) ?_
    refine so [] (fun w7 hw7 => .fin (yld_loadBox rfl rfl aggRat (B8.grow hw7) (shRat _))) ?_
    refine so [3, 4] (fun w7 hw7 => by rintro v27 h27 v28 h28; exact .fin (yld_call rfl cal_rat_Mul rfl (cRatMul h27 h28 (sz2 sk sm (by decide))))) ?_
    refine sn [] (fun w7 hw7 => .fin (yld_newAlloc rfl zeroRat zRat)) ?_
    exact sn [] (fun w7 hw7 => .fin (yld_newAlloc rfl zeroRat zRat)) (.nil _ _)
  rintro w7 hw7 v24 - v25 - v26 h26 v27 - v28 - v29 h29 _ ⟨b10, rfl, B10⟩ _ ⟨b11, rfl, B11⟩ hN
  have W7 : Grow w w7 := W6.trans hw7
  have g_b10 : w.heap.size ≤ b10 := Nat.le_trans W6.size hN.1.1
  have n_b7_b10 : b7 ≠ b10 := Nat.ne_of_lt (Nat.lt_of_lt_of_le B7.lt hN.1.1)
  have n_b8_b10 : b8 ≠ b10 := Nat.ne_of_lt (Nat.lt_of_lt_of_le B8.lt hN.1.1)
  have n_b9_b10 : b9 ≠ b10 := Nat.ne_of_lt (Nat.lt_of_lt_of_le B9.lt hN.1.1)
  have n_b10_b11 : b10 ≠ b11 := hN.2.1 7 (by simp)
  have g_b11 : w.heap.size ≤ b11 := Nat.le_trans W6.size hN.2.2.1.1
  have n_b7_b11 : b7 ≠ b11 := Nat.ne_of_lt (Nat.lt_of_lt_of_le B7.lt hN.2.2.1.1)
  have n_b8_b11 : b8 ≠ b11 := Nat.ne_of_lt (Nat.lt_of_lt_of_le B8.lt hN.2.2.1.1)
  have n_b9_b11 : b9 ≠ b11 := Nat.ne_of_lt (Nat.lt_of_lt_of_le B9.lt hN.2.2.1.1)
  clear hN
  replace B7 := B7.grow hw7
  replace B8 := B8.grow hw7
  replace B9 := B9.grow hw7
  replace hk := MR.mono _ hw7 hk
  replace hm := MR.mono _ hw7 hm
  replace hp := MR.mono _ hw7 hp
  have KK : Kept [] w7 w7 := fun _ _ => rfl
  refine fr ([vk, vm, vp, pt b3, pt b4, pt b5, .bool (false), pt b7, pt b8, pt b9, pt b10, pt b11, u, u, u, u, .bool (true), .bool (!true), v18, v19, v20, v21, v22, v23, v24, v25, v26, v27, v28, v29] ++ us 89) ?_
  change wpListS _ _ _ _ [_, _] ⟨_, []⟩ _
  refine wpListS_yld rfl ?_
  refine yld_storeBox (R' := .rat (qk + qm)) (b := b10) rfl rfl aggRat.size B10 (shRat _) h26 (shRat _) (St.rat _) (by decide) g_b10 fun w8 P8 E8 B' => ⟨fun _ => Kept.put KK P8 (fun _ hk => (by cases hk)), ?_⟩
  replace KK := Kept.put KK P8 (fun _ hk => (by cases hk))
  have W8 : Grow w w8 := W7.put P8 g_b10
  replace B7 := B7.put (St.rat _) P8 E8 n_b7_b10
  replace B8 := B8.put (St.rat _) P8 E8 n_b8_b10
  replace B9 := B9.put (St.rat _) P8 E8 n_b9_b10
  replace B11 := B11.put (St.rat _) P8 E8 (Ne.symm n_b10_b11)
  replace B10 := B'; clear B'
  replace hk := MR.put hk (St.part hB) E8
  replace hm := MR.put hm (St.part hB) E8
  replace hp := MR.put hp (St.part hB) E8
  replace h29 := MR.put h29 (St.rat _) E8
  change wpListS _ _ _ _ [_] ⟨_, []⟩ _
  refine wpListS_yld rfl ?_
  refine yld_storeBox (R' := .rat (qk * qm)) (b := b11) rfl rfl aggRat.size B11 (shRat _) h29 (shRat _) (St.rat _) (by decide) g_b11 fun w9 P9 E9 B' => ⟨fun _ => Kept.put KK P9 (fun _ hk => (by cases hk)), ?_⟩
  replace KK := Kept.put KK P9 (fun _ hk => (by cases hk))
  have W9 : Grow w w9 := W8.put P9 g_b11
  replace B7 := B7.put (St.rat _) P9 E9 n_b7_b11
  replace B8 := B8.put (St.rat _) P9 E9 n_b8_b11
  replace B9 := B9.put (St.rat _) P9 E9 n_b9_b11
  replace B10 := B10.put (St.rat _) P9 E9 n_b10_b11
  replace B11 := B'; clear B'
  replace hk := MR.put hk (St.part hB) E9
  replace hm := MR.put hm (St.part hB) E9
  replace hp := MR.put hp (St.part hB) E9
  refine nx ?_
  refine wp_seq ?_
  refine wp_seq ?_
  obtain ⟨x11, ex11⟩ : ∃ c : Bool, c = (decide ((qm + qk) = (qk + qm))) := ⟨_, rfl⟩
  obtain ⟨x12, ex12⟩ : ∃ c : Bool, c = (!x11) := ⟨_, rfl⟩
  obtain ⟨x13, ex13⟩ : ∃ c : Bool, c = (decide ((qm * qk) = (qk * qm))) := ⟨_, rfl⟩
  obtain ⟨x14, ex14⟩ : ∃ c : Bool, c = (!x13) := ⟨_, rfl⟩
  obtain ⟨x15, ex15⟩ : ∃ c : Bool, c = ((x12 || x14)) := ⟨_, rfl⟩
  obtain ⟨x16, ex16⟩ : ∃ c : Bool, c = (decide ((qk - qk) = 0)) := ⟨_, rfl⟩
  obtain ⟨x17, ex17⟩ : ∃ c : Bool, c = (!x16) := ⟨_, rfl⟩
  obtain ⟨x18, ex18⟩ : ∃ c : Bool, c = ((x15 || x17)) := ⟨_, rfl⟩
  obtain ⟨x19, ex19⟩ : ∃ c : Bool, c = (decide (((qk + qm) + qp) = (qk + (qm + qp)))) := ⟨_, rfl⟩
  obtain ⟨x20, ex20⟩ : ∃ c : Bool, c = (!x19) := ⟨_, rfl⟩
  obtain ⟨x21, ex21⟩ : ∃ c : Bool, c = ((x18 || x20)) := ⟨_, rfl⟩
  refine rg (fun c d v a w h => NL c d v a w h) [(30, .rat (qm)), (31, .rat (qk)), (32, .rat (qm + qk)), (33, .rat (qk + qm)), (34, .eq (.bool (x11))), (35, .eq (.bool (x12))), (36, .eq (.bool (x12))), (37, .opt ((x12 == false)) (.rat (qm))), (38, .opt ((x12 == false)) (.rat (qk))), (39, .opt ((x12 == false)) (.rat (qm * qk))), (40, .opt ((x12 == false)) (.rat (qk * qm))), (41, .opt ((x12 == false)) (.eq (.bool (x13)))), (42, .opt ((x12 == false)) (.eq (.bool (x14)))), (43, .eq (.bool (x15))), (44, .eq (.bool (x15))), (45, .opt ((x15 == false)) (.rat (qk))), (46, .opt ((x15 == false)) (.rat (qk))), (47, .opt ((x15 == false)) (.rat (qk - qk))), (48, .opt ((x15 == false)) (.eq (.bool (x16)))), (49, .opt ((x15 == false)) (.eq (.bool (x17)))), (50, .eq (.bool (x18))), (51, .eq (.bool (x18))), (52, .opt ((x18 == false)) (.rat (qk + qm))), (53, .opt ((x18 == false)) (.rat (qp))), (54, .opt ((x18 == false)) (.rat ((qk + qm) + qp))), (55, .opt ((x18 == false)) (.rat (qk))), (56, .opt ((x18 == false)) (.rat (qm))), (57, .opt ((x18 == false)) (.rat (qp))), (58, .opt ((x18 == false)) (.rat (qm + qp))), (59, .opt ((x18 == false)) (.rat (qk + (qm + qp)))), (60, .opt ((x18 == false)) (.eq (.bool (x19)))), (61, .opt ((x18 == false)) (.eq (.bool (x20)))), (62, .eq (.bool (x21)))] [] [] [] 119 33 ?_ ?_
  · refine so [] (fun w10 hw10 => .fin (yld_loadBox rfl rfl aggRat (B8.grow hw10) (shRat _))) ?_
    refine so [] (fun w10 hw10 => .fin (yld_loadBox rfl rfl aggRat (B7.grow hw10) (shRat _))) ?_
    refine so [0, 1] (fun w10 hw10 => by rintro v30 h30 v31 h31; exact .fin (yld_call rfl cal_rat_Add rfl (cRatAdd h30 h31 (sz2 sm sk (by decide))))) ?_
    refine so [] (fun w10 hw10 => .fin (yld_loadBox rfl rfl aggRat (B10.grow hw10) (shRat _))) ?_
    refine so [2, 3] (fun w10 hw10 => by rintro v32 h32 v33 h33; exact .fin (yld_eqTo (c := .bool (decide ((qm + qk) = (qk + qm)))) (yld_call rfl cal_rat_Same rfl (cRatSame h32 h33 (sz2 (sb_add sm sk) (sb_add sk sm) (by decide)))) (congrArg Value.bool ex11.symm))) ?_
    refine so [4] (fun w10 hw10 => by rintro _ rfl; exact .fin (yld_eqTo (c := .bool (!x11)) (yld_not rfl rfl ⟨Grow.refl _, rfl⟩) (congrArg Value.bool ex12.symm))) ?_
    refine so [5] (fun w10 hw10 => by rintro _ rfl; exact .fin (yld_move rfl ⟨Grow.refl _, rfl⟩)) ?_
    refine sg (c := (x12 == false)) 36 [6] (fun w10 hw10 => by rintro _ rfl; exact .fin (⟨guard_eq, fun hc => yld_loadBox rfl rfl aggRat (B8.grow hw10) (shRat _)⟩)) ?_
    refine sg (c := (x12 == false)) 36 [6] (fun w10 hw10 => by rintro _ rfl; exact .fin (⟨guard_eq, fun hc => yld_loadBox rfl rfl aggRat (B7.grow hw10) (shRat _)⟩)) ?_
    refine sg (c := (x12 == false)) 36 [6, 7, 8] (fun w10 hw10 => by rintro _ rfl v37 h37 v38 h38; exact .fin (⟨guard_eq, fun hc => yld_call rfl cal_rat_Mul rfl (cRatMul (h37.1 (by revert hc; exact fun h => h)) (h38.1 (by revert hc; exact fun h => h)) (sz2 sm sk (by decide)))⟩)) ?_
    refine sg (c := (x12 == false)) 36 [6] (fun w10 hw10 => by rintro _ rfl; exact .fin (⟨guard_eq, fun hc => yld_loadBox rfl rfl aggRat (B11.grow hw10) (shRat _)⟩)) ?_
    refine sg (c := (x12 == false)) 36 [6, 9, 10] (fun w10 hw10 => by rintro _ rfl v39 h39 v40 h40; exact .fin (⟨guard_eq, fun hc => yld_eqTo (c := .bool (decide ((qm * qk) = (qk * qm)))) (yld_call rfl cal_rat_Same rfl (cRatSame (h39.1 (by revert hc; exact fun h => h)) (h40.1 (by revert hc; exact fun h => h)) (sz2 (sb_mul sm sk) (sb_mul sk sm) (by decide)))) (congrArg Value.bool ex13.symm)⟩)) ?_
    refine sg (c := (x12 == false)) 36 [6, 11] (fun w10 hw10 => by rintro _ rfl v41 h41; exact .fin (⟨guard_eq, fun hc => yld_eqTo (c := .bool (!x13)) (yld_not rfl (show v41 = .bool (x13) from (h41.1 (by revert hc; exact fun h => h))) ⟨Grow.refl _, rfl⟩) (congrArg Value.bool ex14.symm)⟩)) ?_
    refine so [6, 12] (fun w10 hw10 => by rintro _ rfl v42 h42; exact .fin (yld_eqTo (c := .bool ((x12 || x14))) (yld_pick_or rfl rfl rfl (fun ht => h42.1 (by revert ht; cases x12 <;> decide)) ⟨Grow.refl _, rfl⟩) (congrArg Value.bool ex15.symm))) ?_
    refine so [13] (fun w10 hw10 => by rintro _ rfl; exact .fin (yld_move rfl ⟨Grow.refl _, rfl⟩)) ?_
    refine sg (c := (x15 == false)) 44 [14] (fun w10 hw10 => by rintro _ rfl; exact .fin (⟨guard_eq, fun hc => yld_loadBox rfl rfl aggRat (B7.grow hw10) (shRat _)⟩)) ?_
    refine sg (c := (x15 == false)) 44 [14] (fun w10 hw10 => by rintro _ rfl; exact .fin (⟨guard_eq, fun hc => yld_loadBox rfl rfl aggRat (B7.grow hw10) (shRat _)⟩)) ?_
    refine sg (c := (x15 == false)) 44 [14, 15, 16] (fun w10 hw10 => by rintro _ rfl v45 h45 v46 h46; exact .fin (⟨guard_eq, fun hc => yld_call rfl cal_rat_Sub rfl (cRatSub (h45.1 (by revert hc; exact fun h => h)) (h46.1 (by revert hc; exact fun h => h)) (sz2 sk sk (by decide)))⟩)) ?_
    refine sg (c := (x15 == false)) 44 [14, 17] (fun w10 hw10 => by rintro _ rfl v47 h47; exact .fin (⟨guard_eq, fun hc => yld_eqTo (c := .bool (decide ((qk - qk) = 0))) (yld_call rfl cal_rat_Rat_Zero rfl (cRatZero (h47.1 (by revert hc; exact fun h => h)))) (congrArg Value.bool ex16.symm)⟩)) ?_
    refine sg (c := (x15 == false)) 44 [14, 18] (fun w10 hw10 => by rintro _ rfl v48 h48; exact .fin (⟨guard_eq, fun hc => yld_eqTo (c := .bool (!x16)) (yld_not rfl (show v48 = .bool (x16) from (h48.1 (by revert hc; exact fun h => h))) ⟨Grow.refl _, rfl⟩) (congrArg Value.bool ex17.symm)⟩)) ?_
    refine so [14, 19] (fun w10 hw10 => by rintro _ rfl v49 h49; exact .fin (yld_eqTo (c := .bool ((x15 || x17))) (yld_pick_or rfl rfl rfl (fun ht => h49.1 (by revert ht; cases x15 <;> decide)) ⟨Grow.refl _, rfl⟩) (congrArg Value.bool ex18.symm))) ?_
    refine so [20] (fun w10 hw10 => by rintro _ rfl; exact .fin (yld_move rfl ⟨Grow.refl _, rfl⟩)) ?_
    refine sg (c := (x18 == false)) 51 [21] (fun w10 hw10 => by rintro _ rfl; exact .fin (⟨guard_eq, fun hc => yld_loadBox rfl rfl aggRat (B10.grow hw10) (shRat _)⟩)) ?_
    refine sg (c := (x18 == false)) 51 [21] (fun w10 hw10 => by rintro _ rfl; exact .fin (⟨guard_eq, fun hc => yld_loadBox rfl rfl aggRat (B9.grow hw10) (shRat _)⟩)) ?_
    refine sg (c := (x18 == false)) 51 [21, 22, 23] (fun w10 hw10 => by rintro _ rfl v52 h52 v53 h53; exact .fin (⟨guard_eq, fun hc => yld_call rfl cal_rat_Add rfl (cRatAdd (h52.1 (by revert hc; exact fun h => h)) (h53.1 (by revert hc; exact fun h => h)) (sz2 (sb_add sk sm) sp (by decide)))⟩)) ?_
    refine sg (c := (x18 == false)) 51 [21] (fun w10 hw10 => by rintro _ rfl; exact .fin (⟨guard_eq, fun hc => yld_loadBox rfl rfl aggRat (B7.grow hw10) (shRat _)⟩)) ?_
    refine sg (c := (x18 == false)) 51 [21] (fun w10 hw10 => by rintro _ rfl; exact .fin (⟨guard_eq, fun hc => yld_loadBox rfl rfl aggRat (B8.grow hw10) (shRat _)⟩)) ?_
    refine sg (c := (x18 == false)) 51 [21] (fun w10 hw10 => by rintro _ rfl; exact .fin (⟨guard_eq, fun hc => yld_loadBox rfl rfl aggRat (B9.grow hw10) (shRat _)⟩)) ?_
    refine sg (c := (x18 == false)) 51 [21, 26, 27] (fun w10 hw10 => by rintro _ rfl v56 h56 v57 h57; exact .fin (⟨guard_eq, fun hc => yld_call rfl cal_rat_Add rfl (cRatAdd (h56.1 (by revert hc; exact fun h => h)) (h57.1 (by revert hc; exact fun h => h)) (sz2 sm sp (by decide)))⟩)) ?_
    refine sg (c := (x18 == false)) 51 [21, 25, 28] (fun w10 hw10 => by rintro _ rfl v55 h55 v58 h58; exact .fin (⟨guard_eq, fun hc => yld_call rfl cal_rat_Add rfl (cRatAdd (h55.1 (by revert hc; exact fun h => h)) (h58.1 (by revert hc; exact fun h => h)) (sz2 sk (sb_add sm sp) (by decide)))⟩)) ?_
    refine sg (c := (x18 == false)) 51 [21, 24, 29] (fun w10 hw10 => by rintro _ rfl v54 h54 v59 h59; exact .fin (⟨guard_eq, fun hc => yld_eqTo (c := .bool (decide (((qk + qm) + qp) = (qk + (qm + qp))))) (yld_call rfl cal_rat_Same rfl (cRatSame (h54.1 (by revert hc; exact fun h => h)) (h59.1 (by revert hc; exact fun h => h)) (sz2 (sb_add (sb_add sk sm) sp) (sb_add sk (sb_add sm sp)) (by decide)))) (congrArg Value.bool ex19.symm)⟩)) ?_
    refine sg (c := (x18 == false)) 51 [21, 30] (fun w10 hw10 => by rintro _ rfl v60 h60; exact .fin (⟨guard_eq, fun hc => yld_eqTo (c := .bool (!x19)) (yld_not rfl (show v60 = .bool (x19) from (h60.1 (by revert hc; exact fun h => h))) ⟨Grow.refl _, rfl⟩) (congrArg Value.bool ex20.symm)⟩)) ?_
    exact so [21, 31] (fun w10 hw10 => by rintro _ rfl v61 h61; exact .fin (yld_eqTo (c := .bool ((x18 || x20))) (yld_pick_or rfl rfl rfl (fun ht => h61.1 (by revert ht; cases x18 <;> decide)) ⟨Grow.refl _, rfl⟩) (congrArg Value.bool ex21.symm))) (.nil _ _)
  rintro w10 hw10 v30 - v31 - v32 - v33 - _ rfl _ rfl _ rfl v37 - v38 - v39 - v40 - v41 - v42 - _ rfl _ rfl v45 - v46 - v47 - v48 - v49 - _ rfl _ rfl v52 - v53 - v54 - v55 - v56 - v57 - v58 - v59 - v60 - v61 - _ rfl -
  have W10 : Grow w w10 := W9.trans hw10
  replace B7 := B7.grow hw10
  replace B8 := B8.grow hw10
  replace B9 := B9.grow hw10
  replace B10 := B10.grow hw10
  replace B11 := B11.grow hw10
  replace hk := MR.mono _ hw10 hk
  replace hm := MR.mono _ hw10 hm
  replace hp := MR.mono _ hw10 hp
  subst ex11
  subst ex12
  subst ex13
  subst ex14
  subst ex15
  subst ex16
  subst ex17
  subst ex18
  subst ex19
  subst ex20
  subst ex21
  refine fr ([vk, vm, vp, pt b3, pt b4, pt b5, .bool (false), pt b7, pt b8, pt b9, pt b10, pt b11, u, u, u, u, .bool (true), .bool (!true), v18, v19, v20, v21, v22, v23, v24, v25, v26, v27, v28, v29, v30, v31, v32, v33, .bool ((decide ((qm + qk) = (qk + qm)))), .bool ((!(decide ((qm + qk) = (qk + qm))))), .bool ((!(decide ((qm + qk) = (qk + qm))))), v37, v38, v39, v40, v41, v42, .bool ((((!(decide ((qm + qk) = (qk + qm)))) || (!(decide ((qm * qk) = (qk * qm))))))), .bool ((((!(decide ((qm + qk) = (qk + qm)))) || (!(decide ((qm * qk) = (qk * qm))))))), v45, v46, v47, v48, v49, .bool ((((((!(decide ((qm + qk) = (qk + qm)))) || (!(decide ((qm * qk) = (qk * qm)))))) || (!(decide ((qk - qk) = 0)))))), .bool ((((((!(decide ((qm + qk) = (qk + qm)))) || (!(decide ((qm * qk) = (qk * qm)))))) || (!(decide ((qk - qk) = 0)))))), v52, v53, v54, v55, v56, v57, v58, v59, v60, v61, .bool ((((((((!(decide ((qm + qk) = (qk + qm)))) || (!(decide ((qm * qk) = (qk * qm)))))) || (!(decide ((qk - qk) = 0))))) || (!(decide (((qk + qm) + qp) = (qk + (qm + qp))))))))] ++ us 56) ?_
  refine nx ?_
  have hc21 : ((((((((!(decide ((qm + qk) = (qk + qm)))) || (!(decide ((qm * qk) = (qk * qm)))))) || (!(decide ((qk - qk) = 0))))) || (!(decide (((qk + qm) + qp) = (qk + (qm + qp)))))))) = false := fieldA qk qm qp
  refine wp_cond_false (by show Value.bool _ = _; rw [hc21]) ?_
  refine wp_skip ?_
  change Code.wp _ _ _ ⟨_, []⟩ _
  refine wp_seq ?_
  refine wp_seq ?_
  obtain ⟨x24, ex24⟩ : ∃ c : Bool, c = (decide ((qp * (qk + qm)) = ((qp * qk) + (qp * qm)))) := ⟨_, rfl⟩
  obtain ⟨x25, ex25⟩ : ∃ c : Bool, c = (!x24) := ⟨_, rfl⟩
  obtain ⟨x26, ex26⟩ : ∃ c : Bool, c = (decide (((qk * qm) * qp) = (qk * (qm * qp)))) := ⟨_, rfl⟩
  obtain ⟨x27, ex27⟩ : ∃ c : Bool, c = (!x26) := ⟨_, rfl⟩
  obtain ⟨x28, ex28⟩ : ∃ c : Bool, c = ((x25 || x27)) := ⟨_, rfl⟩
  refine rg (fun c d v a w h => NL c d v a w h) [(63, .rat (qp)), (64, .rat (qk + qm)), (65, .rat (qp * (qk + qm))), (66, .rat (qp)), (67, .rat (qk)), (68, .rat (qp * qk)), (69, .rat (qp)), (70, .rat (qm)), (71, .rat (qp * qm)), (72, .rat ((qp * qk) + (qp * qm))), (73, .eq (.bool (x24))), (74, .eq (.bool (x25))), (75, .eq (.bool (x25))), (76, .opt ((x25 == false)) (.rat (qk * qm))), (77, .opt ((x25 == false)) (.rat (qp))), (78, .opt ((x25 == false)) (.rat ((qk * qm) * qp))), (79, .opt ((x25 == false)) (.rat (qk))), (80, .opt ((x25 == false)) (.rat (qm))), (81, .opt ((x25 == false)) (.rat (qp))), (82, .opt ((x25 == false)) (.rat (qm * qp))), (83, .opt ((x25 == false)) (.rat (qk * (qm * qp)))), (84, .opt ((x25 == false)) (.eq (.bool (x26)))), (85, .opt ((x25 == false)) (.eq (.bool (x27)))), (86, .eq (.bool (x28)))] [] [] [] 119 24 ?_ ?_
  · refine so [] (fun w23 hw23 => .fin (yld_loadBox rfl rfl aggRat (B9.grow hw23) (shRat _))) ?_
    refine so [] (fun w23 hw23 => .fin (yld_loadBox rfl rfl aggRat (B10.grow hw23) (shRat _))) ?_
    refine so [0, 1] (fun w23 hw23 => by rintro v63 h63 v64 h64; exact .fin (yld_call rfl cal_rat_Mul rfl (cRatMul h63 h64 (sz2 sp (sb_add sk sm) (by decide))))) ?_
    refine so [] (fun w23 hw23 => .fin (yld_loadBox rfl rfl aggRat (B9.grow hw23) (shRat _))) ?_
    refine so [] (fun w23 hw23 => .fin (yld_loadBox rfl rfl aggRat (B7.grow hw23) (shRat _))) ?_
    refine so [3, 4] (fun w23 hw23 => by rintro v66 h66 v67 h67; exact .fin (yld_call rfl cal_rat_Mul rfl (cRatMul h66 h67 (sz2 sp sk (by decide))))) ?_
    refine so [] (fun w23 hw23 => .fin (yld_loadBox rfl rfl aggRat (B9.grow hw23) (shRat _))) ?_
    refine so [] (fun w23 hw23 => .fin (yld_loadBox rfl rfl aggRat (B8.grow hw23) (shRat _))) ?_
    refine so [6, 7] (fun w23 hw23 => by rintro v69 h69 v70 h70; exact .fin (yld_call rfl cal_rat_Mul rfl (cRatMul h69 h70 (sz2 sp sm (by decide))))) ?_
    refine so [5, 8] (fun w23 hw23 => by rintro v68 h68 v71 h71; exact .fin (yld_call rfl cal_rat_Add rfl (cRatAdd h68 h71 (sz2 (sb_mul sp sk) (sb_mul sp sm) (by decide))))) ?_
    refine so [2, 9] (fun w23 hw23 => by rintro v65 h65 v72 h72; exact .fin (yld_eqTo (c := .bool (decide ((qp * (qk + qm)) = ((qp * qk) + (qp * qm))))) (yld_call rfl cal_rat_Same rfl (cRatSame h65 h72 (sz2 (sb_mul sp (sb_add sk sm)) (sb_add (sb_mul sp sk) (sb_mul sp sm)) (by decide)))) (congrArg Value.bool ex24.symm))) ?_
    refine so [10] (fun w23 hw23 => by rintro _ rfl; exact .fin (yld_eqTo (c := .bool (!x24)) (yld_not rfl rfl ⟨Grow.refl _, rfl⟩) (congrArg Value.bool ex25.symm))) ?_
    refine so [11] (fun w23 hw23 => by rintro _ rfl; exact .fin (yld_move rfl ⟨Grow.refl _, rfl⟩)) ?_
    refine sg (c := (x25 == false)) 75 [12] (fun w23 hw23 => by rintro _ rfl; exact .fin (⟨guard_eq, fun hc => yld_loadBox rfl rfl aggRat (B11.grow hw23) (shRat _)⟩)) ?_
    refine sg (c := (x25 == false)) 75 [12] (fun w23 hw23 => by rintro _ rfl; exact .fin (⟨guard_eq, fun hc => yld_loadBox rfl rfl aggRat (B9.grow hw23) (shRat _)⟩)) ?_
    refine sg (c := (x25 == false)) 75 [12, 13, 14] (fun w23 hw23 => by rintro _ rfl v76 h76 v77 h77; exact .fin (⟨guard_eq, fun hc => yld_call rfl cal_rat_Mul rfl (cRatMul (h76.1 (by revert hc; exact fun h => h)) (h77.1 (by revert hc; exact fun h => h)) (sz2 (sb_mul sk sm) sp (by decide)))⟩)) ?_
    refine sg (c := (x25 == false)) 75 [12] (fun w23 hw23 => by rintro _ rfl; exact .fin (⟨guard_eq, fun hc => yld_loadBox rfl rfl aggRat (B7.grow hw23) (shRat _)⟩)) ?_
    refine sg (c := (x25 == false)) 75 [12] (fun w23 hw23 => by rintro _ rfl; exact .fin (⟨guard_eq, fun hc => yld_loadBox rfl rfl aggRat (B8.grow hw23) (shRat _)⟩)) ?_
    refine sg (c := (x25 == false)) 75 [12] (fun w23 hw23 => by rintro _ rfl; exact .fin (⟨guard_eq, fun hc => yld_loadBox rfl rfl aggRat (B9.grow hw23) (shRat _)⟩)) ?_
    refine sg (c := (x25 == false)) 75 [12, 17, 18] (fun w23 hw23 => by rintro _ rfl v80 h80 v81 h81; exact .fin (⟨guard_eq, fun hc => yld_call rfl cal_rat_Mul rfl (cRatMul (h80.1 (by revert hc; exact fun h => h)) (h81.1 (by revert hc; exact fun h => h)) (sz2 sm sp (by decide)))⟩)) ?_
    refine sg (c := (x25 == false)) 75 [12, 16, 19] (fun w23 hw23 => by rintro _ rfl v79 h79 v82 h82; exact .fin (⟨guard_eq, fun hc => yld_call rfl cal_rat_Mul rfl (cRatMul (h79.1 (by revert hc; exact fun h => h)) (h82.1 (by revert hc; exact fun h => h)) (sz2 sk (sb_mul sm sp) (by decide)))⟩)) ?_
    refine sg (c := (x25 == false)) 75 [12, 15, 20] (fun w23 hw23 => by rintro _ rfl v78 h78 v83 h83; exact .fin (⟨guard_eq, fun hc => yld_eqTo (c := .bool (decide (((qk * qm) * qp) = (qk * (qm * qp))))) (yld_call rfl cal_rat_Same rfl (cRatSame (h78.1 (by revert hc; exact fun h => h)) (h83.1 (by revert hc; exact fun h => h)) (sz2 (sb_mul (sb_mul sk sm) sp) (sb_mul sk (sb_mul sm sp)) (by decide)))) (congrArg Value.bool ex26.symm)⟩)) ?_
    refine sg (c := (x25 == false)) 75 [12, 21] (fun w23 hw23 => by rintro _ rfl v84 h84; exact .fin (⟨guard_eq, fun hc => yld_eqTo (c := .bool (!x26)) (yld_not rfl (show v84 = .bool (x26) from (h84.1 (by revert hc; exact fun h => h))) ⟨Grow.refl _, rfl⟩) (congrArg Value.bool ex27.symm)⟩)) ?_
    exact so [12, 22] (fun w23 hw23 => by rintro _ rfl v85 h85; exact .fin (yld_eqTo (c := .bool ((x25 || x27))) (yld_pick_or rfl rfl rfl (fun ht => h85.1 (by revert ht; cases x25 <;> decide)) ⟨Grow.refl _, rfl⟩) (congrArg Value.bool ex28.symm))) (.nil _ _)
  rintro w23 hw23 v63 - v64 - v65 - v66 - v67 - v68 - v69 - v70 - v71 - v72 - _ rfl _ rfl _ rfl v76 - v77 - v78 - v79 - v80 - v81 - v82 - v83 - v84 - v85 - _ rfl -
  have W23 : Grow w w23 := W10.trans hw23
  replace B7 := B7.grow hw23
  replace B8 := B8.grow hw23
  replace hk := MR.mono _ hw23 hk
  replace hm := MR.mono _ hw23 hm
  replace hp := MR.mono _ hw23 hp
  subst ex24
  subst ex25
  subst ex26
  subst ex27
  subst ex28
  refine fr ((vk :: vm :: vp :: pt b3 :: pt b4 :: pt b5 :: .bool (false) :: pt b7 :: pt b8 :: pt b9 :: pt b10 :: pt b11 :: u :: u :: u :: u :: .bool (true) :: .bool (!true) :: v18 :: v19 :: v20 :: v21 :: v22 :: v23 :: v24 :: v25 :: v26 :: v27 :: v28 :: v29 :: v30 :: v31 :: v32 :: v33 :: .bool ((decide ((qm + qk) = (qk + qm)))) :: .bool ((!(decide ((qm + qk) = (qk + qm))))) :: .bool ((!(decide ((qm + qk) = (qk + qm))))) :: v37 :: v38 :: v39 :: v40 :: v41 :: v42 :: .bool ((((!(decide ((qm + qk) = (qk + qm)))) || (!(decide ((qm * qk) = (qk * qm))))))) :: .bool ((((!(decide ((qm + qk) = (qk + qm)))) || (!(decide ((qm * qk) = (qk * qm))))))) :: v45 :: v46 :: v47 :: v48 :: v49 :: .bool ((((((!(decide ((qm + qk) = (qk + qm)))) || (!(decide ((qm * qk) = (qk * qm)))))) || (!(decide ((qk - qk) = 0)))))) :: .bool ((((((!(decide ((qm + qk) = (qk + qm)))) || (!(decide ((qm * qk) = (qk * qm)))))) || (!(decide ((qk - qk) = 0)))))) :: v52 :: v53 :: v54 :: v55 :: v56 :: v57 :: v58 :: v59 :: v60 :: v61 :: .bool ((((((((!(decide ((qm + qk) = (qk + qm)))) || (!(decide ((qm * qk) = (qk * qm)))))) || (!(decide ((qk - qk) = 0))))) || (!(decide (((qk + qm) + qp) = (qk + (qm + qp)))))))) :: v63 :: v64 :: v65 :: v66 :: v67 :: v68 :: v69 :: v70 :: v71 :: v72 :: .bool ((decide ((qp * (qk + qm)) = ((qp * qk) + (qp * qm))))) :: .bool ((!(decide ((qp * (qk + qm)) = ((qp * qk) + (qp * qm)))))) :: .bool ((!(decide ((qp * (qk + qm)) = ((qp * qk) + (qp * qm)))))) :: v76 :: v77 :: v78 :: v79 :: v80 :: v81 :: v82 :: v83 :: v84 :: v85 :: .bool ((((!(decide ((qp * (qk + qm)) = ((qp * qk) + (qp * qm))))) || (!(decide (((qk * qm) * qp) = (qk * (qm * qp)))))))) :: []) ++ us 32) ?_
  refine nx ?_
  have hc28 : ((((!(decide ((qp * (qk + qm)) = ((qp * qk) + (qp * qm))))) || (!(decide (((qk * qm) * qp) = (qk * (qm * qp)))))))) = false := fieldB qk qm qp
  refine wp_cond_false (by show Value.bool _ = _; rw [hc28]) ?_
  refine wp_skip ?_
  change Code.wp _ _ _ ⟨_, []⟩ _
  refine wp_seq ?_
  refine rg (fun c d v a w h => NL c d v a w h) [(88, .rat (qk)), (89, .tup2 (.rat ((qk)⁻¹)) (.eq (.bool (!decide (qk = 0))))), (87, .tup2 (.rat ((qk)⁻¹)) (.eq (.bool (!decide (qk = 0))))), (90, .rat ((qk)⁻¹)), (91, .eq (.bool (!decide (qk = 0)))), (12, .ptr 37 (.rat (0)))] [5] [4] [] 119 6 ?_ ?_
  · refine so [] (fun w30 hw30 => .fin (yld_loadBox rfl rfl aggRat (B7.grow hw30) (shRat _))) ?_
    refine so [0] (fun w30 hw30 => by rintro v88 h88; exact .fin (yld_call rfl cal_rat_Rat_Inv rfl (cRatInv h88 (sz1 sk (by decide))))) ?_
    refine so [1] (fun w30 hw30 => by rintro _ ⟨x89_0, x89_1, rfl, hx89_0, hx89_1⟩; exact .fin (yld_move rfl ⟨Grow.refl _, ⟨x89_0, x89_1, rfl, hx89_0, hx89_1⟩⟩)) ?_
    refine so [2] (fun w30 hw30 => by rintro _ ⟨x87_0, x87_1, rfl, hx87_0, hx87_1⟩; exact .fin (yld_extract rfl rfl rfl ⟨Grow.refl _, hx87_0⟩)) ?_
    refine sl [2] (fun w30 hw30 => by rintro _ ⟨x87_0, x87_1, rfl, hx87_0, hx87_1⟩; exact .fin (⟨_, fun w2 _ => pure_extract rfl rfl rfl w2, hx87_1⟩)) ?_
    exact sn [] (fun w30 hw30 => .fin (yld_newAlloc rfl zeroRat zRat)) (.nil _ _)
  rintro w30 hw30 v88 - v89 - v87 - v90 h90 _ rfl _ ⟨b12, rfl, B12⟩ hN
  have W30 : Grow w w30 := W23.trans hw30
  have g_b12 : w.heap.size ≤ b12 := Nat.le_trans W23.size hN.1.1
  have n_b7_b12 : b7 ≠ b12 := Nat.ne_of_lt (Nat.lt_of_lt_of_le B7.lt hN.1.1)
  have n_b8_b12 : b8 ≠ b12 := Nat.ne_of_lt (Nat.lt_of_lt_of_le B8.lt hN.1.1)
  clear hN
  replace B7 := B7.grow hw30
  replace B8 := B8.grow hw30
  replace hk := MR.mono _ hw30 hk
  replace hm := MR.mono _ hw30 hm
  replace hp := MR.mono _ hw30 hp
  have KK : Kept [] w30 w30 := fun _ _ => rfl
  refine fr ((vk :: vm :: vp :: pt b3 :: pt b4 :: pt b5 :: .bool (false) :: pt b7 :: pt b8 :: pt b9 :: pt b10 :: pt b11 :: pt b12 :: u :: u :: u :: .bool (true) :: .bool (!true) :: v18 :: v19 :: v20 :: v21 :: v22 :: v23 :: v24 :: v25 :: v26 :: v27 :: v28 :: v29 :: v30 :: v31 :: v32 :: v33 :: .bool ((decide ((qm + qk) = (qk + qm)))) :: .bool ((!(decide ((qm + qk) = (qk + qm))))) :: .bool ((!(decide ((qm + qk) = (qk + qm))))) :: v37 :: v38 :: v39 :: v40 :: v41 :: v42 :: .bool ((((!(decide ((qm + qk) = (qk + qm)))) || (!(decide ((qm * qk) = (qk * qm))))))) :: .bool ((((!(decide ((qm + qk) = (qk + qm)))) || (!(decide ((qm * qk) = (qk * qm))))))) :: v45 :: v46 :: v47 :: v48 :: v49 :: .bool ((((((!(decide ((qm + qk) = (qk + qm)))) || (!(decide ((qm * qk) = (qk * qm)))))) || (!(decide ((qk - qk) = 0)))))) :: .bool ((((((!(decide ((qm + qk) = (qk + qm)))) || (!(decide ((qm * qk) = (qk * qm)))))) || (!(decide ((qk - qk) = 0)))))) :: v52 :: v53 :: v54 :: v55 :: v56 :: v57 :: v58 :: v59 :: v60 :: v61 :: .bool ((((((((!(decide ((qm + qk) = (qk + qm)))) || (!(decide ((qm * qk) = (qk * qm)))))) || (!(decide ((qk - qk) = 0))))) || (!(decide (((qk + qm) + qp) = (qk + (qm + qp)))))))) :: v63 :: v64 :: v65 :: v66 :: v67 :: v68 :: v69 :: v70 :: v71 :: v72 :: .bool ((decide ((qp * (qk + qm)) = ((qp * qk) + (qp * qm))))) :: .bool ((!(decide ((qp * (qk + qm)) = ((qp * qk) + (qp * qm)))))) :: .bool ((!(decide ((qp * (qk + qm)) = ((qp * qk) + (qp * qm)))))) :: v76 :: v77 :: v78 :: v79 :: v80 :: v81 :: v82 :: v83 :: v84 :: v85 :: .bool ((((!(decide ((qp * (qk + qm)) = ((qp * qk) + (qp * qm))))) || (!(decide (((qk * qm) * qp) = (qk * (qm * qp)))))))) :: v87 :: v88 :: v89 :: v90 :: .bool (!decide (qk = 0)) :: []) ++ us 27) ?_
  change wpListS _ _ _ _ [_, _] ⟨_, []⟩ _
  refine wpListS_yld rfl ?_
  refine yld_storeBox (R' := .rat ((qk)⁻¹)) (b := b12) rfl rfl aggRat.size B12 (shRat _) h90 (shRat _) (St.rat _) (by decide) g_b12 fun w31 P31 E31 B' => ⟨fun _ => Kept.put KK P31 (fun _ hk => (by cases hk)), ?_⟩
  replace KK := Kept.put KK P31 (fun _ hk => (by cases hk))
  have W31 : Grow w w31 := W30.put P31 g_b12
  replace B7 := B7.put (St.rat _) P31 E31 n_b7_b12
  replace B8 := B8.put (St.rat _) P31 E31 n_b8_b12
  replace B12 := B'; clear B'
  replace hk := MR.put hk (St.part hB) E31
  replace hm := MR.put hm (St.part hB) E31
  replace hp := MR.put hp (St.part hB) E31
  change wpListS _ _ _ _ [_] ⟨_, []⟩ _
  refine wpListS_yld rfl ?_
  refine yld_assign rfl ⟨fun _ => KK, ?_⟩
  refine wpListS_nil ?_
  change Code.wp _ _ _ ⟨List.toArray (List.set _ 13 _), []⟩ _
  refine wp_seq ?_
  refine wp_seq ?_
  refine rg (fun c d v a w h => NL c d v a w h) [(92, .rat (qk)), (93, .eq (.bool (decide (qk = 0))))] [] [] [] 119 2 ?_ ?_
  · refine so [] (fun w32 hw32 => .fin (yld_loadBox rfl rfl aggRat (B7.grow hw32) (shRat _))) ?_
    exact so [0] (fun w32 hw32 => by rintro v92 h92; exact .fin (yld_call rfl cal_rat_Rat_Zero rfl (cRatZero h92))) (.nil _ _)
  rintro w32 hw32 v92 - _ rfl -
  have W32 : Grow w w32 := W31.trans hw32
  replace B7 := B7.grow hw32
  replace B8 := B8.grow hw32
  replace B12 := B12.grow hw32
  replace hk := MR.mono _ hw32 hk
  replace hm := MR.mono _ hw32 hm
  replace hp := MR.mono _ hw32 hp
  refine fr ((vk :: vm :: vp :: pt b3 :: pt b4 :: pt b5 :: .bool (false) :: pt b7 :: pt b8 :: pt b9 :: pt b10 :: pt b11 :: pt b12 :: .bool (!decide (qk = 0)) :: u :: u :: .bool (true) :: .bool (!true) :: v18 :: v19 :: v20 :: v21 :: v22 :: v23 :: v24 :: v25 :: v26 :: v27 :: v28 :: v29 :: v30 :: v31 :: v32 :: v33 :: .bool ((decide ((qm + qk) = (qk + qm)))) :: .bool ((!(decide ((qm + qk) = (qk + qm))))) :: .bool ((!(decide ((qm + qk) = (qk + qm))))) :: v37 :: v38 :: v39 :: v40 :: v41 :: v42 :: .bool ((((!(decide ((qm + qk) = (qk + qm)))) || (!(decide ((qm * qk) = (qk * qm))))))) :: .bool ((((!(decide ((qm + qk) = (qk + qm)))) || (!(decide ((qm * qk) = (qk * qm))))))) :: v45 :: v46 :: v47 :: v48 :: v49 :: .bool ((((((!(decide ((qm + qk) = (qk + qm)))) || (!(decide ((qm * qk) = (qk * qm)))))) || (!(decide ((qk - qk) = 0)))))) :: .bool ((((((!(decide ((qm + qk) = (qk + qm)))) || (!(decide ((qm * qk) = (qk * qm)))))) || (!(decide ((qk - qk) = 0)))))) :: v52 :: v53 :: v54 :: v55 :: v56 :: v57 :: v58 :: v59 :: v60 :: v61 :: .bool ((((((((!(decide ((qm + qk) = (qk + qm)))) || (!(decide ((qm * qk) = (qk * qm)))))) || (!(decide ((qk - qk) = 0))))) || (!(decide (((qk + qm) + qp) = (qk + (qm + qp)))))))) :: v63 :: v64 :: v65 :: v66 :: v67 :: v68 :: v69 :: v70 :: v71 :: v72 :: .bool ((decide ((qp * (qk + qm)) = ((qp * qk) + (qp * qm))))) :: .bool ((!(decide ((qp * (qk + qm)) = ((qp * qk) + (qp * qm)))))) :: .bool ((!(decide ((qp * (qk + qm)) = ((qp * qk) + (qp * qm)))))) :: v76 :: v77 :: v78 :: v79 :: v80 :: v81 :: v82 :: v83 :: v84 :: v85 :: .bool ((((!(decide ((qp * (qk + qm)) = ((qp * qk) + (qp * qm))))) || (!(decide (((qk * qm) * qp) = (qk * (qm * qp)))))))) :: v87 :: v88 :: v89 :: v90 :: .bool (!decide (qk = 0)) :: v92 :: .bool (decide (qk = 0)) :: []) ++ us 25) ?_
  refine nx ?_
  refine wp_cond_split (t := decide (qk = 0)) rfl (fun hz => ?_) (fun hz => ?_)
  · refine wp_seq ?_
    refine rg (fun c d v a w h => NL c d v a w h) [(94, .eq (.bool (!decide (qk = 0)))), (95, .eq (.bool (!(!decide (qk = 0))))), (6, .eq (.bool (!(!decide (qk = 0)))))] [] [] [] 119 3 ?_ ?_
    · refine so [] (fun w33 hw33 => .fin (yld_move rfl ⟨Grow.refl _, rfl⟩)) ?_
      refine so [0] (fun w33 hw33 => by rintro _ rfl; exact .fin (yld_not rfl rfl ⟨Grow.refl _, rfl⟩)) ?_
      exact so [1] (fun w33 hw33 => by rintro _ rfl; exact .fin (yld_assign rfl ⟨Grow.refl _, rfl⟩)) (.nil _ _)
    rintro w33 hw33 v94 - v95 - _ rfl -
    have W33 : Grow w w33 := W32.trans hw33
    replace B7 := B7.grow hw33
    replace B8 := B8.grow hw33
    replace B12 := B12.grow hw33
    replace hk := MR.mono _ hw33 hk
    replace hm := MR.mono _ hw33 hm
    replace hp := MR.mono _ hw33 hp
    refine fr ((vk :: vm :: vp :: pt b3 :: pt b4 :: pt b5 :: .bool (!(!decide (qk = 0))) :: pt b7 :: pt b8 :: pt b9 :: pt b10 :: pt b11 :: pt b12 :: .bool (!decide (qk = 0)) :: u :: u :: .bool (true) :: .bool (!true) :: v18 :: v19 :: v20 :: v21 :: v22 :: v23 :: v24 :: v25 :: v26 :: v27 :: v28 :: v29 :: v30 :: v31 :: v32 :: v33 :: .bool ((decide ((qm + qk) = (qk + qm)))) :: .bool ((!(decide ((qm + qk) = (qk + qm))))) :: .bool ((!(decide ((qm + qk) = (qk + qm))))) :: v37 :: v38 :: v39 :: v40 :: v41 :: v42 :: .bool ((((!(decide ((qm + qk) = (qk + qm)))) || (!(decide ((qm * qk) = (qk * qm))))))) :: .bool ((((!(decide ((qm + qk) = (qk + qm)))) || (!(decide ((qm * qk) = (qk * qm))))))) :: v45 :: v46 :: v47 :: v48 :: v49 :: .bool ((((((!(decide ((qm + qk) = (qk + qm)))) || (!(decide ((qm * qk) = (qk * qm)))))) || (!(decide ((qk - qk) = 0)))))) :: .bool ((((((!(decide ((qm + qk) = (qk + qm)))) || (!(decide ((qm * qk) = (qk * qm)))))) || (!(decide ((qk - qk) = 0)))))) :: v52 :: v53 :: v54 :: v55 :: v56 :: v57 :: v58 :: v59 :: v60 :: v61 :: .bool ((((((((!(decide ((qm + qk) = (qk + qm)))) || (!(decide ((qm * qk) = (qk * qm)))))) || (!(decide ((qk - qk) = 0))))) || (!(decide (((qk + qm) + qp) = (qk + (qm + qp)))))))) :: v63 :: v64 :: v65 :: v66 :: v67 :: v68 :: v69 :: v70 :: v71 :: v72 :: .bool ((decide ((qp * (qk + qm)) = ((qp * qk) + (qp * qm))))) :: .bool ((!(decide ((qp * (qk + qm)) = ((qp * qk) + (qp * qm)))))) :: .bool ((!(decide ((qp * (qk + qm)) = ((qp * qk) + (qp * qm)))))) :: v76 :: v77 :: v78 :: v79 :: v80 :: v81 :: v82 :: v83 :: v84 :: v85 :: .bool ((((!(decide ((qp * (qk + qm)) = ((qp * qk) + (qp * qm))))) || (!(decide (((qk * qm) * qp) = (qk * (qm * qp)))))))) :: v87 :: v88 :: v89 :: v90 :: .bool (!decide (qk = 0)) :: v92 :: .bool (decide (qk = 0)) :: v94 :: v95 :: []) ++ us 23) ?_
    refine nx ?_
    refine wp_ret ?_
    change bodyPost Try.prog Try.f12 (Ret (.eq (.bool (true))) w) .ret _ _
    exact body_slot rfl (by show Value.bool _ = Value.bool _; rw [show (!(!decide (qk = 0))) = (true) from (by first | exact fieldZ hz | exact fieldC qm hz)]) rfl W33
  · refine wp_skip ?_
    change Code.wp _ _ _ ⟨_, []⟩ _
    refine wp_seq ?_
    refine rg (fun c d v a w h => NL c d v a w h) [(97, .rat (qm)), (98, .rat (qk)), (99, .rat (qm * qk)), (100, .rat (qk)), (101, .tup2 (.rat ((qm * qk) / qk)) (.eq (.bool (!decide (qk = 0))))), (96, .tup2 (.rat ((qm * qk) / qk)) (.eq (.bool (!decide (qk = 0))))), (102, .rat ((qm * qk) / qk)), (103, .eq (.bool (!decide (qk = 0)))), (14, .ptr 37 (.rat (0)))] [8] [7] [] 119 9 ?_ ?_
    · refine so [] (fun w34 hw34 => .fin (yld_loadBox rfl rfl aggRat (B8.grow hw34) (shRat _))) ?_
      refine so [] (fun w34 hw34 => .fin (yld_loadBox rfl rfl aggRat (B7.grow hw34) (shRat _))) ?_
      refine so [0, 1] (fun w34 hw34 => by rintro v97 h97 v98 h98; exact .fin (yld_call rfl cal_rat_Mul rfl (cRatMul h97 h98 (sz2 sm sk (by decide))))) ?_
      refine so [] (fun w34 hw34 => .fin (yld_loadBox rfl rfl aggRat (B7.grow hw34) (shRat _))) ?_
      refine so [2, 3] (fun w34 hw34 => by rintro v99 h99 v100 h100; exact .fin (yld_call rfl cal_rat_Div rfl (cRatDiv h99 h100 (szd (sb_mul sm sk) sk (by decide))))) ?_
      refine so [4] (fun w34 hw34 => by rintro _ ⟨x101_0, x101_1, rfl, hx101_0, hx101_1⟩; exact .fin (yld_move rfl ⟨Grow.refl _, ⟨x101_0, x101_1, rfl, hx101_0, hx101_1⟩⟩)) ?_
      refine so [5] (fun w34 hw34 => by rintro _ ⟨x96_0, x96_1, rfl, hx96_0, hx96_1⟩; exact .fin (yld_extract rfl rfl rfl ⟨Grow.refl _, hx96_0⟩)) ?_
      refine sl [5] (fun w34 hw34 => by rintro _ ⟨x96_0, x96_1, rfl, hx96_0, hx96_1⟩; exact .fin (⟨_, fun w2 _ => pure_extract rfl rfl rfl w2, hx96_1⟩)) ?_
      exact sn [] (fun w34 hw34 => .fin (yld_newAlloc rfl zeroRat zRat)) (.nil _ _)
    rintro w34 hw34 v97 - v98 - v99 - v100 - v101 - v96 - v102 h102 _ rfl _ ⟨b14, rfl, B14⟩ hN
    have W34 : Grow w w34 := W32.trans hw34
    have g_b14 : w.heap.size ≤ b14 := Nat.le_trans W32.size hN.1.1
    have n_b7_b14 : b7 ≠ b14 := Nat.ne_of_lt (Nat.lt_of_lt_of_le B7.lt hN.1.1)
    have n_b8_b14 : b8 ≠ b14 := Nat.ne_of_lt (Nat.lt_of_lt_of_le B8.lt hN.1.1)
    have n_b12_b14 : b12 ≠ b14 := Nat.ne_of_lt (Nat.lt_of_lt_of_le B12.lt hN.1.1)
    clear hN
    replace B7 := B7.grow hw34
    replace B8 := B8.grow hw34
    replace B12 := B12.grow hw34
    replace hk := MR.mono _ hw34 hk
    replace hm := MR.mono _ hw34 hm
    replace hp := MR.mono _ hw34 hp
    have KK : Kept [] w34 w34 := fun _ _ => rfl
    refine fr ((vk :: vm :: vp :: pt b3 :: pt b4 :: pt b5 :: .bool (false) :: pt b7 :: pt b8 :: pt b9 :: pt b10 :: pt b11 :: pt b12 :: .bool (!decide (qk = 0)) :: pt b14 :: u :: .bool (true) :: .bool (!true) :: v18 :: v19 :: v20 :: v21 :: v22 :: v23 :: v24 :: v25 :: v26 :: v27 :: v28 :: v29 :: v30 :: v31 :: v32 :: v33 :: .bool ((decide ((qm + qk) = (qk + qm)))) :: .bool ((!(decide ((qm + qk) = (qk + qm))))) :: .bool ((!(decide ((qm + qk) = (qk + qm))))) :: v37 :: v38 :: v39 :: v40 :: v41 :: v42 :: .bool ((((!(decide ((qm + qk) = (qk + qm)))) || (!(decide ((qm * qk) = (qk * qm))))))) :: .bool ((((!(decide ((qm + qk) = (qk + qm)))) || (!(decide ((qm * qk) = (qk * qm))))))) :: v45 :: v46 :: v47 :: v48 :: v49 :: .bool ((((((!(decide ((qm + qk) = (qk + qm)))) || (!(decide ((qm * qk) = (qk * qm)))))) || (!(decide ((qk - qk) = 0)))))) :: .bool ((((((!(decide ((qm + qk) = (qk + qm)))) || (!(decide ((qm * qk) = (qk * qm)))))) || (!(decide ((qk - qk) = 0)))))) :: v52 :: v53 :: v54 :: v55 :: v56 :: v57 :: v58 :: v59 :: v60 :: v61 :: .bool ((((((((!(decide ((qm + qk) = (qk + qm)))) || (!(decide ((qm * qk) = (qk * qm)))))) || (!(decide ((qk - qk) = 0))))) || (!(decide (((qk + qm) + qp) = (qk + (qm + qp)))))))) :: v63 :: v64 :: v65 :: v66 :: v67 :: v68 :: v69 :: v70 :: v71 :: v72 :: .bool ((decide ((qp * (qk + qm)) = ((qp * qk) + (qp * qm))))) :: .bool ((!(decide ((qp * (qk + qm)) = ((qp * qk) + (qp * qm)))))) :: .bool ((!(decide ((qp * (qk + qm)) = ((qp * qk) + (qp * qm)))))) :: v76 :: v77 :: v78 :: v79 :: v80 :: v81 :: v82 :: v83 :: v84 :: v85 :: .bool ((((!(decide ((qp * (qk + qm)) = ((qp * qk) + (qp * qm))))) || (!(decide (((qk * qm) * qp) = (qk * (qm * qp)))))))) :: v87 :: v88 :: v89 :: v90 :: .bool (!decide (qk = 0)) :: v92 :: .bool (decide (qk = 0)) :: u :: u :: v96 :: v97 :: v98 :: v99 :: v100 :: v101 :: v102 :: .bool (!decide (qk = 0)) :: []) ++ us 15) ?_
    change wpListS _ _ _ _ [_, _] ⟨_, []⟩ _
    refine wpListS_yld rfl ?_
    refine yld_storeBox (R' := .rat ((qm * qk) / qk)) (b := b14) rfl rfl aggRat.size B14 (shRat _) h102 (shRat _) (St.rat _) (by decide) g_b14 fun w35 P35 E35 B' => ⟨fun _ => Kept.put KK P35 (fun _ hk => (by cases hk)), ?_⟩
    replace KK := Kept.put KK P35 (fun _ hk => (by cases hk))
    have W35 : Grow w w35 := W34.put P35 g_b14
    replace B7 := B7.put (St.rat _) P35 E35 n_b7_b14
    replace B8 := B8.put (St.rat _) P35 E35 n_b8_b14
    replace B12 := B12.put (St.rat _) P35 E35 n_b12_b14
    replace B14 := B'; clear B'
    replace hk := MR.put hk (St.part hB) E35
    replace hm := MR.put hm (St.part hB) E35
    replace hp := MR.put hp (St.part hB) E35
    change wpListS _ _ _ _ [_] ⟨_, []⟩ _
    refine wpListS_yld rfl ?_
    refine yld_assign rfl ⟨fun _ => KK, ?_⟩
    refine wpListS_nil ?_
    change Code.wp _ _ _ ⟨List.toArray (List.set _ 15 _), []⟩ _
    refine wp_seq ?_
    obtain ⟨x37, ex37⟩ : ∃ c : Bool, c = (!decide (qk = 0)) := ⟨_, rfl⟩
    obtain ⟨x38, ex38⟩ : ∃ c : Bool, c = (decide ((qk * ((qk)⁻¹)) = Rat.divInt 1 1)) := ⟨_, rfl⟩
    obtain ⟨x39, ex39⟩ : ∃ c : Bool, c = ((x37 && x38)) := ⟨_, rfl⟩
    obtain ⟨x40, ex40⟩ : ∃ c : Bool, c = (!decide (qk = 0)) := ⟨_, rfl⟩
    obtain ⟨x41, ex41⟩ : ∃ c : Bool, c = ((x39 && x40)) := ⟨_, rfl⟩
    obtain ⟨x42, ex42⟩ : ∃ c : Bool, c = (decide (((qm * qk) / qk) = qm)) := ⟨_, rfl⟩
    obtain ⟨x43, ex43⟩ : ∃ c : Bool, c = ((x41 && x42)) := ⟨_, rfl⟩
    refine rg (fun c d v a w h => NL c d v a w h) [(104, .eq (.bool (x37))), (105, .eq (.bool (x37))), (106, .opt ((x37 == true)) (.rat (qk))), (107, .opt ((x37 == true)) (.rat ((qk)⁻¹))), (108, .opt ((x37 == true)) (.rat (qk * ((qk)⁻¹)))), (109, .opt ((x37 == true)) (.eq (.bool (x38)))), (110, .eq (.bool (x39))), (111, .eq (.bool (x39))), (112, .opt ((x39 == true)) (.eq (.bool (x40)))), (113, .eq (.bool (x41))), (114, .eq (.bool (x41))), (115, .opt ((x41 == true)) (.rat ((qm * qk) / qk))), (116, .opt ((x41 == true)) (.rat (qm))), (117, .opt ((x41 == true)) (.eq (.bool (x42)))), (118, .eq (.bool (x43))), (6, .eq (.bool (x43)))] [] [] [] 119 16 ?_ ?_
    · refine so [] (fun w36 hw36 => .fin (yld_eqTo (c := .bool (!decide (qk = 0))) (yld_move rfl ⟨Grow.refl _, rfl⟩) (congrArg Value.bool ex37.symm))) ?_
      refine so [0] (fun w36 hw36 => by rintro _ rfl; exact .fin (yld_move rfl ⟨Grow.refl _, rfl⟩)) ?_
      refine sg (c := (x37 == true)) 105 [1] (fun w36 hw36 => by rintro _ rfl; exact .fin (⟨guard_eq, fun hc => yld_loadBox rfl rfl aggRat (B7.grow hw36) (shRat _)⟩)) ?_
      refine sg (c := (x37 == true)) 105 [1] (fun w36 hw36 => by rintro _ rfl; exact .fin (⟨guard_eq, fun hc => yld_loadBox rfl rfl aggRat (B12.grow hw36) (shRat _)⟩)) ?_
      refine sg (c := (x37 == true)) 105 [1, 2, 3] (fun w36 hw36 => by rintro _ rfl v106 h106 v107 h107; exact .fin (⟨guard_eq, fun hc => yld_call rfl cal_rat_Mul rfl (cRatMul (h106.1 (by revert hc; exact fun h => h)) (h107.1 (by revert hc; exact fun h => h)) (sz2 sk (sb_inv sk) (by decide)))⟩)) ?_
      refine sg (c := (x37 == true)) 105 [1, 4] (fun w36 hw36 => by rintro _ rfl v108 h108; exact .fin (⟨guard_eq, fun hc => yld_eqTo (c := .bool (decide ((qk * ((qk)⁻¹)) = Rat.divInt 1 1))) (yld_call rfl cal_actuarylaw08_Is rfl (cIs8 (h108.1 (by revert hc; exact fun h => h)) (by decide) (by decide) (by decide) (by decide) (by decide) (sz1 (sb_mul sk (sb_inv sk)) (by decide)))) (congrArg Value.bool ex38.symm)⟩)) ?_
      refine so [1, 5] (fun w36 hw36 => by rintro _ rfl v109 h109; exact .fin (yld_eqTo (c := .bool ((x37 && x38))) (yld_pick_and rfl rfl (fun ht => h109.1 (by revert ht; cases x37 <;> decide)) rfl ⟨Grow.refl _, rfl⟩) (congrArg Value.bool ex39.symm))) ?_
      refine so [6] (fun w36 hw36 => by rintro _ rfl; exact .fin (yld_move rfl ⟨Grow.refl _, rfl⟩)) ?_
      refine sg (c := (x39 == true)) 111 [7] (fun w36 hw36 => by rintro _ rfl; exact .fin (⟨guard_eq, fun hc => yld_eqTo (c := .bool (!decide (qk = 0))) (yld_move rfl ⟨Grow.refl _, rfl⟩) (congrArg Value.bool ex40.symm)⟩)) ?_
      refine so [7, 8] (fun w36 hw36 => by rintro _ rfl v112 h112; exact .fin (yld_eqTo (c := .bool ((x39 && x40))) (yld_pick_and rfl rfl (fun ht => h112.1 (by revert ht; cases x39 <;> decide)) rfl ⟨Grow.refl _, rfl⟩) (congrArg Value.bool ex41.symm))) ?_
      refine so [9] (fun w36 hw36 => by rintro _ rfl; exact .fin (yld_move rfl ⟨Grow.refl _, rfl⟩)) ?_
      refine sg (c := (x41 == true)) 114 [10] (fun w36 hw36 => by rintro _ rfl; exact .fin (⟨guard_eq, fun hc => yld_loadBox rfl rfl aggRat (B14.grow hw36) (shRat _)⟩)) ?_
      refine sg (c := (x41 == true)) 114 [10] (fun w36 hw36 => by rintro _ rfl; exact .fin (⟨guard_eq, fun hc => yld_loadBox rfl rfl aggRat (B8.grow hw36) (shRat _)⟩)) ?_
      refine sg (c := (x41 == true)) 114 [10, 11, 12] (fun w36 hw36 => by rintro _ rfl v115 h115 v116 h116; exact .fin (⟨guard_eq, fun hc => yld_eqTo (c := .bool (decide (((qm * qk) / qk) = qm))) (yld_call rfl cal_rat_Same rfl (cRatSame (h115.1 (by revert hc; exact fun h => h)) (h116.1 (by revert hc; exact fun h => h)) (sz2 (sb_div (sb_mul sm sk) sk) sm (by decide)))) (congrArg Value.bool ex42.symm)⟩)) ?_
      refine so [10, 13] (fun w36 hw36 => by rintro _ rfl v117 h117; exact .fin (yld_eqTo (c := .bool ((x41 && x42))) (yld_pick_and rfl rfl (fun ht => h117.1 (by revert ht; cases x41 <;> decide)) rfl ⟨Grow.refl _, rfl⟩) (congrArg Value.bool ex43.symm))) ?_
      exact so [14] (fun w36 hw36 => by rintro _ rfl; exact .fin (yld_assign rfl ⟨Grow.refl _, rfl⟩)) (.nil _ _)
    rintro w36 hw36 _ rfl _ rfl v106 - v107 - v108 - v109 - _ rfl _ rfl v112 - _ rfl _ rfl v115 - v116 - v117 - _ rfl _ rfl -
    have W36 : Grow w w36 := W35.trans hw36
    replace hk := MR.mono _ hw36 hk
    replace hm := MR.mono _ hw36 hm
    replace hp := MR.mono _ hw36 hp
    subst ex37
    subst ex38
    subst ex39
    subst ex40
    subst ex41
    subst ex42
    subst ex43
    refine fr (vk :: vm :: vp :: pt b3 :: pt b4 :: pt b5 :: .bool ((((((((!decide (qk = 0)) && (decide ((qk * ((qk)⁻¹)) = Rat.divInt 1 1)))) && (!decide (qk = 0)))) && (decide (((qm * qk) / qk) = qm))))) :: pt b7 :: pt b8 :: pt b9 :: pt b10 :: pt b11 :: pt b12 :: .bool (!decide (qk = 0)) :: pt b14 :: .bool (!decide (qk = 0)) :: .bool (true) :: .bool (!true) :: v18 :: v19 :: v20 :: v21 :: v22 :: v23 :: v24 :: v25 :: v26 :: v27 :: v28 :: v29 :: v30 :: v31 :: v32 :: v33 :: .bool ((decide ((qm + qk) = (qk + qm)))) :: .bool ((!(decide ((qm + qk) = (qk + qm))))) :: .bool ((!(decide ((qm + qk) = (qk + qm))))) :: v37 :: v38 :: v39 :: v40 :: v41 :: v42 :: .bool ((((!(decide ((qm + qk) = (qk + qm)))) || (!(decide ((qm * qk) = (qk * qm))))))) :: .bool ((((!(decide ((qm + qk) = (qk + qm)))) || (!(decide ((qm * qk) = (qk * qm))))))) :: v45 :: v46 :: v47 :: v48 :: v49 :: .bool ((((((!(decide ((qm + qk) = (qk + qm)))) || (!(decide ((qm * qk) = (qk * qm)))))) || (!(decide ((qk - qk) = 0)))))) :: .bool ((((((!(decide ((qm + qk) = (qk + qm)))) || (!(decide ((qm * qk) = (qk * qm)))))) || (!(decide ((qk - qk) = 0)))))) :: v52 :: v53 :: v54 :: v55 :: v56 :: v57 :: v58 :: v59 :: v60 :: v61 :: .bool ((((((((!(decide ((qm + qk) = (qk + qm)))) || (!(decide ((qm * qk) = (qk * qm)))))) || (!(decide ((qk - qk) = 0))))) || (!(decide (((qk + qm) + qp) = (qk + (qm + qp)))))))) :: v63 :: v64 :: v65 :: v66 :: v67 :: v68 :: v69 :: v70 :: v71 :: v72 :: .bool ((decide ((qp * (qk + qm)) = ((qp * qk) + (qp * qm))))) :: .bool ((!(decide ((qp * (qk + qm)) = ((qp * qk) + (qp * qm)))))) :: .bool ((!(decide ((qp * (qk + qm)) = ((qp * qk) + (qp * qm)))))) :: v76 :: v77 :: v78 :: v79 :: v80 :: v81 :: v82 :: v83 :: v84 :: v85 :: .bool ((((!(decide ((qp * (qk + qm)) = ((qp * qk) + (qp * qm))))) || (!(decide (((qk * qm) * qp) = (qk * (qm * qp)))))))) :: v87 :: v88 :: v89 :: v90 :: .bool (!decide (qk = 0)) :: v92 :: .bool (decide (qk = 0)) :: u :: u :: v96 :: v97 :: v98 :: v99 :: v100 :: v101 :: v102 :: .bool (!decide (qk = 0)) :: .bool ((!decide (qk = 0))) :: .bool ((!decide (qk = 0))) :: v106 :: v107 :: v108 :: v109 :: .bool ((((!decide (qk = 0)) && (decide ((qk * ((qk)⁻¹)) = Rat.divInt 1 1))))) :: .bool ((((!decide (qk = 0)) && (decide ((qk * ((qk)⁻¹)) = Rat.divInt 1 1))))) :: v112 :: .bool ((((((!decide (qk = 0)) && (decide ((qk * ((qk)⁻¹)) = Rat.divInt 1 1)))) && (!decide (qk = 0))))) :: .bool ((((((!decide (qk = 0)) && (decide ((qk * ((qk)⁻¹)) = Rat.divInt 1 1)))) && (!decide (qk = 0))))) :: v115 :: v116 :: v117 :: .bool ((((((((!decide (qk = 0)) && (decide ((qk * ((qk)⁻¹)) = Rat.divInt 1 1)))) && (!decide (qk = 0)))) && (decide (((qm * qk) / qk) = qm))))) :: []) ?_
    refine nx ?_
    refine wp_ret ?_
    change bodyPost Try.prog Try.f12 (Ret (.eq (.bool (true))) w) .ret _ _
    exact body_slot rfl (by show Value.bool _ = Value.bool _; rw [show ((((((((!decide (qk = 0)) && (decide ((qk * ((qk)⁻¹)) = Rat.divInt 1 1)))) && (!decide (qk = 0)))) && (decide (((qm * qk) / qk) = qm))))) = (true) from (by first | exact fieldZ hz | exact fieldC qm hz)]) rfl W36
end Go.Proofs.Ytknflfnkdieomaa
