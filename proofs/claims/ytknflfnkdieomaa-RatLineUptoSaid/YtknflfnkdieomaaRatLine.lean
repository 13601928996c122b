/- actuarylaw08.RatLine, its walk. -/
import Derived.Test.YtknflfnkdieomaaAwake8
import Derived.Test.YtknflfnkdieomaaRatL
namespace Go.Proofs.Ytknflfnkdieomaa
open Go.RowKit
theorem cal_actuarylaw08_awake : Callable Try.prog 20 := callable_of Try.func20 rfl (by kernel_rfl)
theorem cal_rat_Rat_Sign : Callable Try.prog 27 := callable_of Try.func27 rfl (by kernel_rfl)
theorem cal_actuarylaw08_Make : Callable Try.prog 30 := callable_of Try.func30 rfl (by kernel_rfl)
set_option maxRecDepth 100000 in
set_option maxHeartbeats 2000000 in
theorem ratLine {B : Nat} {bk : Bool} {fk gk : Nat → Nat} {nk mk : Nat} {bl : Bool} {fl gl : Nat → Nat} {nl ml : Nat} {bm : Bool} {fm gm : Nat → Nat} {nm mm : Nat} {vk : Value} {vl : Value} {vm : Value} {w : World} (hB : B ≤ w.heap.size) (hk : (MR.part (B) (bk) (fk) (nk) (gk) (mk)).R w vk) (hl : (MR.part (B) (bl) (fl) (nl) (gl) (ml)).R w vl) (hm : (MR.part (B) (bm) (fm) (nm) (gm) (mm)).R w vm) (wfk : Wf fk nk) (hnk : nk ≤ 1048576) (wgk : Wf gk mk) (hmk : mk ≤ 1048576) (wfl : Wf fl nl) (hnl : nl ≤ 1048576) (wgl : Wf gl ml) (hml : ml ≤ 1048576) (wfm : Wf fm nm) (hnm : nm ≤ 1048576) (wgm : Wf gm mm) (hmm : mm ≤ 1048576) : Calls Try.prog 8 #[vk, vl, vm] w (Ret (.eq (.bool (true))) w) := by
  obtain ⟨qk, ek⟩ : ∃ q, q = partQ bk fk nk gk mk := ⟨_, rfl⟩
  have sk : szq qk ≤ 2097153 := by rw [ek]; exact Nat.le_trans (szq_part wfk wgk) (by omega)
  obtain ⟨ql, el⟩ : ∃ q, q = partQ bl fl nl gl ml := ⟨_, rfl⟩
  have sl : szq ql ≤ 2097153 := by rw [el]; exact Nat.le_trans (szq_part wfl wgl) (by omega)
  obtain ⟨qm, em⟩ : ∃ q, q = partQ bm fm nm gm mm := ⟨_, rfl⟩
  have sm : szq qm ≤ 2097153 := by rw [em]; exact Nat.le_trans (szq_part wfm wgm) (by omega)
  refine calls_enter (a := ⟨(List.toArray (vk :: vl :: vm :: undef :: undef :: undef :: undef :: undef :: undef :: undef :: undef :: undef :: undef :: undef :: undef :: undef :: undef :: undef :: undef :: undef :: undef :: undef :: undef :: undef :: undef :: undef :: undef :: undef :: undef :: undef :: undef :: undef :: undef :: undef :: undef :: undef :: undef :: undef :: undef :: undef :: undef :: undef :: undef :: undef :: undef :: undef :: undef :: undef :: undef :: undef :: undef :: undef :: undef :: undef :: undef :: undef :: undef :: undef :: undef :: undef :: undef :: undef :: undef :: undef :: undef :: undef :: undef :: [])), []⟩) Try.func8 rfl (by kernel_rfl) ?_
  have NL : NoLook (bodyPost Try.prog Try.f8 (Ret (.eq (.bool (true))) w)) := noLook_body
  refine wp_seq ?_
  refine rg (fun c d v a w h => NL c d v a w h) [(3, .ptr 54 (.part (B) (bk) (fk) (nk) (gk) (mk))), (4, .ptr 54 (.part (B) (bl) (fl) (nl) (gl) (ml))), (5, .ptr 54 (.part (B) (bm) (fm) (nm) (gm) (mm))), (6, .eq (.bool (false)))] [0, 1, 2] [] [] 67 4 ?_ ?_
  · refine sn [] (fun w1 hw1 => ?_) ?_
    · exact .fin (yld_newBox rfl rfl (MR.mono _ hw1 hk))
    refine sn [] (fun w1 hw1 => ?_) ?_
    · exact .fin (yld_newBox rfl rfl (MR.mono _ hw1 hl))
    refine sn [] (fun w1 hw1 => ?_) ?_
    · exact .fin (yld_newBox rfl rfl (MR.mono _ hw1 hm))
    refine so [] (fun w1 hw1 => ?_) (.nil _ _)
    exact .fin (yld_assign rfl ⟨Grow.refl _, rfl⟩)
  rintro w1 hw1 _ ⟨b3, rfl, B3⟩ _ ⟨b4, rfl, B4⟩ _ ⟨b5, rfl, B5⟩ _ rfl hN
  have W1 : Grow w w1 := (Grow.refl w).trans hw1
  have g_b3 : w.heap.size ≤ b3 := Nat.le_trans (Grow.refl w).size hN.1.1
  have n_b3_b4 : b3 ≠ b4 := hN.2.1 1 (by simp)
  have n_b3_b5 : b3 ≠ b5 := hN.2.1 2 (by simp)
  have g_b4 : w.heap.size ≤ b4 := Nat.le_trans (Grow.refl w).size hN.2.2.1.1
  have n_b4_b5 : b4 ≠ b5 := hN.2.2.2.1 2 (by simp)
  have g_b5 : w.heap.size ≤ b5 := Nat.le_trans (Grow.refl w).size hN.2.2.2.2.1.1
  clear hN
  replace hk := MR.mono _ hw1 hk
  replace hl := MR.mono _ hw1 hl
  replace hm := MR.mono _ hw1 hm
  refine fr (vk :: vl :: vm :: .pointer (some ⟨b3, 0, none⟩) :: .pointer (some ⟨b4, 0, none⟩) :: .pointer (some ⟨b5, 0, none⟩) :: .bool (false) :: undef :: undef :: undef :: undef :: undef :: undef :: undef :: undef :: undef :: undef :: undef :: undef :: undef :: undef :: undef :: undef :: undef :: undef :: undef :: undef :: undef :: undef :: undef :: undef :: undef :: undef :: undef :: undef :: undef :: undef :: undef :: undef :: undef :: undef :: undef :: undef :: undef :: undef :: undef :: undef :: undef :: undef :: undef :: undef :: undef :: undef :: undef :: undef :: undef :: undef :: undef :: undef :: undef :: undef :: undef :: undef :: undef :: undef :: undef :: undef :: []) ?_
  refine wpListS_nil ?_
  change Code.wp _ _ _ ⟨_, []⟩ _
  refine wp_seq ?_
  refine wp_seq ?_
  refine rg (fun c d v a w h => NL c d v a w h) [(11, .eq (.bool (true))), (12, .eq (.bool (!true)))] [] [] [] 67 2 ?_ ?_
  · refine so [] (fun w2 hw2 => ?_) ?_
    · exact .fin (yld_call rfl cal_actuarylaw08_awake rfl (cAwake8))
    refine so [(11, .eq (.bool (true)))] (fun w2 hw2 => ?_) (.nil _ _)
    rintro _ rfl; exact .fin (yld_not rfl rfl ⟨Grow.refl _, rfl⟩)
  rintro w2 hw2 _ rfl _ rfl -
  have W2 : Grow w w2 := W1.trans hw2
  replace B3 := B3.grow hw2
  replace B4 := B4.grow hw2
  replace B5 := B5.grow hw2
  replace hk := MR.mono _ hw2 hk
  replace hl := MR.mono _ hw2 hl
  replace hm := MR.mono _ hw2 hm
  refine fr (vk :: vl :: vm :: .pointer (some ⟨b3, 0, none⟩) :: .pointer (some ⟨b4, 0, none⟩) :: .pointer (some ⟨b5, 0, none⟩) :: .bool (false) :: undef :: undef :: undef :: undef :: .bool (true) :: .bool (!true) :: undef :: undef :: undef :: undef :: undef :: undef :: undef :: undef :: undef :: undef :: undef :: undef :: undef :: undef :: undef :: undef :: undef :: undef :: undef :: undef :: undef :: undef :: undef :: undef :: undef :: undef :: undef :: undef :: undef :: undef :: undef :: undef :: undef :: undef :: undef :: undef :: undef :: undef :: undef :: undef :: undef :: undef :: undef :: undef :: undef :: undef :: undef :: undef :: undef :: undef :: undef :: undef :: undef :: undef :: []) ?_
  refine wpListS_nil ?_
  change Code.wp _ _ _ ⟨_, []⟩ _
  refine wp_cond_false rfl ?_
  refine wp_skip ?_
  change Code.wp _ _ _ ⟨_, []⟩ _
  refine wp_seq ?_
  refine rg (fun c d v a w h => NL c d v a w h) [(13, .part (B) (bk) (fk) (nk) (gk) (mk)), (14, .rat (qk)), (15, .part (B) (bl) (fl) (nl) (gl) (ml)), (16, .rat (ql)), (17, .part (B) (bm) (fm) (nm) (gm) (mm)), (18, .rat (qm)), (7, .ptr 37 (.rat (0))), (8, .ptr 37 (.rat (0))), (9, .ptr 37 (.rat (0)))] [6, 7, 8] [] [] 67 9 ?_ ?_
  · refine so [] (fun w3 hw3 => ?_) ?_
    · exact .fin (yld_loadBox rfl rfl aggPart (B3.grow hw3) (shPart))
    refine so [(13, .part (B) (bk) (fk) (nk) (gk) (mk))] (fun w3 hw3 => ?_) ?_
    · rintro v13 h13; exact .fin (yld_as (R := .rat (partQ bk fk nk gk mk)) (R2 := .rat (qk)) (yld_call rfl cal_actuarylaw08_Make rfl (cMake8 (Nat.le_trans hB (Grow.trans W2 hw3).size) h13 wfk hnk wgk hmk)) (fun h => ek ▸ h))
    refine so [] (fun w3 hw3 => ?_) ?_
    · exact .fin (yld_loadBox rfl rfl aggPart (B4.grow hw3) (shPart))
    refine so [(15, .part (B) (bl) (fl) (nl) (gl) (ml))] (fun w3 hw3 => ?_) ?_
    · rintro v15 h15; exact .fin (yld_as (R := .rat (partQ bl fl nl gl ml)) (R2 := .rat (ql)) (yld_call rfl cal_actuarylaw08_Make rfl (cMake8 (Nat.le_trans hB (Grow.trans W2 hw3).size) h15 wfl hnl wgl hml)) (fun h => el ▸ h))
    refine so [] (fun w3 hw3 => ?_) ?_
    · exact .fin (yld_loadBox rfl rfl aggPart (B5.grow hw3) (shPart))
    refine so [(17, .part (B) (bm) (fm) (nm) (gm) (mm))] (fun w3 hw3 => ?_) ?_
    · rintro v17 h17; exact .fin (yld_as (R := .rat (partQ bm fm nm gm mm)) (R2 := .rat (qm)) (yld_call rfl cal_actuarylaw08_Make rfl (cMake8 (Nat.le_trans hB (Grow.trans W2 hw3).size) h17 wfm hnm wgm hmm)) (fun h => em ▸ h))
    refine sn [] (fun w3 hw3 => ?_) ?_
    · exact .fin (yld_newAlloc rfl zeroRat zRat)
    refine sn [] (fun w3 hw3 => ?_) ?_
    · exact .fin (yld_newAlloc rfl zeroRat zRat)
    refine sn [] (fun w3 hw3 => ?_) (.nil _ _)
    exact .fin (yld_newAlloc rfl zeroRat zRat)
  rintro w3 hw3 v13 - v14 h14 v15 - v16 h16 v17 - v18 h18 _ ⟨b7, rfl, B7⟩ _ ⟨b8, rfl, B8⟩ _ ⟨b9, rfl, B9⟩ hN
  have W3 : Grow w w3 := W2.trans hw3
  replace h14 : (MR.rat (qk)).R w3 v14 := h14
  replace h16 : (MR.rat (ql)).R w3 v16 := h16
  replace h18 : (MR.rat (qm)).R w3 v18 := h18
  have g_b7 : w.heap.size ≤ b7 := Nat.le_trans W2.size hN.1.1
  have n_b3_b7 : b3 ≠ b7 := Nat.ne_of_lt (Nat.lt_of_lt_of_le B3.lt hN.1.1)
  have n_b4_b7 : b4 ≠ b7 := Nat.ne_of_lt (Nat.lt_of_lt_of_le B4.lt hN.1.1)
  have n_b5_b7 : b5 ≠ b7 := Nat.ne_of_lt (Nat.lt_of_lt_of_le B5.lt hN.1.1)
  have n_b7_b8 : b7 ≠ b8 := hN.2.1 7 (by simp)
  have n_b7_b9 : b7 ≠ b9 := hN.2.1 8 (by simp)
  have g_b8 : w.heap.size ≤ b8 := Nat.le_trans W2.size hN.2.2.1.1
  have n_b3_b8 : b3 ≠ b8 := Nat.ne_of_lt (Nat.lt_of_lt_of_le B3.lt hN.2.2.1.1)
  have n_b4_b8 : b4 ≠ b8 := Nat.ne_of_lt (Nat.lt_of_lt_of_le B4.lt hN.2.2.1.1)
  have n_b5_b8 : b5 ≠ b8 := Nat.ne_of_lt (Nat.lt_of_lt_of_le B5.lt hN.2.2.1.1)
  have n_b8_b9 : b8 ≠ b9 := hN.2.2.2.1 8 (by simp)
  have g_b9 : w.heap.size ≤ b9 := Nat.le_trans W2.size hN.2.2.2.2.1.1
  have n_b3_b9 : b3 ≠ b9 := Nat.ne_of_lt (Nat.lt_of_lt_of_le B3.lt hN.2.2.2.2.1.1)
  have n_b4_b9 : b4 ≠ b9 := Nat.ne_of_lt (Nat.lt_of_lt_of_le B4.lt hN.2.2.2.2.1.1)
  have n_b5_b9 : b5 ≠ b9 := Nat.ne_of_lt (Nat.lt_of_lt_of_le B5.lt hN.2.2.2.2.1.1)
  clear hN
  replace B3 := B3.grow hw3
  replace B4 := B4.grow hw3
  replace B5 := B5.grow hw3
  replace hk := MR.mono _ hw3 hk
  replace hl := MR.mono _ hw3 hl
  replace hm := MR.mono _ hw3 hm
  have KK : Kept [] w3 w3 := fun _ _ => rfl
  refine fr (vk :: vl :: vm :: .pointer (some ⟨b3, 0, none⟩) :: .pointer (some ⟨b4, 0, none⟩) :: .pointer (some ⟨b5, 0, none⟩) :: .bool (false) :: .pointer (some ⟨b7, 0, none⟩) :: .pointer (some ⟨b8, 0, none⟩) :: .pointer (some ⟨b9, 0, none⟩) :: undef :: .bool (true) :: .bool (!true) :: v13 :: v14 :: v15 :: v16 :: v17 :: v18 :: undef :: undef :: undef :: undef :: undef :: undef :: undef :: undef :: undef :: undef :: undef :: undef :: undef :: undef :: undef :: undef :: undef :: undef :: undef :: undef :: undef :: undef :: undef :: undef :: undef :: undef :: undef :: undef :: undef :: undef :: undef :: undef :: undef :: undef :: undef :: undef :: undef :: undef :: undef :: undef :: undef :: undef :: undef :: undef :: undef :: undef :: undef :: undef :: []) ?_
  change wpListS _ _ _ _ [_, _, _] ⟨_, []⟩ _
  refine wpListS_yld rfl ?_
  refine yld_storeBox (R' := .rat (qk)) (b := b7) rfl rfl aggRat.size B7 (shRat _) h14 (shRat _) (St.rat _) (by decide) g_b7 fun w4 P4 E4 B' => ⟨fun _ => Kept.put KK P4 (fun _ hk => (by cases hk)), ?_⟩
  replace KK := Kept.put KK P4 (fun _ hk => (by cases hk))
  have W4 : Grow w w4 := W3.put P4 g_b7
  replace B3 := B3.put (St.part hB) P4 E4 n_b3_b7
  replace B4 := B4.put (St.part hB) P4 E4 n_b4_b7
  replace B5 := B5.put (St.part hB) P4 E4 n_b5_b7
  replace B8 := B8.put (St.rat _) P4 E4 (Ne.symm n_b7_b8)
  replace B9 := B9.put (St.rat _) P4 E4 (Ne.symm n_b7_b9)
  replace B7 := B'; clear B'
  replace hk := MR.put hk (St.part hB) E4
  replace hl := MR.put hl (St.part hB) E4
  replace hm := MR.put hm (St.part hB) E4
  replace h14 := MR.put h14 (St.rat _) E4
  replace h16 := MR.put h16 (St.rat _) E4
  replace h18 := MR.put h18 (St.rat _) E4
  change wpListS _ _ _ _ [_, _] ⟨_, []⟩ _
  refine wpListS_yld rfl ?_
  refine yld_storeBox (R' := .rat (ql)) (b := b8) rfl rfl aggRat.size B8 (shRat _) h16 (shRat _) (St.rat _) (by decide) g_b8 fun w5 P5 E5 B' => ⟨fun _ => Kept.put KK P5 (fun _ hk => (by cases hk)), ?_⟩
  replace KK := Kept.put KK P5 (fun _ hk => (by cases hk))
  have W5 : Grow w w5 := W4.put P5 g_b8
  replace B3 := B3.put (St.part hB) P5 E5 n_b3_b8
  replace B4 := B4.put (St.part hB) P5 E5 n_b4_b8
  replace B5 := B5.put (St.part hB) P5 E5 n_b5_b8
  replace B7 := B7.put (St.rat _) P5 E5 n_b7_b8
  replace B9 := B9.put (St.rat _) P5 E5 (Ne.symm n_b8_b9)
  replace B8 := B'; clear B'
  replace hk := MR.put hk (St.part hB) E5
  replace hl := MR.put hl (St.part hB) E5
  replace hm := MR.put hm (St.part hB) E5
  replace h14 := MR.put h14 (St.rat _) E5
  replace h16 := MR.put h16 (St.rat _) E5
  replace h18 := MR.put h18 (St.rat _) E5
  change wpListS _ _ _ _ [_] ⟨_, []⟩ _
  refine wpListS_yld rfl ?_
  refine yld_storeBox (R' := .rat (qm)) (b := b9) rfl rfl aggRat.size B9 (shRat _) h18 (shRat _) (St.rat _) (by decide) g_b9 fun w6 P6 E6 B' => ⟨fun _ => Kept.put KK P6 (fun _ hk => (by cases hk)), ?_⟩
  replace KK := Kept.put KK P6 (fun _ hk => (by cases hk))
  have W6 : Grow w w6 := W5.put P6 g_b9
  replace B3 := B3.put (St.part hB) P6 E6 n_b3_b9
  replace B4 := B4.put (St.part hB) P6 E6 n_b4_b9
  replace B5 := B5.put (St.part hB) P6 E6 n_b5_b9
  replace B7 := B7.put (St.rat _) P6 E6 n_b7_b9
  replace B8 := B8.put (St.rat _) P6 E6 n_b8_b9
  replace B9 := B'; clear B'
  replace hk := MR.put hk (St.part hB) E6
  replace hl := MR.put hl (St.part hB) E6
  replace hm := MR.put hm (St.part hB) E6
  replace h14 := MR.put h14 (St.rat _) E6
  replace h16 := MR.put h16 (St.rat _) E6
  replace h18 := MR.put h18 (St.rat _) E6
  refine wpListS_nil ?_
  change Code.wp _ _ _ ⟨_, []⟩ _
  refine wp_seq ?_
  refine rg (fun c d v a w h => NL c d v a w h) [(19, .rat (qk)), (20, .rat (ql)), (21, .eq (.int .i64 (cmpQ qk ql))), (10, .eq (.int .i64 (cmpQ qk ql)))] [] [] [] 67 4 ?_ ?_
  · refine so [] (fun w7 hw7 => ?_) ?_
    · exact .fin (yld_loadBox rfl rfl aggRat (B7.grow hw7) (shRat _))
    refine so [] (fun w7 hw7 => ?_) ?_
    · exact .fin (yld_loadBox rfl rfl aggRat (B8.grow hw7) (shRat _))
    refine so [(19, .rat (qk)), (20, .rat (ql))] (fun w7 hw7 => ?_) ?_
    · rintro v19 h19 v20 h20; exact .fin (yld_call rfl cal_rat_Cmp rfl (cRatCmp h19 h20 (sz2 sk sl (by decide))))
    refine so [(21, .eq (.int .i64 (cmpQ qk ql)))] (fun w7 hw7 => ?_) (.nil _ _)
    rintro _ rfl; exact .fin (yld_assign rfl ⟨Grow.refl _, rfl⟩)
  rintro w7 hw7 v19 - v20 - v21 - _ rfl -
  have W7 : Grow w w7 := W6.trans hw7
  replace B3 := B3.grow hw7
  replace B4 := B4.grow hw7
  replace B5 := B5.grow hw7
  replace B7 := B7.grow hw7
  replace B8 := B8.grow hw7
  replace B9 := B9.grow hw7
  replace hk := MR.mono _ hw7 hk
  replace hl := MR.mono _ hw7 hl
  replace hm := MR.mono _ hw7 hm
  replace h14 := MR.mono _ hw7 h14
  replace h16 := MR.mono _ hw7 h16
  replace h18 := MR.mono _ hw7 h18
  refine fr (vk :: vl :: vm :: .pointer (some ⟨b3, 0, none⟩) :: .pointer (some ⟨b4, 0, none⟩) :: .pointer (some ⟨b5, 0, none⟩) :: .bool (false) :: .pointer (some ⟨b7, 0, none⟩) :: .pointer (some ⟨b8, 0, none⟩) :: .pointer (some ⟨b9, 0, none⟩) :: .int .i64 (cmpQ qk ql) :: .bool (true) :: .bool (!true) :: v13 :: v14 :: v15 :: v16 :: v17 :: v18 :: v19 :: v20 :: v21 :: undef :: undef :: undef :: undef :: undef :: undef :: undef :: undef :: undef :: undef :: undef :: undef :: undef :: undef :: undef :: undef :: undef :: undef :: undef :: undef :: undef :: undef :: undef :: undef :: undef :: undef :: undef :: undef :: undef :: undef :: undef :: undef :: undef :: undef :: undef :: undef :: undef :: undef :: undef :: undef :: undef :: undef :: undef :: undef :: undef :: []) ?_
  refine wpListS_nil ?_
  change Code.wp _ _ _ ⟨_, []⟩ _
  refine wp_seq ?_
  refine wp_seq ?_
  obtain ⟨x9, ex9⟩ : ∃ c : Bool, c = ((cmpQ qk ql : Int) != (-(cmpQ ql qk) : Int)) := ⟨_, rfl⟩
  obtain ⟨x10, ex10⟩ : ∃ c : Bool, c = (decide ((cmpQ qk ql : Int) ≤ (0 : Int))) := ⟨_, rfl⟩
  obtain ⟨x11, ex11⟩ : ∃ c : Bool, c = (decide ((cmpQ ql qm : Int) ≤ (0 : Int))) := ⟨_, rfl⟩
  obtain ⟨x12, ex12⟩ : ∃ c : Bool, c = ((x10 && x11)) := ⟨_, rfl⟩
  obtain ⟨x13, ex13⟩ : ∃ c : Bool, c = (decide ((cmpQ qk qm : Int) > (0 : Int))) := ⟨_, rfl⟩
  obtain ⟨x14, ex14⟩ : ∃ c : Bool, c = ((x12 && x13)) := ⟨_, rfl⟩
  obtain ⟨x15, ex15⟩ : ∃ c : Bool, c = ((x9 || x14)) := ⟨_, rfl⟩
  obtain ⟨x16, ex16⟩ : ∃ c : Bool, c = ((cmpQ (qk + qm) (ql + qm) : Int) != (cmpQ qk ql : Int)) := ⟨_, rfl⟩
  obtain ⟨x17, ex17⟩ : ∃ c : Bool, c = ((x15 || x16)) := ⟨_, rfl⟩
  refine rg (fun c d v a w h => NL c d v a w h) [(22, .eq (.int .i64 (cmpQ qk ql))), (23, .rat (ql)), (24, .rat (qk)), (25, .eq (.int .i64 (cmpQ ql qk))), (26, .eq (.int .i64 (-(cmpQ ql qk)))), (27, .eq (.bool (x9))), (28, .eq (.bool (x9))), (29, .opt ((x9 == false)) (.eq (.int .i64 (cmpQ qk ql)))), (30, .opt ((x9 == false)) (.eq (.bool (x10)))), (31, .opt ((x9 == false)) (.eq (.bool (x10)))), (32, .opt (((x9 == false) && (x10 == true))) (.rat (ql))), (33, .opt (((x9 == false) && (x10 == true))) (.rat (qm))), (34, .opt (((x9 == false) && (x10 == true))) (.eq (.int .i64 (cmpQ ql qm)))), (35, .opt (((x9 == false) && (x10 == true))) (.eq (.bool (x11)))), (36, .opt ((x9 == false)) (.eq (.bool (x12)))), (37, .opt ((x9 == false)) (.eq (.bool (x12)))), (38, .opt (((x9 == false) && (x12 == true))) (.rat (qk))), (39, .opt (((x9 == false) && (x12 == true))) (.rat (qm))), (40, .opt (((x9 == false) && (x12 == true))) (.eq (.int .i64 (cmpQ qk qm)))), (41, .opt (((x9 == false) && (x12 == true))) (.eq (.bool (x13)))), (42, .opt ((x9 == false)) (.eq (.bool (x14)))), (43, .eq (.bool (x15))), (44, .eq (.bool (x15))), (45, .opt ((x15 == false)) (.rat (qk))), (46, .opt ((x15 == false)) (.rat (qm))), (47, .opt ((x15 == false)) (.rat (qk + qm))), (48, .opt ((x15 == false)) (.rat (ql))), (49, .opt ((x15 == false)) (.rat (qm))), (50, .opt ((x15 == false)) (.rat (ql + qm))), (51, .opt ((x15 == false)) (.eq (.int .i64 (cmpQ (qk + qm) (ql + qm))))), (52, .opt ((x15 == false)) (.eq (.int .i64 (cmpQ qk ql)))), (53, .opt ((x15 == false)) (.eq (.bool (x16)))), (54, .eq (.bool (x17)))] [] [] [] 67 33 ?_ ?_
  · refine so [] (fun w8 hw8 => ?_) ?_
    · exact .fin (yld_move rfl ⟨Grow.refl _, rfl⟩)
    refine so [] (fun w8 hw8 => ?_) ?_
    · exact .fin (yld_loadBox rfl rfl aggRat (B8.grow hw8) (shRat _))
    refine so [] (fun w8 hw8 => ?_) ?_
    · exact .fin (yld_loadBox rfl rfl aggRat (B7.grow hw8) (shRat _))
    refine so [(23, .rat (ql)), (24, .rat (qk))] (fun w8 hw8 => ?_) ?_
    · rintro v23 h23 v24 h24; exact .fin (yld_call rfl cal_rat_Cmp rfl (cRatCmp h23 h24 (sz2 sl sk (by decide))))
    refine so [(25, .eq (.int .i64 (cmpQ ql qk)))] (fun w8 hw8 => ?_) ?_
    · rintro _ rfl; exact .fin (yld_neg rfl rfl (r := -(cmpQ ql qk)) (neg_wrap _ _) ⟨Grow.refl _, rfl⟩)
    refine so [(22, .eq (.int .i64 (cmpQ qk ql))), (26, .eq (.int .i64 (-(cmpQ ql qk))))] (fun w8 hw8 => ?_) ?_
    · rintro _ rfl _ rfl; exact .fin (yld_eqTo (c := .bool ((cmpQ qk ql : Int) != (-(cmpQ ql qk) : Int))) (yld_neq rfl rfl rfl ⟨Grow.refl _, rfl⟩) (congrArg Value.bool ex9.symm))
    refine so [(27, .eq (.bool (x9)))] (fun w8 hw8 => ?_) ?_
    · rintro _ rfl; exact .fin (yld_move rfl ⟨Grow.refl _, rfl⟩)
    refine sg (c := (x9 == false)) 28 [(28, .eq (.bool (x9)))] (fun w8 hw8 => ?_) ?_
    · rintro _ rfl; exact .fin (⟨guard_eq, fun hc => yld_move rfl ⟨Grow.refl _, rfl⟩⟩)
    refine sg (c := (x9 == false)) 28 [(28, .eq (.bool (x9))), (29, .opt ((x9 == false)) (.eq (.int .i64 (cmpQ qk ql))))] (fun w8 hw8 => ?_) ?_
    · rintro _ rfl v29 h29; exact .fin (⟨guard_eq, fun hc => yld_eqTo (c := .bool (decide ((cmpQ qk ql : Int) ≤ (0 : Int)))) (yld_leq rfl (show v29 = .int .i64 (cmpQ qk ql) from (h29.1 (by revert hc; exact fun h => h))) rfl ⟨Grow.refl _, rfl⟩) (congrArg Value.bool ex10.symm)⟩)
    refine sg (c := (x9 == false)) 28 [(28, .eq (.bool (x9))), (30, .opt ((x9 == false)) (.eq (.bool (x10))))] (fun w8 hw8 => ?_) ?_
    · rintro _ rfl v30 h30; exact .fin (⟨guard_eq, fun hc => yld_move rfl ⟨Grow.refl _, (show v30 = .bool (x10) from (h30.1 (by revert hc; exact fun h => h)))⟩⟩)
    refine sg (c := ((x9 == false) && (x10 == true))) 31 [(31, .opt ((x9 == false)) (.eq (.bool (x10))))] (fun w8 hw8 => ?_) ?_
    · rintro v31 h31; exact .fin (⟨guard_opt h31, fun hc => yld_loadBox rfl rfl aggRat (B8.grow hw8) (shRat _)⟩)
    refine sg (c := ((x9 == false) && (x10 == true))) 31 [(31, .opt ((x9 == false)) (.eq (.bool (x10))))] (fun w8 hw8 => ?_) ?_
    · rintro v31 h31; exact .fin (⟨guard_opt h31, fun hc => yld_loadBox rfl rfl aggRat (B9.grow hw8) (shRat _)⟩)
    refine sg (c := ((x9 == false) && (x10 == true))) 31 [(31, .opt ((x9 == false)) (.eq (.bool (x10)))), (32, .opt (((x9 == false) && (x10 == true))) (.rat (ql))), (33, .opt (((x9 == false) && (x10 == true))) (.rat (qm)))] (fun w8 hw8 => ?_) ?_
    · rintro v31 h31 v32 h32 v33 h33; exact .fin (⟨guard_opt h31, fun hc => yld_call rfl cal_rat_Cmp rfl (cRatCmp (h32.1 (by revert hc; exact fun h => h)) (h33.1 (by revert hc; exact fun h => h)) (sz2 sl sm (by decide)))⟩)
    refine sg (c := ((x9 == false) && (x10 == true))) 31 [(31, .opt ((x9 == false)) (.eq (.bool (x10)))), (34, .opt (((x9 == false) && (x10 == true))) (.eq (.int .i64 (cmpQ ql qm))))] (fun w8 hw8 => ?_) ?_
    · rintro v31 h31 v34 h34; exact .fin (⟨guard_opt h31, fun hc => yld_eqTo (c := .bool (decide ((cmpQ ql qm : Int) ≤ (0 : Int)))) (yld_leq rfl (show v34 = .int .i64 (cmpQ ql qm) from (h34.1 (by revert hc; exact fun h => h))) rfl ⟨Grow.refl _, rfl⟩) (congrArg Value.bool ex11.symm)⟩)
    refine sg (c := (x9 == false)) 28 [(28, .eq (.bool (x9))), (31, .opt ((x9 == false)) (.eq (.bool (x10)))), (35, .opt (((x9 == false) && (x10 == true))) (.eq (.bool (x11))))] (fun w8 hw8 => ?_) ?_
    · rintro _ rfl v31 h31 v35 h35; exact .fin (⟨guard_eq, fun hc => yld_eqTo (c := .bool ((x10 && x11))) (yld_pick_and rfl (show v31 = .bool (x10) from (h31.1 (by revert hc; exact fun h => h))) (fun ht => h35.1 (by revert ht; revert hc; cases x10 <;> cases x9 <;> decide)) rfl ⟨Grow.refl _, rfl⟩) (congrArg Value.bool ex12.symm)⟩)
    refine sg (c := (x9 == false)) 28 [(28, .eq (.bool (x9))), (36, .opt ((x9 == false)) (.eq (.bool (x12))))] (fun w8 hw8 => ?_) ?_
    · rintro _ rfl v36 h36; exact .fin (⟨guard_eq, fun hc => yld_move rfl ⟨Grow.refl _, (show v36 = .bool (x12) from (h36.1 (by revert hc; exact fun h => h)))⟩⟩)
    refine sg (c := ((x9 == false) && (x12 == true))) 37 [(37, .opt ((x9 == false)) (.eq (.bool (x12))))] (fun w8 hw8 => ?_) ?_
    · rintro v37 h37; exact .fin (⟨guard_opt h37, fun hc => yld_loadBox rfl rfl aggRat (B7.grow hw8) (shRat _)⟩)
    refine sg (c := ((x9 == false) && (x12 == true))) 37 [(37, .opt ((x9 == false)) (.eq (.bool (x12))))] (fun w8 hw8 => ?_) ?_
    · rintro v37 h37; exact .fin (⟨guard_opt h37, fun hc => yld_loadBox rfl rfl aggRat (B9.grow hw8) (shRat _)⟩)
    refine sg (c := ((x9 == false) && (x12 == true))) 37 [(37, .opt ((x9 == false)) (.eq (.bool (x12)))), (38, .opt (((x9 == false) && (x12 == true))) (.rat (qk))), (39, .opt (((x9 == false) && (x12 == true))) (.rat (qm)))] (fun w8 hw8 => ?_) ?_
    · rintro v37 h37 v38 h38 v39 h39; exact .fin (⟨guard_opt h37, fun hc => yld_call rfl cal_rat_Cmp rfl (cRatCmp (h38.1 (by revert hc; exact fun h => h)) (h39.1 (by revert hc; exact fun h => h)) (sz2 sk sm (by decide)))⟩)
    refine sg (c := ((x9 == false) && (x12 == true))) 37 [(37, .opt ((x9 == false)) (.eq (.bool (x12)))), (40, .opt (((x9 == false) && (x12 == true))) (.eq (.int .i64 (cmpQ qk qm))))] (fun w8 hw8 => ?_) ?_
    · rintro v37 h37 v40 h40; exact .fin (⟨guard_opt h37, fun hc => yld_eqTo (c := .bool (decide ((cmpQ qk qm : Int) > (0 : Int)))) (yld_gtr rfl (show v40 = .int .i64 (cmpQ qk qm) from (h40.1 (by revert hc; exact fun h => h))) rfl ⟨Grow.refl _, rfl⟩) (congrArg Value.bool ex13.symm)⟩)
    refine sg (c := (x9 == false)) 28 [(28, .eq (.bool (x9))), (37, .opt ((x9 == false)) (.eq (.bool (x12)))), (41, .opt (((x9 == false) && (x12 == true))) (.eq (.bool (x13))))] (fun w8 hw8 => ?_) ?_
    · rintro _ rfl v37 h37 v41 h41; exact .fin (⟨guard_eq, fun hc => yld_eqTo (c := .bool ((x12 && x13))) (yld_pick_and rfl (show v37 = .bool (x12) from (h37.1 (by revert hc; exact fun h => h))) (fun ht => h41.1 (by revert ht; revert hc; cases x12 <;> cases x9 <;> decide)) rfl ⟨Grow.refl _, rfl⟩) (congrArg Value.bool ex14.symm)⟩)
    refine so [(28, .eq (.bool (x9))), (42, .opt ((x9 == false)) (.eq (.bool (x14))))] (fun w8 hw8 => ?_) ?_
    · rintro _ rfl v42 h42; exact .fin (yld_eqTo (c := .bool ((x9 || x14))) (yld_pick_or rfl rfl rfl (fun ht => h42.1 (by revert ht; cases x9 <;> decide)) ⟨Grow.refl _, rfl⟩) (congrArg Value.bool ex15.symm))
    refine so [(43, .eq (.bool (x15)))] (fun w8 hw8 => ?_) ?_
    · rintro _ rfl; exact .fin (yld_move rfl ⟨Grow.refl _, rfl⟩)
    refine sg (c := (x15 == false)) 44 [(44, .eq (.bool (x15)))] (fun w8 hw8 => ?_) ?_
    · rintro _ rfl; exact .fin (⟨guard_eq, fun hc => yld_loadBox rfl rfl aggRat (B7.grow hw8) (shRat _)⟩)
    refine sg (c := (x15 == false)) 44 [(44, .eq (.bool (x15)))] (fun w8 hw8 => ?_) ?_
    · rintro _ rfl; exact .fin (⟨guard_eq, fun hc => yld_loadBox rfl rfl aggRat (B9.grow hw8) (shRat _)⟩)
    refine sg (c := (x15 == false)) 44 [(44, .eq (.bool (x15))), (45, .opt ((x15 == false)) (.rat (qk))), (46, .opt ((x15 == false)) (.rat (qm)))] (fun w8 hw8 => ?_) ?_
    · rintro _ rfl v45 h45 v46 h46; exact .fin (⟨guard_eq, fun hc => yld_call rfl cal_rat_Add rfl (cRatAdd (h45.1 (by revert hc; exact fun h => h)) (h46.1 (by revert hc; exact fun h => h)) (sz2 sk sm (by decide)))⟩)
    refine sg (c := (x15 == false)) 44 [(44, .eq (.bool (x15)))] (fun w8 hw8 => ?_) ?_
    · rintro _ rfl; exact .fin (⟨guard_eq, fun hc => yld_loadBox rfl rfl aggRat (B8.grow hw8) (shRat _)⟩)
    refine sg (c := (x15 == false)) 44 [(44, .eq (.bool (x15)))] (fun w8 hw8 => ?_) ?_
    · rintro _ rfl; exact .fin (⟨guard_eq, fun hc => yld_loadBox rfl rfl aggRat (B9.grow hw8) (shRat _)⟩)
    refine sg (c := (x15 == false)) 44 [(44, .eq (.bool (x15))), (48, .opt ((x15 == false)) (.rat (ql))), (49, .opt ((x15 == false)) (.rat (qm)))] (fun w8 hw8 => ?_) ?_
    · rintro _ rfl v48 h48 v49 h49; exact .fin (⟨guard_eq, fun hc => yld_call rfl cal_rat_Add rfl (cRatAdd (h48.1 (by revert hc; exact fun h => h)) (h49.1 (by revert hc; exact fun h => h)) (sz2 sl sm (by decide)))⟩)
    refine sg (c := (x15 == false)) 44 [(44, .eq (.bool (x15))), (47, .opt ((x15 == false)) (.rat (qk + qm))), (50, .opt ((x15 == false)) (.rat (ql + qm)))] (fun w8 hw8 => ?_) ?_
    · rintro _ rfl v47 h47 v50 h50; exact .fin (⟨guard_eq, fun hc => yld_call rfl cal_rat_Cmp rfl (cRatCmp (h47.1 (by revert hc; exact fun h => h)) (h50.1 (by revert hc; exact fun h => h)) (sz2 (sb_add sk sm) (sb_add sl sm) (by decide)))⟩)
    refine sg (c := (x15 == false)) 44 [(44, .eq (.bool (x15)))] (fun w8 hw8 => ?_) ?_
    · rintro _ rfl; exact .fin (⟨guard_eq, fun hc => yld_move rfl ⟨Grow.refl _, rfl⟩⟩)
    refine sg (c := (x15 == false)) 44 [(44, .eq (.bool (x15))), (51, .opt ((x15 == false)) (.eq (.int .i64 (cmpQ (qk + qm) (ql + qm))))), (52, .opt ((x15 == false)) (.eq (.int .i64 (cmpQ qk ql))))] (fun w8 hw8 => ?_) ?_
    · rintro _ rfl v51 h51 v52 h52; exact .fin (⟨guard_eq, fun hc => yld_eqTo (c := .bool ((cmpQ (qk + qm) (ql + qm) : Int) != (cmpQ qk ql : Int))) (yld_neq rfl (show v51 = .int .i64 (cmpQ (qk + qm) (ql + qm)) from (h51.1 (by revert hc; exact fun h => h))) (show v52 = .int .i64 (cmpQ qk ql) from (h52.1 (by revert hc; exact fun h => h))) ⟨Grow.refl _, rfl⟩) (congrArg Value.bool ex16.symm)⟩)
    refine so [(44, .eq (.bool (x15))), (53, .opt ((x15 == false)) (.eq (.bool (x16))))] (fun w8 hw8 => ?_) (.nil _ _)
    rintro _ rfl v53 h53; exact .fin (yld_eqTo (c := .bool ((x15 || x16))) (yld_pick_or rfl rfl rfl (fun ht => h53.1 (by revert ht; cases x15 <;> decide)) ⟨Grow.refl _, rfl⟩) (congrArg Value.bool ex17.symm))
  rintro w8 hw8 v22 - v23 - v24 - v25 - v26 - _ rfl _ rfl v29 - v30 - v31 - v32 - v33 - v34 - v35 - v36 - v37 - v38 - v39 - v40 - v41 - v42 - _ rfl _ rfl v45 - v46 - v47 - v48 - v49 - v50 - v51 - v52 - v53 - _ rfl -
  have W8 : Grow w w8 := W7.trans hw8
  replace B3 := B3.grow hw8
  replace B4 := B4.grow hw8
  replace B5 := B5.grow hw8
  replace B7 := B7.grow hw8
  replace B8 := B8.grow hw8
  replace B9 := B9.grow hw8
  replace hk := MR.mono _ hw8 hk
  replace hl := MR.mono _ hw8 hl
  replace hm := MR.mono _ hw8 hm
  replace h14 := MR.mono _ hw8 h14
  replace h16 := MR.mono _ hw8 h16
  replace h18 := MR.mono _ hw8 h18
  subst ex9
  subst ex10
  subst ex11
  subst ex12
  subst ex13
  subst ex14
  subst ex15
  subst ex16
  subst ex17
  refine fr (vk :: vl :: vm :: .pointer (some ⟨b3, 0, none⟩) :: .pointer (some ⟨b4, 0, none⟩) :: .pointer (some ⟨b5, 0, none⟩) :: .bool (false) :: .pointer (some ⟨b7, 0, none⟩) :: .pointer (some ⟨b8, 0, none⟩) :: .pointer (some ⟨b9, 0, none⟩) :: .int .i64 (cmpQ qk ql) :: .bool (true) :: .bool (!true) :: v13 :: v14 :: v15 :: v16 :: v17 :: v18 :: v19 :: v20 :: v21 :: v22 :: v23 :: v24 :: v25 :: v26 :: .bool (((cmpQ qk ql : Int) != (-(cmpQ ql qk) : Int))) :: .bool (((cmpQ qk ql : Int) != (-(cmpQ ql qk) : Int))) :: v29 :: v30 :: v31 :: v32 :: v33 :: v34 :: v35 :: v36 :: v37 :: v38 :: v39 :: v40 :: v41 :: v42 :: .bool (((((cmpQ qk ql : Int) != (-(cmpQ ql qk) : Int)) || (((((decide ((cmpQ qk ql : Int) ≤ (0 : Int))) && (decide ((cmpQ ql qm : Int) ≤ (0 : Int))))) && (decide ((cmpQ qk qm : Int) > (0 : Int)))))))) :: .bool (((((cmpQ qk ql : Int) != (-(cmpQ ql qk) : Int)) || (((((decide ((cmpQ qk ql : Int) ≤ (0 : Int))) && (decide ((cmpQ ql qm : Int) ≤ (0 : Int))))) && (decide ((cmpQ qk qm : Int) > (0 : Int)))))))) :: v45 :: v46 :: v47 :: v48 :: v49 :: v50 :: v51 :: v52 :: v53 :: .bool (((((((cmpQ qk ql : Int) != (-(cmpQ ql qk) : Int)) || (((((decide ((cmpQ qk ql : Int) ≤ (0 : Int))) && (decide ((cmpQ ql qm : Int) ≤ (0 : Int))))) && (decide ((cmpQ qk qm : Int) > (0 : Int))))))) || ((cmpQ (qk + qm) (ql + qm) : Int) != (cmpQ qk ql : Int))))) :: undef :: undef :: undef :: undef :: undef :: undef :: undef :: undef :: undef :: undef :: undef :: undef :: []) ?_
  refine wpListS_nil ?_
  change Code.wp _ _ _ ⟨_, []⟩ _
  have hc17 : (((((((cmpQ qk ql : Int) != (-(cmpQ ql qk) : Int)) || (((((decide ((cmpQ qk ql : Int) ≤ (0 : Int))) && (decide ((cmpQ ql qm : Int) ≤ (0 : Int))))) && (decide ((cmpQ qk qm : Int) > (0 : Int))))))) || ((cmpQ (qk + qm) (ql + qm) : Int) != (cmpQ qk ql : Int))))) = false := line1 qk ql qm
  refine wp_cond_false (by show Value.bool _ = _; rw [hc17]) ?_
  refine wp_skip ?_
  change Code.wp _ _ _ ⟨_, []⟩ _
  refine wp_seq ?_
  refine rg (fun c d v a w h => NL c d v a w h) [(55, .rat (qk)), (56, .rat (qm)), (57, .rat (qk * qm)), (58, .rat (ql)), (59, .rat (qm)), (60, .rat (ql * qm)), (61, .eq (.int .i64 (cmpQ (qk * qm) (ql * qm)))), (62, .eq (.int .i64 (cmpQ qk ql))), (63, .rat (qm)), (64, .eq (.int .i64 (qm.num.sign))), (65, .eq (.int .i64 ((cmpQ qk ql) * qm.num.sign))), (66, .eq (.bool ((cmpQ (qk * qm) (ql * qm) : Int) == ((cmpQ qk ql) * qm.num.sign : Int)))), (6, .eq (.bool ((cmpQ (qk * qm) (ql * qm) : Int) == ((cmpQ qk ql) * qm.num.sign : Int))))] [] [] [] 67 13 ?_ ?_
  · refine so [] (fun w19 hw19 => ?_) ?_
    · exact .fin (yld_loadBox rfl rfl aggRat (B7.grow hw19) (shRat _))
    refine so [] (fun w19 hw19 => ?_) ?_
    · exact .fin (yld_loadBox rfl rfl aggRat (B9.grow hw19) (shRat _))
    refine so [(55, .rat (qk)), (56, .rat (qm))] (fun w19 hw19 => ?_) ?_
    · rintro v55 h55 v56 h56; exact .fin (yld_call rfl cal_rat_Mul rfl (cRatMul h55 h56 (sz2 sk sm (by decide))))
    refine so [] (fun w19 hw19 => ?_) ?_
    · exact .fin (yld_loadBox rfl rfl aggRat (B8.grow hw19) (shRat _))
    refine so [] (fun w19 hw19 => ?_) ?_
    · exact .fin (yld_loadBox rfl rfl aggRat (B9.grow hw19) (shRat _))
    refine so [(58, .rat (ql)), (59, .rat (qm))] (fun w19 hw19 => ?_) ?_
    · rintro v58 h58 v59 h59; exact .fin (yld_call rfl cal_rat_Mul rfl (cRatMul h58 h59 (sz2 sl sm (by decide))))
    refine so [(57, .rat (qk * qm)), (60, .rat (ql * qm))] (fun w19 hw19 => ?_) ?_
    · rintro v57 h57 v60 h60; exact .fin (yld_call rfl cal_rat_Cmp rfl (cRatCmp h57 h60 (sz2 (sb_mul sk sm) (sb_mul sl sm) (by decide))))
    refine so [] (fun w19 hw19 => ?_) ?_
    · exact .fin (yld_move rfl ⟨Grow.refl _, rfl⟩)
    refine so [] (fun w19 hw19 => ?_) ?_
    · exact .fin (yld_loadBox rfl rfl aggRat (B9.grow hw19) (shRat _))
    refine so [(63, .rat (qm))] (fun w19 hw19 => ?_) ?_
    · rintro v63 h63; exact .fin (yld_call rfl cal_rat_Rat_Sign rfl (cRatSign h63))
    refine so [(62, .eq (.int .i64 (cmpQ qk ql))), (64, .eq (.int .i64 (qm.num.sign)))] (fun w19 hw19 => ?_) ?_
    · rintro _ rfl _ rfl; exact .fin (yld_mul rfl rfl rfl (r := (cmpQ qk ql) * qm.num.sign) (mul_wrap _ _ _) ⟨Grow.refl _, rfl⟩)
    refine so [(61, .eq (.int .i64 (cmpQ (qk * qm) (ql * qm)))), (65, .eq (.int .i64 ((cmpQ qk ql) * qm.num.sign)))] (fun w19 hw19 => ?_) ?_
    · rintro _ rfl _ rfl; exact .fin (yld_eql rfl rfl rfl ⟨Grow.refl _, rfl⟩)
    refine so [(66, .eq (.bool ((cmpQ (qk * qm) (ql * qm) : Int) == ((cmpQ qk ql) * qm.num.sign : Int))))] (fun w19 hw19 => ?_) (.nil _ _)
    rintro _ rfl; exact .fin (yld_assign rfl ⟨Grow.refl _, rfl⟩)
  rintro w19 hw19 v55 - v56 - v57 - v58 - v59 - v60 - v61 - v62 - v63 - v64 - v65 - v66 - _ rfl -
  have W19 : Grow w w19 := W8.trans hw19
  replace B3 := B3.grow hw19
  replace B4 := B4.grow hw19
  replace B5 := B5.grow hw19
  replace B7 := B7.grow hw19
  replace B8 := B8.grow hw19
  replace B9 := B9.grow hw19
  replace hk := MR.mono _ hw19 hk
  replace hl := MR.mono _ hw19 hl
  replace hm := MR.mono _ hw19 hm
  replace h14 := MR.mono _ hw19 h14
  replace h16 := MR.mono _ hw19 h16
  replace h18 := MR.mono _ hw19 h18
  refine fr (vk :: vl :: vm :: .pointer (some ⟨b3, 0, none⟩) :: .pointer (some ⟨b4, 0, none⟩) :: .pointer (some ⟨b5, 0, none⟩) :: .bool ((cmpQ (qk * qm) (ql * qm) : Int) == ((cmpQ qk ql) * qm.num.sign : Int)) :: .pointer (some ⟨b7, 0, none⟩) :: .pointer (some ⟨b8, 0, none⟩) :: .pointer (some ⟨b9, 0, none⟩) :: .int .i64 (cmpQ qk ql) :: .bool (true) :: .bool (!true) :: v13 :: v14 :: v15 :: v16 :: v17 :: v18 :: v19 :: v20 :: v21 :: v22 :: v23 :: v24 :: v25 :: v26 :: .bool (((cmpQ qk ql : Int) != (-(cmpQ ql qk) : Int))) :: .bool (((cmpQ qk ql : Int) != (-(cmpQ ql qk) : Int))) :: v29 :: v30 :: v31 :: v32 :: v33 :: v34 :: v35 :: v36 :: v37 :: v38 :: v39 :: v40 :: v41 :: v42 :: .bool (((((cmpQ qk ql : Int) != (-(cmpQ ql qk) : Int)) || (((((decide ((cmpQ qk ql : Int) ≤ (0 : Int))) && (decide ((cmpQ ql qm : Int) ≤ (0 : Int))))) && (decide ((cmpQ qk qm : Int) > (0 : Int)))))))) :: .bool (((((cmpQ qk ql : Int) != (-(cmpQ ql qk) : Int)) || (((((decide ((cmpQ qk ql : Int) ≤ (0 : Int))) && (decide ((cmpQ ql qm : Int) ≤ (0 : Int))))) && (decide ((cmpQ qk qm : Int) > (0 : Int)))))))) :: v45 :: v46 :: v47 :: v48 :: v49 :: v50 :: v51 :: v52 :: v53 :: .bool (((((((cmpQ qk ql : Int) != (-(cmpQ ql qk) : Int)) || (((((decide ((cmpQ qk ql : Int) ≤ (0 : Int))) && (decide ((cmpQ ql qm : Int) ≤ (0 : Int))))) && (decide ((cmpQ qk qm : Int) > (0 : Int))))))) || ((cmpQ (qk + qm) (ql + qm) : Int) != (cmpQ qk ql : Int))))) :: v55 :: v56 :: v57 :: v58 :: v59 :: v60 :: v61 :: v62 :: v63 :: v64 :: v65 :: v66 :: []) ?_
  refine wpListS_nil ?_
  change Code.wp _ _ _ ⟨_, []⟩ _
  refine wp_ret ?_
  change bodyPost Try.prog Try.f8 (Ret (.eq (.bool (true))) w) .ret _ _
  exact body_slot rfl (by show Value.bool _ = Value.bool _; rw [show ((cmpQ (qk * qm) (ql * qm) : Int) == ((cmpQ qk ql) * qm.num.sign : Int)) = (true) from (line2 qk ql qm)]) rfl W19
end Go.Proofs.Ytknflfnkdieomaa
