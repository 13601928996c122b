/- the laws own functions: what is handed in. -/
import Derived.Test.YtknflfnkdieomaaLawT
namespace Go.Proofs.Ytknflfnkdieomaa
open Go.RowKit
theorem cal_actuarylaw07_Make : Callable Try.prog 22 := callable_of Try.func22 rfl (by kernel_rfl)
set_option maxRecDepth 100000 in
set_option maxHeartbeats 2000000 in
theorem cMake7 {B n : Nat} {b : Bool} {f : Nat → Nat} {va : Value} {w : World} (hB : B ≤ w.heap.size) (ha : (MR.whole (B) (b) (f) (n)).R w va) (hwf : Wf f n) (hn : n ≤ 1048576) : Calls Try.prog 22 #[va] w (Ret (.int (signed b (val f n))) w) := by
  have _ := hn
  have _ := hB
  refine calls_enter (a := ⟨List.toArray ([va] ++ us 8), []⟩) Try.func22 rfl (by kernel_rfl) ?_
  have NL : NoLook (bodyPost Try.prog Try.f22 (Ret (.int (signed b (val f n))) w)) := noLook_body
  refine wp_seq ?_
  refine rg (fun c d v a w h => NL c d v a w h) [(1, .ptr 31 (.whole (B) (b) (f) (n))), (2, .ptr 35 (.int (0)))] [0, 1] [] [] 9 2 ?_ ?_
  · refine sn [] (fun w1 hw1 => .fin (yld_newBox rfl rfl (MR.mono _ hw1 ha))) ?_
    exact sn [] (fun w1 hw1 => .fin (yld_newAlloc rfl zeroInt zInt)) (.nil _ _)
  rintro w1 hw1 _ ⟨b1, rfl, B1⟩ _ ⟨b2, rfl, B2⟩ hN
  have W1 : Grow w w1 := (Grow.refl w).trans hw1
  have g_b2 : w.heap.size ≤ b2 := Nat.le_trans (Grow.refl w).size hN.2.2.1.1
  clear hN
  refine fr ([va, pt b1, pt b2] ++ us 6) ?_
  refine nx ?_
  refine wp_seq ?_
  refine rg (fun c d v a w h => NL c d v a w h) [(3, .eq (.pointer (some ⟨b1, 0, none⟩))), (4, .eq (.bool (b))), (5, .eq (.pointer (some ⟨b1, 1, none⟩))), (6, .inw (B) (f) (n)), (7, .nat (val f n)), (8, .int (signed (b) (val f n)))] [] [] [] 9 6 ?_ ?_
  · refine so [] (fun w2 hw2 => .fin (yld_fieldAddr rfl rfl fldWhole0 ⟨Grow.refl _, rfl⟩)) ?_
    refine so [0] (fun w2 hw2 => by rintro _ rfl; exact .fin (yld_loadOne rfl rfl oneBool (B1.grow hw2) (paWholeBelow))) ?_
    refine so [] (fun w2 hw2 => .fin (yld_fieldAddr rfl rfl fldWhole1 ⟨Grow.refl _, rfl⟩)) ?_
    refine so [2] (fun w2 hw2 => by rintro _ rfl; exact .fin (yld_loadOne rfl rfl oneU64s (B1.grow hw2) (paWholeWords))) ?_
    refine so [3] (fun w2 hw2 => by rintro v6 h6; exact .fin (yld_call rfl cal_nat_Of rfl (cNatOfIn h6 hwf (by omega)))) ?_
    exact so [1, 4] (fun w2 hw2 => by rintro _ rfl v7 h7; exact .fin (yld_call rfl cal_integer_New rfl (cNew h7))) (.nil _ _)
  rintro w2 hw2 v3 - _ rfl v5 - v6 - v7 - v8 h8 -
  have W2 : Grow w w2 := W1.trans hw2
  replace B2 := B2.grow hw2
  have KK : Kept [] w2 w2 := fun _ _ => rfl
  refine fr [va, pt b1, pt b2, v3, .bool (b), v5, v6, v7, v8] ?_
  change wpListS _ _ _ _ [_] ⟨_, []⟩ _
  refine wpListS_yld rfl ?_
  refine yld_storeBox (R' := .int (signed (b) (val f n))) (b := b2) rfl rfl aggInt.size B2 (shInt _) h8 (shInt _) (St.int _) (by decide) g_b2 fun w3 P3 E3 B' => ⟨fun _ => Kept.put KK P3 (fun _ hk => (by cases hk)), ?_⟩
  have W3 : Grow w w3 := W2.put P3 g_b2
  replace B2 := B'; clear B'
  refine nx ?_
  have BR : Box w3 b2 35 (.int (signed b (val f n))) := (by have e : (signed (b) (val f n) : Int) = signed b (val f n) := (by first | rfl | omega | (simp; done)); rw [← e]; exact B2)
  refine wp_ret ?_
  change bodyPost Try.prog Try.f22 (Ret (.int (signed b (val f n))) w) .ret _ _
  exact body_cell (b := b2) rfl rfl aggInt BR (shInt _) rfl W3
set_option maxRecDepth 100000 in
set_option maxHeartbeats 2000000 in
theorem cMake8 {B n m : Nat} {b : Bool} {f g : Nat → Nat} {va : Value} {w : World} (hB : B ≤ w.heap.size) (ha : (MR.part (B) (b) (f) (n) (g) (m)).R w va) (hwf : Wf f n) (hn : n ≤ 1048576) (hwg : Wf g m) (hm : m ≤ 1048576) : Calls Try.prog 30 #[va] w (Ret (.rat (partQ b f n g m)) w) := by
  have _ := hm
  refine calls_enter (a := ⟨List.toArray ([va] ++ us 22), []⟩) Try.func30 rfl (by kernel_rfl) ?_
  have NL : NoLook (bodyPost Try.prog Try.f30 (Ret (.rat (partQ b f n g m)) w)) := noLook_body
  refine wp_seq ?_
  refine rg (fun c d v a w h => NL c d v a w h) [(1, .ptr 54 (.part (B) (b) (f) (n) (g) (m))), (2, .ptr 37 (.rat (0)))] [0, 1] [] [] 23 2 ?_ ?_
  · refine sn [] (fun w1 hw1 => .fin (yld_newBox rfl rfl (MR.mono _ hw1 ha))) ?_
    exact sn [] (fun w1 hw1 => .fin (yld_newAlloc rfl zeroRat zRat)) (.nil _ _)
  rintro w1 hw1 _ ⟨b1, rfl, B1⟩ _ ⟨b2, rfl, B2⟩ hN
  have W1 : Grow w w1 := (Grow.refl w).trans hw1
  have n_b1_b2 : b1 ≠ b2 := hN.2.1 1 (by simp)
  have g_b2 : w.heap.size ≤ b2 := Nat.le_trans (Grow.refl w).size hN.2.2.1.1
  clear hN
  refine fr ([va, pt b1, pt b2] ++ us 20) ?_
  refine nx ?_
  refine wp_seq ?_
  refine rg (fun c d v a w h => NL c d v a w h) [(6, .eq (.pointer (some ⟨b1, 2, none⟩))), (7, .inw (B) (g) (m)), (8, .nat (val g m)), (3, .ptr 33 (.nat (0)))] [3] [] [] 23 4 ?_ ?_
  · refine so [] (fun w2 hw2 => .fin (yld_fieldAddr rfl rfl fldPart1 ⟨Grow.refl _, rfl⟩)) ?_
    refine so [0] (fun w2 hw2 => by rintro _ rfl; exact .fin (yld_loadOne rfl rfl oneU64s (B1.grow hw2) (paPartD))) ?_
    refine so [1] (fun w2 hw2 => by rintro v7 h7; exact .fin (yld_call rfl cal_nat_Of rfl (cNatOfIn h7 hwg (by omega)))) ?_
    exact sn [] (fun w2 hw2 => .fin (yld_newAlloc rfl zeroNat zNat)) (.nil _ _)
  rintro w2 hw2 v6 - v7 - v8 h8 _ ⟨b3, rfl, B3⟩ hN
  have W2 : Grow w w2 := W1.trans hw2
  have g_b3 : w.heap.size ≤ b3 := Nat.le_trans W1.size hN.1.1
  have n_b1_b3 : b1 ≠ b3 := Nat.ne_of_lt (Nat.lt_of_lt_of_le B1.lt hN.1.1)
  have n_b2_b3 : b2 ≠ b3 := Nat.ne_of_lt (Nat.lt_of_lt_of_le B2.lt hN.1.1)
  clear hN
  replace B1 := B1.grow hw2
  replace B2 := B2.grow hw2
  have KK : Kept [] w2 w2 := fun _ _ => rfl
  refine fr ([va, pt b1, pt b2, pt b3, u, u, v6, v7, v8] ++ us 14) ?_
  change wpListS _ _ _ _ [_] ⟨_, []⟩ _
  refine wpListS_yld rfl ?_
  refine yld_storeBox (R' := .nat (val g m)) (b := b3) rfl rfl aggNat.size B3 (shNat _) h8 (shNat _) (St.nat _) (by decide) g_b3 fun w3 P3 E3 B' => ⟨fun _ => Kept.put KK P3 (fun _ hk => (by cases hk)), ?_⟩
  replace KK := Kept.put KK P3 (fun _ hk => (by cases hk))
  have W3 : Grow w w3 := W2.put P3 g_b3
  replace B1 := B1.put (St.part hB) P3 E3 n_b1_b3
  replace B2 := B2.put (St.rat _) P3 E3 n_b2_b3
  replace B3 := B'; clear B'
  refine nx ?_
  refine wp_seq ?_
  refine wp_seq ?_
  refine rg (fun c d v a w h => NL c d v a w h) [(9, .nat (val g m)), (10, .eq (.bool (decide ((val g m) = 0))))] [] [] [] 23 2 ?_ ?_
  · refine so [] (fun w4 hw4 => .fin (yld_loadBox rfl rfl aggNat (B3.grow hw4) (shNat _))) ?_
    exact so [0] (fun w4 hw4 => by rintro v9 h9; exact .fin (yld_call rfl cal_nat_Nat_Zero rfl (cNatZero h9))) (.nil _ _)
  rintro w4 hw4 v9 - _ rfl -
  have W4 : Grow w w4 := W3.trans hw4
  replace B1 := B1.grow hw4
  replace B2 := B2.grow hw4
  replace B3 := B3.grow hw4
  refine fr ([va, pt b1, pt b2, pt b3, u, u, v6, v7, v8, v9, .bool (decide ((val g m) = 0))] ++ us 12) ?_
  refine nx ?_
  refine wp_cond_split (t := decide ((val g m) = 0)) rfl (fun hc1 => ?_) (fun hc1 => ?_)
  · refine rg (fun c d v a w h => NL c d v a w h) [(11, .lits ([1])), (12, .nat (1))] [] [] [] 23 2 ?_ ?_
    · refine so [] (fun w5 hw5 => .fin (yld_lit rfl rfl)) ?_
      exact so [0] (fun w5 hw5 => by rintro v11 h11; exact .fin (yld_call rfl cal_nat_Of rfl (cNatOf1 h11 (by omega)))) (.nil _ _)
    rintro w5 hw5 v11 - v12 h12 -
    have W5 : Grow w w5 := W4.trans hw5
    replace B1 := B1.grow hw5
    replace B2 := B2.grow hw5
    replace B3 := B3.grow hw5
    have KK : Kept [] w5 w5 := fun _ _ => rfl
    refine fr ([va, pt b1, pt b2, pt b3, u, u, v6, v7, v8, v9, .bool (decide ((val g m) = 0)), v11, v12] ++ us 10) ?_
    change wpListS _ _ _ _ [_] ⟨_, []⟩ _
    refine wpListS_yld rfl ?_
    refine yld_storeBox (R' := .nat (1)) (b := b3) rfl rfl aggNat.size B3 (shNat _) h12 (shNat _) (St.nat _) (by decide) g_b3 fun w6 P6 E6 B' => ⟨fun _ => Kept.put KK P6 (fun _ hk => (by cases hk)), ?_⟩
    replace KK := Kept.put KK P6 (fun _ hk => (by cases hk))
    have W6 : Grow w w6 := W5.put P6 g_b3
    replace B1 := B1.put (St.part hB) P6 E6 n_b1_b3
    replace B2 := B2.put (St.rat _) P6 E6 n_b2_b3
    replace B3 := B'; clear B'
    refine nx ?_
    refine wp_seq ?_
    refine rg (fun c d v a w h => NL c d v a w h) [(14, .eq (.pointer (some ⟨b1, 0, none⟩))), (15, .whole (B) (b) (f) (n)), (16, .int (signed b (val f n))), (17, .nat (1)), (18, .int (signed (false) (1))), (19, .tup2 (.rat (Rat.divInt (signed b (val f n)) (signed (false) (1)))) (.eq (.bool (!decide ((signed (false) (1)) = 0))))), (13, .tup2 (.rat (Rat.divInt (signed b (val f n)) (signed (false) (1)))) (.eq (.bool (!decide ((signed (false) (1)) = 0))))), (20, .rat (Rat.divInt (signed b (val f n)) (signed (false) (1)))), (21, .eq (.bool (!decide ((signed (false) (1)) = 0)))), (4, .ptr 37 (.rat (0)))] [9] [8] [] 23 10 ?_ ?_
    · refine so [] (fun w7 hw7 => .fin (yld_fieldAddr rfl rfl fldPart0 ⟨Grow.refl _, rfl⟩)) ?_
      refine so [0] (fun w7 hw7 => by rintro _ rfl; exact .fin (yld_loadPart rfl rfl aggWhole (B1.grow hw7) (paPartP))) ?_
      refine so [1] (fun w7 hw7 => by rintro v15 h15; exact .fin (yld_call rfl cal_actuarylaw07_Make rfl (cMake7 (Nat.le_trans hB (Grow.trans W6 hw7).size) h15 hwf hn))) ?_
      refine so [] (fun w7 hw7 => .fin (yld_loadBox rfl rfl aggNat (B3.grow hw7) (shNat _))) ?_
      refine so [3] (fun w7 hw7 => by rintro v17 h17; exact .fin (yld_call rfl cal_integer_New rfl (cNew h17))) ?_
      refine so [2, 4] (fun w7 hw7 => by rintro v16 h16 v18 h18; exact .fin (yld_call rfl cal_rat_New rfl (cRatNew h16 h18 (signed_small (Nat.lt_of_le_of_lt (nw_val _ _ hwf) (by omega))) (signed_small (by first | exact Nat.lt_of_le_of_lt (nw_val _ _ hwg) (by omega) | decide))))) ?_
      refine so [5] (fun w7 hw7 => by rintro _ ⟨x19_0, x19_1, rfl, hx19_0, hx19_1⟩; exact .fin (yld_move rfl ⟨Grow.refl _, ⟨x19_0, x19_1, rfl, hx19_0, hx19_1⟩⟩)) ?_
      refine so [6] (fun w7 hw7 => by rintro _ ⟨x13_0, x13_1, rfl, hx13_0, hx13_1⟩; exact .fin (yld_extract rfl rfl rfl ⟨Grow.refl _, hx13_0⟩)) ?_
      refine sl [6] (fun w7 hw7 => by rintro _ ⟨x13_0, x13_1, rfl, hx13_0, hx13_1⟩; exact .fin (⟨_, fun w2 _ => pure_extract rfl rfl rfl w2, hx13_1⟩)) ?_
      exact sn [] (fun w7 hw7 => .fin (yld_newAlloc rfl zeroRat zRat)) (.nil _ _)
    rintro w7 hw7 v14 - v15 - v16 - v17 - v18 - v19 - v13 - v20 h20 _ rfl _ ⟨b4, rfl, B4⟩ hN
    have W7 : Grow w w7 := W6.trans hw7
    have g_b4 : w.heap.size ≤ b4 := Nat.le_trans W6.size hN.1.1
    have n_b1_b4 : b1 ≠ b4 := Nat.ne_of_lt (Nat.lt_of_lt_of_le B1.lt hN.1.1)
    have n_b2_b4 : b2 ≠ b4 := Nat.ne_of_lt (Nat.lt_of_lt_of_le B2.lt hN.1.1)
    have n_b3_b4 : b3 ≠ b4 := Nat.ne_of_lt (Nat.lt_of_lt_of_le B3.lt hN.1.1)
    clear hN
    replace B1 := B1.grow hw7
    replace B2 := B2.grow hw7
    replace B3 := B3.grow hw7
    have KK : Kept [] w7 w7 := fun _ _ => rfl
    refine fr [va, pt b1, pt b2, pt b3, pt b4, u, v6, v7, v8, v9, .bool (decide ((val g m) = 0)), v11, v12, v13, v14, v15, v16, v17, v18, v19, v20, .bool (!decide ((signed (false) (1)) = 0)), u] ?_
    change wpListS _ _ _ _ [_, _] ⟨_, []⟩ _
    refine wpListS_yld rfl ?_
    refine yld_storeBox (R' := .rat (Rat.divInt (signed b (val f n)) (signed (false) (1)))) (b := b4) rfl rfl aggRat.size B4 (shRat _) h20 (shRat _) (St.rat _) (by decide) g_b4 fun w8 P8 E8 B' => ⟨fun _ => Kept.put KK P8 (fun _ hk => (by cases hk)), ?_⟩
    replace KK := Kept.put KK P8 (fun _ hk => (by cases hk))
    have W8 : Grow w w8 := W7.put P8 g_b4
    replace B1 := B1.put (St.part hB) P8 E8 n_b1_b4
    replace B2 := B2.put (St.rat _) P8 E8 n_b2_b4
    replace B3 := B3.put (St.nat _) P8 E8 n_b3_b4
    replace B4 := B'; clear B'
    replace h20 := MR.put h20 (St.rat _) E8
    change wpListS _ _ _ _ [_] ⟨_, []⟩ _
    refine wpListS_yld rfl ?_
    refine yld_assign rfl ⟨fun _ => KK, ?_⟩
    refine wpListS_nil ?_
    change Code.wp _ _ _ ⟨List.toArray (List.set _ 5 _), []⟩ _
    refine wp_seq ?_
    refine rg (fun c d v a w h => NL c d v a w h) [(22, .rat (Rat.divInt (signed b (val f n)) (signed (false) (1))))] [] [] [] 23 1 ?_ ?_
    · exact so [] (fun w9 hw9 => .fin (yld_loadBox rfl rfl aggRat (B4.grow hw9) (shRat _))) (.nil _ _)
    rintro w9 hw9 v22 h22 -
    have W9 : Grow w w9 := W8.trans hw9
    replace B1 := B1.grow hw9
    replace B2 := B2.grow hw9
    replace B3 := B3.grow hw9
    replace B4 := B4.grow hw9
    replace h20 := MR.mono _ hw9 h20
    have KK : Kept [] w9 w9 := fun _ _ => rfl
    refine fr [va, pt b1, pt b2, pt b3, pt b4, .bool (!decide ((signed (false) (1)) = 0)), v6, v7, v8, v9, .bool (decide ((val g m) = 0)), v11, v12, v13, v14, v15, v16, v17, v18, v19, v20, .bool (!decide ((signed (false) (1)) = 0)), v22] ?_
    change wpListS _ _ _ _ [_] ⟨_, []⟩ _
    refine wpListS_yld rfl ?_
    refine yld_storeBox (R' := .rat (Rat.divInt (signed b (val f n)) (signed (false) (1)))) (b := b2) rfl rfl aggRat.size B2 (shRat _) h22 (shRat _) (St.rat _) (by decide) g_b2 fun w10 P10 E10 B' => ⟨fun _ => Kept.put KK P10 (fun _ hk => (by cases hk)), ?_⟩
    replace KK := Kept.put KK P10 (fun _ hk => (by cases hk))
    have W10 : Grow w w10 := W9.put P10 g_b2
    replace B1 := B1.put (St.part hB) P10 E10 n_b1_b2
    replace B3 := B3.put (St.nat _) P10 E10 (Ne.symm n_b2_b3)
    replace B4 := B4.put (St.rat _) P10 E10 (Ne.symm n_b2_b4)
    replace B2 := B'; clear B'
    replace h20 := MR.put h20 (St.rat _) E10
    replace h22 := MR.put h22 (St.rat _) E10
    refine nx ?_
    have BR : Box w10 b2 37 (.rat (partQ b f n g m)) := (by have e : (Rat.divInt (signed b (val f n)) (signed (false) (1)) : Rat) = partQ b f n g m := (by unfold partQ; first | (rw [if_pos (of_decide_eq_true hc1)]; rfl) | (rw [if_neg (of_decide_eq_false hc1)]; rfl)); rw [← e]; exact B2)
    refine wp_ret ?_
    change bodyPost Try.prog Try.f30 (Ret (.rat (partQ b f n g m)) w) .ret _ _
    exact body_cell (b := b2) rfl rfl aggRat BR (shRat _) rfl W10
  · refine wp_skip ?_
    change Code.wp _ _ _ ⟨_, []⟩ _
    refine wp_seq ?_
    refine rg (fun c d v a w h => NL c d v a w h) [(14, .eq (.pointer (some ⟨b1, 0, none⟩))), (15, .whole (B) (b) (f) (n)), (16, .int (signed b (val f n))), (17, .nat (val g m)), (18, .int (signed (false) (val g m))), (19, .tup2 (.rat (Rat.divInt (signed b (val f n)) (signed (false) (val g m)))) (.eq (.bool (!decide ((signed (false) (val g m)) = 0))))), (13, .tup2 (.rat (Rat.divInt (signed b (val f n)) (signed (false) (val g m)))) (.eq (.bool (!decide ((signed (false) (val g m)) = 0))))), (20, .rat (Rat.divInt (signed b (val f n)) (signed (false) (val g m)))), (21, .eq (.bool (!decide ((signed (false) (val g m)) = 0)))), (4, .ptr 37 (.rat (0)))] [9] [8] [] 23 10 ?_ ?_
    · refine so [] (fun w11 hw11 => .fin (yld_fieldAddr rfl rfl fldPart0 ⟨Grow.refl _, rfl⟩)) ?_
      refine so [0] (fun w11 hw11 => by rintro _ rfl; exact .fin (yld_loadPart rfl rfl aggWhole (B1.grow hw11) (paPartP))) ?_
      refine so [1] (fun w11 hw11 => by rintro v15 h15; exact .fin (yld_call rfl cal_actuarylaw07_Make rfl (cMake7 (Nat.le_trans hB (Grow.trans W4 hw11).size) h15 hwf hn))) ?_
      refine so [] (fun w11 hw11 => .fin (yld_loadBox rfl rfl aggNat (B3.grow hw11) (shNat _))) ?_
      refine so [3] (fun w11 hw11 => by rintro v17 h17; exact .fin (yld_call rfl cal_integer_New rfl (cNew h17))) ?_
      refine so [2, 4] (fun w11 hw11 => by rintro v16 h16 v18 h18; exact .fin (yld_call rfl cal_rat_New rfl (cRatNew h16 h18 (signed_small (Nat.lt_of_le_of_lt (nw_val _ _ hwf) (by omega))) (signed_small (by first | exact Nat.lt_of_le_of_lt (nw_val _ _ hwg) (by omega) | decide))))) ?_
      refine so [5] (fun w11 hw11 => by rintro _ ⟨x19_0, x19_1, rfl, hx19_0, hx19_1⟩; exact .fin (yld_move rfl ⟨Grow.refl _, ⟨x19_0, x19_1, rfl, hx19_0, hx19_1⟩⟩)) ?_
      refine so [6] (fun w11 hw11 => by rintro _ ⟨x13_0, x13_1, rfl, hx13_0, hx13_1⟩; exact .fin (yld_extract rfl rfl rfl ⟨Grow.refl _, hx13_0⟩)) ?_
      refine sl [6] (fun w11 hw11 => by rintro _ ⟨x13_0, x13_1, rfl, hx13_0, hx13_1⟩; exact .fin (⟨_, fun w2 _ => pure_extract rfl rfl rfl w2, hx13_1⟩)) ?_
      exact sn [] (fun w11 hw11 => .fin (yld_newAlloc rfl zeroRat zRat)) (.nil _ _)
    rintro w11 hw11 v14 - v15 - v16 - v17 - v18 - v19 - v13 - v20 h20 _ rfl _ ⟨b4, rfl, B4⟩ hN
    have W11 : Grow w w11 := W4.trans hw11
    have g_b4 : w.heap.size ≤ b4 := Nat.le_trans W4.size hN.1.1
    have n_b2_b4 : b2 ≠ b4 := Nat.ne_of_lt (Nat.lt_of_lt_of_le B2.lt hN.1.1)
    clear hN
    replace B2 := B2.grow hw11
    have KK : Kept [] w11 w11 := fun _ _ => rfl
    refine fr [va, pt b1, pt b2, pt b3, pt b4, u, v6, v7, v8, v9, .bool (decide ((val g m) = 0)), u, u, v13, v14, v15, v16, v17, v18, v19, v20, .bool (!decide ((signed (false) (val g m)) = 0)), u] ?_
    change wpListS _ _ _ _ [_, _] ⟨_, []⟩ _
    refine wpListS_yld rfl ?_
    refine yld_storeBox (R' := .rat (Rat.divInt (signed b (val f n)) (signed (false) (val g m)))) (b := b4) rfl rfl aggRat.size B4 (shRat _) h20 (shRat _) (St.rat _) (by decide) g_b4 fun w12 P12 E12 B' => ⟨fun _ => Kept.put KK P12 (fun _ hk => (by cases hk)), ?_⟩
    replace KK := Kept.put KK P12 (fun _ hk => (by cases hk))
    have W12 : Grow w w12 := W11.put P12 g_b4
    replace B2 := B2.put (St.rat _) P12 E12 n_b2_b4
    replace B4 := B'; clear B'
    change wpListS _ _ _ _ [_] ⟨_, []⟩ _
    refine wpListS_yld rfl ?_
    refine yld_assign rfl ⟨fun _ => KK, ?_⟩
    refine wpListS_nil ?_
    change Code.wp _ _ _ ⟨List.toArray (List.set _ 5 _), []⟩ _
    refine wp_seq ?_
    refine rg (fun c d v a w h => NL c d v a w h) [(22, .rat (Rat.divInt (signed b (val f n)) (signed (false) (val g m))))] [] [] [] 23 1 ?_ ?_
    · exact so [] (fun w13 hw13 => .fin (yld_loadBox rfl rfl aggRat (B4.grow hw13) (shRat _))) (.nil _ _)
    rintro w13 hw13 v22 h22 -
    have W13 : Grow w w13 := W12.trans hw13
    replace B2 := B2.grow hw13
    have KK : Kept [] w13 w13 := fun _ _ => rfl
    refine fr [va, pt b1, pt b2, pt b3, pt b4, .bool (!decide ((signed (false) (val g m)) = 0)), v6, v7, v8, v9, .bool (decide ((val g m) = 0)), u, u, v13, v14, v15, v16, v17, v18, v19, v20, .bool (!decide ((signed (false) (val g m)) = 0)), v22] ?_
    change wpListS _ _ _ _ [_] ⟨_, []⟩ _
    refine wpListS_yld rfl ?_
    refine yld_storeBox (R' := .rat (Rat.divInt (signed b (val f n)) (signed (false) (val g m)))) (b := b2) rfl rfl aggRat.size B2 (shRat _) h22 (shRat _) (St.rat _) (by decide) g_b2 fun w14 P14 E14 B' => ⟨fun _ => Kept.put KK P14 (fun _ hk => (by cases hk)), ?_⟩
    have W14 : Grow w w14 := W13.put P14 g_b2
    replace B2 := B'; clear B'
    refine nx ?_
    have BR : Box w14 b2 37 (.rat (partQ b f n g m)) := (by have e : (Rat.divInt (signed b (val f n)) (signed (false) (val g m)) : Rat) = partQ b f n g m := (by unfold partQ; first | (rw [if_pos (of_decide_eq_true hc1)]; rfl) | (rw [if_neg (of_decide_eq_false hc1)]; rfl)); rw [← e]; exact B2)
    refine wp_ret ?_
    change bodyPost Try.prog Try.f30 (Ret (.rat (partQ b f n g m)) w) .ret _ _
    exact body_cell (b := b2) rfl rfl aggRat BR (shRat _) rfl W14
end Go.Proofs.Ytknflfnkdieomaa
