/- rat.Sum; actuarylaw08.RatSum, its walk. -/
import Derived.Test.YtknflfnkdieomaaAwake8
import Derived.Test.YtknflfnkdieomaaRatL
import Derived.Test.YtknflfnkdieomaaVec
import Derived.Deep.LoopGhost
namespace Go.Proofs.Ytknflfnkdieomaa
open Go.RowKit
theorem cal_actuarylaw08_awake : Callable Try.prog 20 := callable_of Try.func20 rfl (by kernel_rfl)
theorem cal_rat_Rat_Zero : Callable Try.prog 24 := callable_of Try.func24 rfl (by kernel_rfl)
theorem cal_actuarylaw08_Make : Callable Try.prog 30 := callable_of Try.func30 rfl (by kernel_rfl)
theorem cal_rat_Sum : Callable Try.prog 35 := callable_of Try.func35 rfl (by kernel_rfl)
theorem vec_len {F : Nat → Prop} {s n : Nat} {E : Nat → MR} {w : World} {v : Value} (h : (MR.sl F s E n).R w v) : n ≤ 9223372036854775807 := by
  obtain ⟨A, c, _, _, h1, h2, _⟩ := h
  unfold maxLen at h2
  omega
theorem sum_lt {i n : Nat} (h : (((decide ((((i : Nat) : Int) : Int) < (((n : Nat) : Int) : Int))) && (decide ((((i : Nat) : Int) : Int) < (10 : Int))))) = true) : i < n ∧ i < 10 := by
  simp only [Bool.and_eq_true, decide_eq_true_eq] at h
  omega
theorem pow_le10 {k n : Nat} (h : k ≤ n) : 2 ^ k * (2097153 + 1) ≤ 2 ^ n * (2097153 + 1) := Nat.mul_le_mul_right _ (Nat.pow_le_pow_right (by omega) h)
set_option maxRecDepth 100000 in
set_option maxHeartbeats 2000000 in
theorem cRatSum {F : Nat → Prop} {q : Nat → Rat} {n : Nat} {va : Value} {w : World}  (hv : (MR.vec (F) (q) (n)).R w va) (hs : ∀ i, i < n → szq (sumQ q i) + szq (q i) ≤ 17179869184) : Calls Try.prog 35 #[va] w (Ret (.rat (sumQ q n)) w) := by
  have hmx := vec_len hv
  refine calls_enter (a := ⟨List.toArray ([va] ++ us 16), []⟩) Try.func35 rfl (by kernel_rfl) ?_
  have NL : NoLook (bodyPost Try.prog Try.f35 (Ret (.rat (sumQ q n)) w)) := noLook_body
  replace hv := sl_own (F' := fun k => w.heap.size ≤ k) hv (fun k hk => .inr hk)
  refine wp_seq ?_
  refine rg (fun c d v a w h => NL c d v a w h) [(2, .ptr 37 (.rat (0)))] [0] [] [] 17 1 ?_ ?_
  · exact sn [] (fun w1 hw1 => .fin (yld_newAlloc rfl zeroRat zRat)) (.nil _ _)
  rintro w1 hw1 _ ⟨b2, rfl, B2⟩ hN
  have W1 : Grow w w1 := (Grow.refl w).trans hw1
  have z1 : w.heap.size ≤ w1.heap.size := hw1.size
  have g_b2 : w.heap.size ≤ b2 := Nat.le_trans (Grow.refl w).size hN.1.1
  have y_b2 : w.heap.size ≤ b2 ∧ b2 < w1.heap.size := hN.1
  clear hN
  replace hv := MR.mono _ hw1 hv
  refine fr ([va, u, pt b2] ++ us 14) ?_
  refine nx ?_
  refine wp_seq ?_
  refine rg (fun c d v a w h => NL c d v a w h) [(3, .ptr 37 (.rat (0)))] [0] [] [] 17 1 ?_ ?_
  · exact sn [] (fun w2 hw2 => .fin (yld_newAlloc rfl zeroRat zRat)) (.nil _ _)
  rintro w2 hw2 _ ⟨b3, rfl, B3⟩ hN
  have W2 : Grow w w2 := W1.trans hw2
  have z2 : w1.heap.size ≤ w2.heap.size := hw2.size
  have g_b3 : w.heap.size ≤ b3 := Nat.le_trans W1.size hN.1.1
  have y_b3 : w1.heap.size ≤ b3 ∧ b3 < w2.heap.size := hN.1
  have n_b2_b3 : b2 ≠ b3 := Nat.ne_of_lt (Nat.lt_of_lt_of_le B2.lt hN.1.1)
  clear hN
  replace B2 := B2.grow hw2
  replace hv := MR.mono _ hw2 hv
  refine fr ([va, u, pt b2, pt b3] ++ us 13) ?_
  refine nx ?_
  refine wp_seq ?_
  refine wp_seq ?_
  refine rg (fun c d v a w h => NL c d v a w h) [(6, .vec (fun k => w.heap.size ≤ k) (q) (n)), (7, .eq (.int .i64 (((n : Nat) : Int)))), (8, .eq (.int .i64 (0)))] [] [] [] 17 3 ?_ ?_
  · refine so [] (fun w3 hw3 => .fin (yld_move rfl ⟨Grow.refl _, (MR.mono _ hw3 hv)⟩)) ?_
    refine soP [(6, .vec (fun k => w.heap.size ≤ k) (q) (n))] (fun w3 hw3 => by rintro v6 h6; exact .fin (yld_lenS Try.underlying60 rfl h6)) ?_
    exact so [] (fun w3 hw3 => .fin (yld_move rfl ⟨Grow.refl _, rfl⟩)) (.nil _ _)
  rintro w3 hw3 v6 h6 _ rfl _ rfl -
  have W3 : Grow w w3 := W2.trans hw3
  have z3 : w2.heap.size ≤ w3.heap.size := hw3.size
  replace B2 := B2.grow hw3
  replace B3 := B3.grow hw3
  replace hv := MR.mono _ hw3 hv
  refine fr ([va, u, pt b2, pt b3, u, u, v6, It n, .int .i64 (0)] ++ us 8) ?_
  refine nx ?_
  refine wp_block ?_
  refine wp_loop_ghost (fun nn ac4 w4 => ∃ (i : Nat), nn = n - i ∧ (i ≤ n) ∧ ∃ tt4 : Nat → Value, ac4 = ⟨List.toArray (va :: u :: pt b2 :: pt b3 :: u :: (tt4 5) :: v6 :: It n :: It i :: (tt4 9) :: (tt4 10) :: (tt4 11) :: (tt4 12) :: (tt4 13) :: (tt4 14) :: (tt4 15) :: u :: []), []⟩ ∧ Grow w w4 ∧ Box w4 b2 37 (.rat (0)) ∧ Box w4 b3 37 (.rat (sumQ q i)) ∧ (MR.vec (fun k => w.heap.size ≤ k) (q) (n)).R w4 va ∧ (MR.vec (fun k => w.heap.size ≤ k) (q) (n)).R w4 v6) (n - 0) ⟨0, rfl, Nat.zero_le _, fun d => ([u, v6, It n, .int .i64 (0), u, u, u, u, u, u, u] : List Value).getD (d - 5) undef, by kernel_rfl, W3, B2, B3, hv, h6⟩ ?_
  clear B2 B3 hv h6
  rintro nn4 _ w4 ⟨i, hnn4, hinv, tt4, rfl, W4, B2, B3, hv, h6⟩
  refine wp_seq ?_
  refine rg (fun c d v a w h => NL c d v a w h) [(9, .eq (.bool (decide ((((i : Nat) : Int) : Int) < (((n : Nat) : Int) : Int)))))] [] [] [] 17 1 ?_ ?_
  · exact so [] (fun w5 hw5 => .fin (yld_lss rfl rfl rfl ⟨Grow.refl _, rfl⟩)) (.nil _ _)
  rintro w5 hw5 _ rfl -
  have W5 : Grow w w5 := W4.trans hw5
  have z5 : w4.heap.size ≤ w5.heap.size := hw5.size
  replace B2 := B2.grow hw5
  replace B3 := B3.grow hw5
  replace hv := MR.mono _ hw5 hv
  replace h6 := MR.mono _ hw5 h6
  refine fr (va :: u :: pt b2 :: pt b3 :: u :: (tt4 5) :: v6 :: It n :: It i :: .bool (decide ((((i : Nat) : Int) : Int) < (((n : Nat) : Int) : Int))) :: (tt4 10) :: (tt4 11) :: (tt4 12) :: (tt4 13) :: (tt4 14) :: (tt4 15) :: u :: []) ?_
  refine nx ?_
  refine wp_seq ?_
  refine wp_cond_split (t := decide ((((i : Nat) : Int) : Int) < (((n : Nat) : Int) : Int))) rfl (fun hc => ?_) (fun hc => ?_)
  · have hlt : i < n := by have := of_decide_eq_true hc; omega
    refine wp_skip ?_
    change Code.wp _ _ _ ⟨_, []⟩ _
    refine wp_seq ?_
    refine wp_block ?_
    refine wp_seq ?_
    refine rg (fun c d v a w h => NL c d v a w h) [(10, .eptr (fun k => w.heap.size ≤ k) 3 (.rat (q i))), (11, .rat (q i)), (5, .ptr 37 (.rat (0)))] [2] [] [] 17 3 ?_ ?_
    · refine so [] (fun w6 hw6 => .fin (yld_indexV (k := i) Try.underlying60 rfl (MR.mono _ hw6 h6) rfl rfl (hlt))) ?_
      refine soP [(10, .eptr (fun k => w.heap.size ≤ k) 3 (.rat (q i)))] (fun w6 hw6 => by rintro v10 h10; exact .fin (yld_loadQ rfl h10)) ?_
      exact sn [] (fun w6 hw6 => .fin (yld_newAlloc rfl zeroRat zRat)) (.nil _ _)
    rintro w6 hw6 v10 - v11 h11 _ ⟨b5, rfl, B5⟩ hN
    have W6 : Grow w w6 := W5.trans hw6
    have z6 : w5.heap.size ≤ w6.heap.size := hw6.size
    have g_b5 : w.heap.size ≤ b5 := Nat.le_trans W5.size hN.1.1
    have y_b5 : w5.heap.size ≤ b5 ∧ b5 < w6.heap.size := hN.1
    have n_b2_b5 : b2 ≠ b5 := Nat.ne_of_lt (Nat.lt_of_lt_of_le B2.lt hN.1.1)
    have n_b3_b5 : b3 ≠ b5 := Nat.ne_of_lt (Nat.lt_of_lt_of_le B3.lt hN.1.1)
    clear hN
    replace B2 := B2.grow hw6
    replace B3 := B3.grow hw6
    replace hv := MR.mono _ hw6 hv
    replace h6 := MR.mono _ hw6 h6
    have KK : Kept [] w6 w6 := fun _ _ => rfl
    refine fr (va :: u :: pt b2 :: pt b3 :: u :: pt b5 :: v6 :: It n :: It i :: .bool (decide ((((i : Nat) : Int) : Int) < (((n : Nat) : Int) : Int))) :: v10 :: v11 :: (tt4 12) :: (tt4 13) :: (tt4 14) :: (tt4 15) :: u :: []) ?_
    change wpListS _ _ _ _ [_] ⟨_, []⟩ _
    refine wpListS_yld rfl ?_
    refine yld_storeBox (R' := .rat (q i)) (b := b5) rfl rfl aggRat.size B5 (shRat _) h11 (shRat _) (St.rat _) (by decide) g_b5 fun w7 P7 E7 B' => ⟨fun _ => Kept.put KK P7 (fun _ hk => (by cases hk)), ?_⟩
    replace KK := Kept.put KK P7 (fun _ hk => (by cases hk))
    have W7 : Grow w w7 := W6.put P7 g_b5
    have z7 : w6.heap.size ≤ w7.heap.size := Nat.le_of_eq P7.size.symm
    replace hv := StF.vec (Put.extB P7 B5 (by decide) g_b5) hv
    replace h6 := StF.vec (Put.extB P7 B5 (by decide) g_b5) h6
    replace B2 := B2.put (St.rat _) P7 E7 n_b2_b5
    replace B3 := B3.put (St.rat _) P7 E7 n_b3_b5
    replace B5 := B'; clear B'
    refine nx ?_
    refine rg (fun c d v a w h => NL c d v a w h) [(12, .rat (sumQ q i)), (13, .rat (q i)), (14, .rat ((sumQ q i) + (q i)))] [] [] [] 17 3 ?_ ?_
    · refine so [] (fun w8 hw8 => .fin (yld_loadBox rfl rfl aggRat (B3.grow hw8) (shRat _))) ?_
      refine so [] (fun w8 hw8 => .fin (yld_loadBox rfl rfl aggRat (B5.grow hw8) (shRat _))) ?_
      exact so [0, 1] (fun w8 hw8 => by rintro v12 h12 v13 h13; exact .fin (yld_call rfl cal_rat_Add rfl (cRatAdd h12 h13 (hs i hlt)))) (.nil _ _)
    rintro w8 hw8 v12 - v13 - v14 h14 -
    have W8 : Grow w w8 := W7.trans hw8
    have z8 : w7.heap.size ≤ w8.heap.size := hw8.size
    replace B2 := B2.grow hw8
    replace B3 := B3.grow hw8
    replace hv := MR.mono _ hw8 hv
    replace h6 := MR.mono _ hw8 h6
    have KK : Kept [] w8 w8 := fun _ _ => rfl
    refine fr (va :: u :: pt b2 :: pt b3 :: u :: pt b5 :: v6 :: It n :: It i :: .bool (decide ((((i : Nat) : Int) : Int) < (((n : Nat) : Int) : Int))) :: v10 :: v11 :: v12 :: v13 :: v14 :: (tt4 15) :: u :: []) ?_
    change wpListS _ _ _ _ [_] ⟨_, []⟩ _
    refine wpListS_yld rfl ?_
    refine yld_storeBox (R' := .rat ((sumQ q i) + (q i))) (b := b3) rfl rfl aggRat.size B3 (shRat _) h14 (shRat _) (St.rat _) (by decide) g_b3 fun w9 P9 E9 B' => ⟨fun _ => Kept.put KK P9 (fun _ hk => (by cases hk)), ?_⟩
    replace KK := Kept.put KK P9 (fun _ hk => (by cases hk))
    have W9 : Grow w w9 := W8.put P9 g_b3
    have z9 : w8.heap.size ≤ w9.heap.size := Nat.le_of_eq P9.size.symm
    replace hv := StF.vec (Put.extB P9 B3 (by decide) g_b3) hv
    replace h6 := StF.vec (Put.extB P9 B3 (by decide) g_b3) h6
    replace B2 := B2.put (St.rat _) P9 E9 n_b2_b3
    replace B3 := B'; clear B'
    refine wpListS_nil ?_
    change Code.wp _ _ _ ⟨_, []⟩ _
    refine rg (fun c d v a w h => NL c d v a w h) [(15, .eq (.int .i64 (((i + 1 : Nat) : Int))))] [] [] [] 17 1 ?_ ?_
    · exact so [] (fun w10 hw10 => .fin (yld_add rfl rfl rfl (r := ((i + 1 : Nat) : Int)) (by rw [IntKind.wrap_i64]; omega) ⟨Grow.refl _, rfl⟩)) (.nil _ _)
    rintro w10 hw10 _ rfl -
    have W10 : Grow w w10 := W9.trans hw10
    have z10 : w9.heap.size ≤ w10.heap.size := hw10.size
    replace B2 := B2.grow hw10
    replace B3 := B3.grow hw10
    replace hv := MR.mono _ hw10 hv
    replace h6 := MR.mono _ hw10 h6
    have KK : Kept [] w10 w10 := fun _ _ => rfl
    refine fr (va :: u :: pt b2 :: pt b3 :: u :: pt b5 :: v6 :: It n :: It i :: .bool (decide ((((i : Nat) : Int) : Int) < (((n : Nat) : Int) : Int))) :: v10 :: v11 :: v12 :: v13 :: v14 :: It (i + 1) :: u :: []) ?_
    change wpListS _ _ _ _ [_] ⟨_, []⟩ _
    refine wpListS_yld rfl ?_
    refine yld_move rfl ⟨fun _ => KK, ?_⟩
    refine wpListS_nil ?_
    refine ⟨_, ?_, i + 1, rfl, (by omega), fun d => ([pt b5, v6, It n, It (i + 1), .bool (decide ((((i : Nat) : Int) : Int) < (((n : Nat) : Int) : Int))), v10, v11, v12, v13, v14, It (i + 1)] : List Value).getD (d - 5) undef, by kernel_rfl, W10, B2, B3, hv, h6⟩
    rw [hnn4]; omega
  · have hin : i = n := by have := of_decide_eq_false hc; omega
    refine wp_exit ?_
    change Code.wp _ _ _ ⟨_, []⟩ _
    refine wp_seq ?_
    refine rg (fun c d v a w h => NL c d v a w h) [(16, .rat (sumQ q i))] [] [] [] 17 1 ?_ ?_
    · exact so [] (fun w11 hw11 => .fin (yld_loadBox rfl rfl aggRat (B3.grow hw11) (shRat _))) (.nil _ _)
    rintro w11 hw11 v16 h16 -
    have W11 : Grow w w11 := W5.trans hw11
    have z11 : w5.heap.size ≤ w11.heap.size := hw11.size
    replace B2 := B2.grow hw11
    replace hv := MR.mono _ hw11 hv
    have KK : Kept [] w11 w11 := fun _ _ => rfl
    refine fr (va :: u :: pt b2 :: pt b3 :: u :: (tt4 5) :: v6 :: It n :: It i :: .bool (decide ((((i : Nat) : Int) : Int) < (((n : Nat) : Int) : Int))) :: (tt4 10) :: (tt4 11) :: (tt4 12) :: (tt4 13) :: (tt4 14) :: (tt4 15) :: v16 :: []) ?_
    change wpListS _ _ _ _ [_] ⟨_, []⟩ _
    refine wpListS_yld rfl ?_
    refine yld_storeBox (R' := .rat (sumQ q i)) (b := b2) rfl rfl aggRat.size B2 (shRat _) h16 (shRat _) (St.rat _) (by decide) g_b2 fun w12 P12 E12 B' => ⟨fun _ => Kept.put KK P12 (fun _ hk => (by cases hk)), ?_⟩
    have W12 : Grow w w12 := W11.put P12 g_b2
    have z12 : w11.heap.size ≤ w12.heap.size := Nat.le_of_eq P12.size.symm
    replace hv := StF.vec (Put.extB P12 B2 (by decide) g_b2) hv
    replace B2 := B'; clear B'
    refine nx ?_
    have BR : Box w12 b2 37 (.rat (sumQ q n)) := (by have e : (sumQ q i : Rat) = sumQ q n := (by rw [hin]); rw [← e]; exact B2)
    refine wp_ret ?_
    change bodyPost Try.prog Try.f35 (Ret (.rat (sumQ q n)) w) .ret _ _
    exact body_cell (b := b2) rfl rfl aggRat BR (shRat _) rfl W12
set_option maxRecDepth 100000 in
set_option maxHeartbeats 2000000 in
theorem ratSum {pb : Nat → Bool} {pf pg : Nat → Nat → Nat} {pn pm : Nat → Nat} {n : Nat} {va : Value} {w : World}  (hv : (MR.sl (fun k => w.heap.size ≤ k) 3 (fun i => .part w.heap.size (pb i) (pf i) (pn i) (pg i) (pm i)) (n)).R w va) (wf : ∀ i, i < n → Wf (pf i) (pn i)) (hn : ∀ i, i < n → pn i ≤ 1048576) (wg : ∀ i, i < n → Wf (pg i) (pm i)) (hm : ∀ i, i < n → pm i ≤ 1048576) : Calls Try.prog 9 #[va] w (Ret (.eq (.bool (true))) w) := by
  obtain ⟨Q, hQ⟩ : ∃ Q : Nat → Rat, Q = fun i => partQ (pb i) (pf i) (pn i) (pg i) (pm i) := ⟨_, rfl⟩
  have sQ : ∀ i, i < n → szq (Q i) ≤ 2097153 := fun i hi => by subst hQ; have := szq_part (b := pb i) (wf i hi) (wg i hi); have := hn i hi; have := hm i hi; show szq (partQ _ _ _ _ _) ≤ _; omega
  have hB := Nat.le_refl w.heap.size
  have hmx := vec_len hv
  refine calls_enter (a := ⟨List.toArray ([va] ++ us 37), []⟩) Try.func9 rfl (by kernel_rfl) ?_
  have NL : NoLook (bodyPost Try.prog Try.f9 (Ret (.eq (.bool (true))) w)) := noLook_body
  refine wp_seq ?_
  refine rg (fun c d v a w h => NL c d v a w h) [(2, .eq (.bool (false)))] [] [] [] 38 1 ?_ ?_
  · exact so [] (fun w1 hw1 => .fin (yld_assign rfl ⟨Grow.refl _, rfl⟩)) (.nil _ _)
  rintro w1 hw1 _ rfl -
  have W1 : Grow w w1 := (Grow.refl w).trans hw1
  have z1 : w.heap.size ≤ w1.heap.size := hw1.size
  replace hv := MR.mono _ hw1 hv
  refine fr ([va, u, .bool (false)] ++ us 35) ?_
  refine nx ?_
  refine wp_seq ?_
  refine wp_seq ?_
  refine rg (fun c d v a w h => NL c d v a w h) [(7, .eq (.bool (true))), (8, .eq (.bool (!true)))] [] [] [] 38 2 ?_ ?_
  · refine so [] (fun w2 hw2 => .fin (yld_call rfl cal_actuarylaw08_awake rfl (cAwake8))) ?_
    exact so [0] (fun w2 hw2 => by rintro _ rfl; exact .fin (yld_not rfl rfl ⟨Grow.refl _, rfl⟩)) (.nil _ _)
  rintro w2 hw2 _ rfl _ rfl -
  have W2 : Grow w w2 := W1.trans hw2
  have z2 : w1.heap.size ≤ w2.heap.size := hw2.size
  replace hv := MR.mono _ hw2 hv
  refine fr ([va, u, .bool (false), u, u, u, u, .bool (true), .bool (!true)] ++ us 29) ?_
  refine nx ?_
  refine wp_cond_false rfl ?_
  refine wp_skip ?_
  change Code.wp _ _ _ ⟨_, []⟩ _
  refine wp_seq ?_
  refine rg (fun c d v a w h => NL c d v a w h) [(3, .eq (.slice none 0 0))] [] [] [] 38 1 ?_ ?_
  · exact so [] (fun w3 hw3 => .fin (yld_assign rfl ⟨Grow.refl _, rfl⟩)) (.nil _ _)
  rintro w3 hw3 _ rfl -
  have W3 : Grow w w3 := W2.trans hw3
  have z3 : w2.heap.size ≤ w3.heap.size := hw3.size
  replace hv := MR.mono _ hw3 hv
  refine fr ([va, u, .bool (false), .slice none 0 0, u, u, u, .bool (true), .bool (!true)] ++ us 29) ?_
  refine nx ?_
  refine wp_seq ?_
  refine rg (fun c d v a w h => NL c d v a w h) [(4, .ptr 37 (.rat (0)))] [0] [] [] 38 1 ?_ ?_
  · exact sn [] (fun w4 hw4 => .fin (yld_newAlloc rfl zeroRat zRat)) (.nil _ _)
  rintro w4 hw4 _ ⟨b4, rfl, B4⟩ hN
  have W4 : Grow w w4 := W3.trans hw4
  have z4 : w3.heap.size ≤ w4.heap.size := hw4.size
  have g_b4 : w.heap.size ≤ b4 := Nat.le_trans W3.size hN.1.1
  have y_b4 : w3.heap.size ≤ b4 ∧ b4 < w4.heap.size := hN.1
  clear hN
  replace hv := MR.mono _ hw4 hv
  refine fr ([va, u, .bool (false), .slice none 0 0, pt b4, u, u, .bool (true), .bool (!true)] ++ us 29) ?_
  refine nx ?_
  refine wp_seq ?_
  refine wp_seq ?_
  refine rg (fun c d v a w h => NL c d v a w h) [(5, .eq (.int .i64 (0)))] [] [] [] 38 1 ?_ ?_
  · exact so [] (fun w5 hw5 => .fin (yld_assign rfl ⟨Grow.refl _, rfl⟩)) (.nil _ _)
  rintro w5 hw5 _ rfl -
  have W5 : Grow w w5 := W4.trans hw5
  have z5 : w4.heap.size ≤ w5.heap.size := hw5.size
  replace B4 := B4.grow hw5
  replace hv := MR.mono _ hw5 hv
  refine fr ([va, u, .bool (false), .slice none 0 0, pt b4, .int .i64 (0), u, .bool (true), .bool (!true)] ++ us 29) ?_
  refine nx ?_
  refine wp_block ?_
  refine wp_loop_ghost (fun nn ac6 w6 => ∃ (i : Nat), nn = n - i ∧ (i ≤ n ∧ i ≤ 10) ∧ ∃ (t3 : Value) (tt6 : Nat → Value), ac6 = ⟨List.toArray (va :: u :: (tt6 2) :: t3 :: pt b4 :: It i :: (tt6 6) :: .bool (true) :: .bool (!true) :: (tt6 9) :: (tt6 10) :: (tt6 11) :: (tt6 12) :: (tt6 13) :: (tt6 14) :: (tt6 15) :: (tt6 16) :: (tt6 17) :: (tt6 18) :: (tt6 19) :: (tt6 20) :: (tt6 21) :: (tt6 22) :: (tt6 23) :: (tt6 24) :: (tt6 25) :: (tt6 26) :: (tt6 27) :: (tt6 28) :: (tt6 29) :: (tt6 30) :: (tt6 31) :: (tt6 32) :: (tt6 33) :: (tt6 34) :: (tt6 35) :: u :: u :: []), []⟩ ∧ Grow w w6 ∧ Box w6 b4 37 (.rat (sumQ Q i)) ∧ (MR.sl (fun k => w.heap.size ≤ k) 3 (fun i => .part w.heap.size (pb i) (pf i) (pn i) (pg i) (pm i)) (n)).R w6 va ∧ (MR.ownv (w.heap.size) (fun k => k = b4) (Q) (i)).R w6 t3) (n - 0) ⟨0, rfl, ⟨Nat.zero_le _, Nat.zero_le _⟩, .slice none 0 0, fun d => ((.bool (false) :: .slice none 0 0 :: pt b4 :: .int .i64 (0) :: u :: .bool (true) :: .bool (!true) :: u :: u :: u :: u :: u :: u :: u :: u :: u :: u :: u :: u :: u :: u :: u :: u :: u :: u :: u :: u :: u :: u :: u :: u :: u :: u :: u :: []) : List Value).getD (d - 2) undef, by kernel_rfl, W5, B4, hv, ownv_nil⟩ ?_
  clear B4 hv
  rintro nn6 _ w6 ⟨i, hnn6, ⟨hin, hi10⟩, t3, tt6, rfl, W6, B4, hv, h3⟩
  replace h3 := ownv_own (F' := fun k => k = b4 ∨ w6.heap.size ≤ k) h3 (fun k hk => hk.imp id id)
  refine wp_seq ?_
  refine wp_seq ?_
  obtain ⟨x8, ex8⟩ : ∃ c : Bool, c = (decide ((((i : Nat) : Int) : Int) < (((n : Nat) : Int) : Int))) := ⟨_, rfl⟩
  obtain ⟨x9, ex9⟩ : ∃ c : Bool, c = (decide ((((i : Nat) : Int) : Int) < (10 : Int))) := ⟨_, rfl⟩
  obtain ⟨x10, ex10⟩ : ∃ c : Bool, c = ((x8 && x9)) := ⟨_, rfl⟩
  refine rg (fun c d v a w h => NL c d v a w h) [(9, .eq (.int .i64 (((i : Nat) : Int)))), (10, .sl (fun k => w.heap.size ≤ k) 3 (fun i => .part w.heap.size (pb i) (pf i) (pn i) (pg i) (pm i)) (n)), (11, .eq (.int .i64 (((n : Nat) : Int)))), (12, .eq (.bool (x8))), (13, .eq (.bool (x8))), (14, .opt ((x8 == true)) (.eq (.int .i64 (((i : Nat) : Int))))), (15, .opt ((x8 == true)) (.eq (.bool (x9)))), (16, .eq (.bool (x10)))] [] [] [] 38 8 ?_ ?_
  · refine so [] (fun w7 hw7 => .fin (yld_move rfl ⟨Grow.refl _, rfl⟩)) ?_
    refine so [] (fun w7 hw7 => .fin (yld_move rfl ⟨Grow.refl _, (MR.mono _ hw7 hv)⟩)) ?_
    refine soP [(10, .sl (fun k => w.heap.size ≤ k) 3 (fun i => .part w.heap.size (pb i) (pf i) (pn i) (pg i) (pm i)) (n))] (fun w7 hw7 => by rintro v10 h10; exact .fin (yld_lenS Try.underlying59 rfl h10)) ?_
    refine so [0, 2] (fun w7 hw7 => by rintro _ rfl _ rfl; exact .fin (yld_eqTo (c := .bool (decide ((((i : Nat) : Int) : Int) < (((n : Nat) : Int) : Int)))) (yld_lss rfl rfl rfl ⟨Grow.refl _, rfl⟩) (congrArg Value.bool ex8.symm))) ?_
    refine so [3] (fun w7 hw7 => by rintro _ rfl; exact .fin (yld_move rfl ⟨Grow.refl _, rfl⟩)) ?_
    refine sg (c := (x8 == true)) 13 [4] (fun w7 hw7 => by rintro _ rfl; exact .fin (⟨guard_eq, fun hc => yld_move rfl ⟨Grow.refl _, rfl⟩⟩)) ?_
    refine sg (c := (x8 == true)) 13 [4, 5] (fun w7 hw7 => by rintro _ rfl v14 h14; exact .fin (⟨guard_eq, fun hc => yld_eqTo (c := .bool (decide ((((i : Nat) : Int) : Int) < (10 : Int)))) (yld_lss rfl (show v14 = .int .i64 (((i : Nat) : Int)) from (h14.1 (by revert hc; exact fun h => h))) rfl ⟨Grow.refl _, rfl⟩) (congrArg Value.bool ex9.symm)⟩)) ?_
    exact so [4, 6] (fun w7 hw7 => by rintro _ rfl v15 h15; exact .fin (yld_eqTo (c := .bool ((x8 && x9))) (yld_pick_and rfl rfl (fun ht => h15.1 (by revert ht; cases x8 <;> decide)) rfl ⟨Grow.refl _, rfl⟩) (congrArg Value.bool ex10.symm))) (.nil _ _)
  rintro w7 hw7 v9 - v10 - v11 - _ rfl _ rfl v14 - v15 - _ rfl -
  have W7 : Grow w w7 := W6.trans hw7
  have z7 : w6.heap.size ≤ w7.heap.size := hw7.size
  replace B4 := B4.grow hw7
  replace hv := MR.mono _ hw7 hv
  replace h3 := MR.mono _ hw7 h3
  subst ex8
  subst ex9
  subst ex10
  refine fr (va :: u :: (tt6 2) :: t3 :: pt b4 :: It i :: (tt6 6) :: .bool (true) :: .bool (!true) :: v9 :: v10 :: v11 :: .bool ((decide ((((i : Nat) : Int) : Int) < (((n : Nat) : Int) : Int)))) :: .bool ((decide ((((i : Nat) : Int) : Int) < (((n : Nat) : Int) : Int)))) :: v14 :: v15 :: .bool ((((decide ((((i : Nat) : Int) : Int) < (((n : Nat) : Int) : Int))) && (decide ((((i : Nat) : Int) : Int) < (10 : Int)))))) :: (tt6 17) :: (tt6 18) :: (tt6 19) :: (tt6 20) :: (tt6 21) :: (tt6 22) :: (tt6 23) :: (tt6 24) :: (tt6 25) :: (tt6 26) :: (tt6 27) :: (tt6 28) :: (tt6 29) :: (tt6 30) :: (tt6 31) :: (tt6 32) :: (tt6 33) :: (tt6 34) :: (tt6 35) :: u :: u :: []) ?_
  refine nx ?_
  refine wp_cond_split (t := (((decide ((((i : Nat) : Int) : Int) < (((n : Nat) : Int) : Int))) && (decide ((((i : Nat) : Int) : Int) < (10 : Int)))))) rfl (fun hc => ?_) (fun hc => ?_)
  · have hlt : i < n := (sum_lt hc).1
    have hlt10 : i < 10 := (sum_lt hc).2
    have hs1 := sum_sz (M := 2097153) i fun j hj => sQ j (by omega)
    have hs2 := sum_sz (M := 2097153) (i + 1) fun j hj => sQ j (by omega)
    have hs3 := sQ i hlt
    have hp := pow_le10 (show i + 2 ≤ 11 by omega)
    have hp2 := pow_le10 (show i + 1 + 2 ≤ 12 by omega)
    refine wp_skip ?_
    change Code.wp _ _ _ ⟨_, []⟩ _
    refine wp_seq ?_
    refine wp_block ?_
    refine wp_seq ?_
    refine rg (fun c d v a w h => NL c d v a w h) [(19, .sl (fun k => w.heap.size ≤ k) 3 (fun i => .part w.heap.size (pb i) (pf i) (pn i) (pg i) (pm i)) (n)), (20, .eq (.int .i64 (((i : Nat) : Int)))), (21, .eptr (fun k => w.heap.size ≤ k) 3 (.part (w.heap.size) ((pb i)) ((pf i)) ((pn i)) ((pg i)) ((pm i)))), (22, .part (w.heap.size) ((pb i)) ((pf i)) ((pn i)) ((pg i)) ((pm i))), (23, .rat (Q i)), (6, .ptr 37 (.rat (0)))] [5] [] [] 38 6 ?_ ?_
    · refine so [] (fun w11 hw11 => .fin (yld_move rfl ⟨Grow.refl _, (MR.mono _ hw11 hv)⟩)) ?_
      refine so [] (fun w11 hw11 => .fin (yld_move rfl ⟨Grow.refl _, rfl⟩)) ?_
      refine soP [(19, .sl (fun k => w.heap.size ≤ k) 3 (fun i => .part w.heap.size (pb i) (pf i) (pn i) (pg i) (pm i)) (n)), (20, .eq (.int .i64 (((i : Nat) : Int))))] (fun w11 hw11 => by rintro v19 h19 _ rfl; exact .fin (yld_indexS (E := fun i => .part w.heap.size (pb i) (pf i) (pn i) (pg i) (pm i)) (k := i) Try.underlying59 (by kernel_rfl) rfl h19 rfl rfl (hlt))) ?_
      refine soP [(21, .eptr (fun k => w.heap.size ≤ k) 3 (.part (w.heap.size) ((pb i)) ((pf i)) ((pn i)) ((pg i)) ((pm i))))] (fun w11 hw11 => by rintro v21 h21; exact .fin (yld_loadR Try.underlying54 rfl (by kernel_rfl) shPart rfl h21)) ?_
      refine so [3] (fun w11 hw11 => by rintro v22 h22; exact .fin (yld_as (R := .rat (partQ ((pb i)) ((pf i)) ((pn i)) ((pg i)) ((pm i)))) (R2 := .rat (Q i)) (yld_call rfl cal_actuarylaw08_Make rfl (cMake8 (Nat.le_trans hB (Grow.trans W7 hw11).size) h22 (wf i hlt) (hn i hlt) (wg i hlt) (hm i hlt))) (fun h => by rw [hQ]; exact h))) ?_
      exact sn [] (fun w11 hw11 => .fin (yld_newAlloc rfl zeroRat zRat)) (.nil _ _)
    rintro w11 hw11 v19 - v20 - v21 - v22 - v23 h23 _ ⟨b6, rfl, B6⟩ hN
    have W11 : Grow w w11 := W7.trans hw11
    have z11 : w7.heap.size ≤ w11.heap.size := hw11.size
    have g_b6 : w.heap.size ≤ b6 := Nat.le_trans W7.size hN.1.1
    have y_b6 : w7.heap.size ≤ b6 ∧ b6 < w11.heap.size := hN.1
    have n_b4_b6 : b4 ≠ b6 := Nat.ne_of_lt (Nat.lt_of_lt_of_le B4.lt hN.1.1)
    clear hN
    replace B4 := B4.grow hw11
    replace hv := MR.mono _ hw11 hv
    replace h3 := MR.mono _ hw11 h3
    have KK : Kept [] w11 w11 := fun _ _ => rfl
    refine fr (va :: u :: (tt6 2) :: t3 :: pt b4 :: It i :: pt b6 :: .bool (true) :: .bool (!true) :: v9 :: v10 :: v11 :: .bool ((decide ((((i : Nat) : Int) : Int) < (((n : Nat) : Int) : Int)))) :: .bool ((decide ((((i : Nat) : Int) : Int) < (((n : Nat) : Int) : Int)))) :: v14 :: v15 :: .bool ((((decide ((((i : Nat) : Int) : Int) < (((n : Nat) : Int) : Int))) && (decide ((((i : Nat) : Int) : Int) < (10 : Int)))))) :: (tt6 17) :: (tt6 18) :: v19 :: v20 :: v21 :: v22 :: v23 :: (tt6 24) :: (tt6 25) :: (tt6 26) :: (tt6 27) :: (tt6 28) :: (tt6 29) :: (tt6 30) :: (tt6 31) :: (tt6 32) :: (tt6 33) :: (tt6 34) :: (tt6 35) :: u :: u :: []) ?_
    change wpListS _ _ _ _ [_] ⟨_, []⟩ _
    refine wpListS_yld rfl ?_
    refine yld_storeBox (R' := .rat (Q i)) (b := b6) rfl rfl aggRat.size B6 (shRat _) h23 (shRat _) (St.rat _) (by decide) g_b6 fun w12 P12 E12 B' => ⟨fun _ => Kept.put KK P12 (fun _ hk => (by cases hk)), ?_⟩
    replace KK := Kept.put KK P12 (fun _ hk => (by cases hk))
    have W12 : Grow w w12 := W11.put P12 g_b6
    have z12 : w11.heap.size ≤ w12.heap.size := Nat.le_of_eq P12.size.symm
    replace hv := (StF.sl fun i => StF.part (fun k hk => hk)) (Put.extB P12 B6 (by decide) g_b6) hv
    replace h3 := StF.ownv (Put.extB P12 B6 (by decide) (Or.inr (by omega))) h3
    replace B4 := B4.put (St.rat _) P12 E12 n_b4_b6
    replace B6 := B'; clear B'
    refine nx ?_
    refine wp_seq ?_
    refine rg (fun c d v a w h => NL c d v a w h) [(24, .ownv (w.heap.size) (fun k => k = b4 ∨ w6.heap.size ≤ k) (Q) (i)), (25, .rat (Q i)), (26, .lit1 (Q i))] [] [] [] 38 3 ?_ ?_
    · refine so [] (fun w13 hw13 => .fin (yld_move rfl ⟨Grow.refl _, (MR.mono _ hw13 h3)⟩)) ?_
      refine so [] (fun w13 hw13 => .fin (yld_loadBox rfl rfl aggRat (B6.grow hw13) (shRat _))) ?_
      exact so [1] (fun w13 hw13 => by rintro v25 h25; exact .fin (yld_lit1 Try.underlying60 rfl h25)) (.nil _ _)
    rintro w13 hw13 v24 h24 v25 - v26 h26 -
    have W13 : Grow w w13 := W12.trans hw13
    have z13 : w12.heap.size ≤ w13.heap.size := hw13.size
    replace B4 := B4.grow hw13
    replace B6 := B6.grow hw13
    replace hv := MR.mono _ hw13 hv
    replace h3 := MR.mono _ hw13 h3
    have KK : Kept [] w13 w13 := fun _ _ => rfl
    refine fr (va :: u :: (tt6 2) :: t3 :: pt b4 :: It i :: pt b6 :: .bool (true) :: .bool (!true) :: v9 :: v10 :: v11 :: .bool ((decide ((((i : Nat) : Int) : Int) < (((n : Nat) : Int) : Int)))) :: .bool ((decide ((((i : Nat) : Int) : Int) < (((n : Nat) : Int) : Int)))) :: v14 :: v15 :: .bool ((((decide ((((i : Nat) : Int) : Int) < (((n : Nat) : Int) : Int))) && (decide ((((i : Nat) : Int) : Int) < (10 : Int)))))) :: (tt6 17) :: (tt6 18) :: v19 :: v20 :: v21 :: v22 :: v23 :: v24 :: v25 :: v26 :: (tt6 27) :: (tt6 28) :: (tt6 29) :: (tt6 30) :: (tt6 31) :: (tt6 32) :: (tt6 33) :: (tt6 34) :: (tt6 35) :: u :: u :: []) ?_
    change wpListS _ _ _ _ [_, _] ⟨_, []⟩ _
    refine wpListS_yld rfl ?_
    refine yld_appendV (B := w.heap.size) (F' := fun k => k = b4 ∨ k = b6) Try.underlying60 rfl h24 h26 (by omega) W13.size (fun k hk => (fun h => h.elim (fun e => by rw [e]; exact ⟨(Or.inl rfl), B4.lt⟩) (fun e => by rw [e]; exact ⟨(Or.inr (by omega)), B6.lt⟩)) hk) fun v27 w14 A14 h27 => ⟨fun _ => (fun _ hk => (by cases hk)), ?_⟩
    have W14 : Grow w w14 := A14.grow W13 (Nat.le_refl _)
    have z14 : w13.heap.size ≤ w14.heap.size := A14.size
    replace B4 := B4.app A14 (Or.inl rfl) (St.rat _)
    replace B6 := B6.app A14 (Or.inr rfl) (St.rat _)
    replace hv := (StF.sl fun i => StF.part (fun k hk => hk)) (App.extF A14 fun k _ hk => .inl (by omega)) hv
    have KK : Kept [] w13 w14 := fun _ hk => (by cases hk)
    change wpListS _ _ _ _ [_] ⟨List.toArray (List.set _ 27 _), []⟩ _
    refine wpListS_yld rfl ?_
    refine yld_assign rfl ⟨fun _ => KK, ?_⟩
    refine wpListS_nil ?_
    change Code.wp _ _ _ ⟨List.toArray (List.set _ 3 _), []⟩ _
    refine wp_seq ?_
    refine rg (fun c d v a w h => NL c d v a w h) [(28, .rat (sumQ Q i)), (29, .rat (Q i)), (30, .rat ((sumQ Q i) + (Q i)))] [] [] [] 38 3 ?_ ?_
    · refine so [] (fun w15 hw15 => .fin (yld_loadBox rfl rfl aggRat (B4.grow hw15) (shRat _))) ?_
      refine so [] (fun w15 hw15 => .fin (yld_loadBox rfl rfl aggRat (B6.grow hw15) (shRat _))) ?_
      exact so [0, 1] (fun w15 hw15 => by rintro v28 h28 v29 h29; exact .fin (yld_call rfl cal_rat_Add rfl (cRatAdd h28 h29 (by omega)))) (.nil _ _)
    rintro w15 hw15 v28 - v29 - v30 h30 -
    have W15 : Grow w w15 := W14.trans hw15
    have z15 : w14.heap.size ≤ w15.heap.size := hw15.size
    replace B4 := B4.grow hw15
    replace hv := MR.mono _ hw15 hv
    replace h27 := MR.mono _ hw15 h27
    have KK : Kept [] w15 w15 := fun _ _ => rfl
    refine fr (va :: u :: (tt6 2) :: v27 :: pt b4 :: It i :: pt b6 :: .bool (true) :: .bool (!true) :: v9 :: v10 :: v11 :: .bool ((decide ((((i : Nat) : Int) : Int) < (((n : Nat) : Int) : Int)))) :: .bool ((decide ((((i : Nat) : Int) : Int) < (((n : Nat) : Int) : Int)))) :: v14 :: v15 :: .bool ((((decide ((((i : Nat) : Int) : Int) < (((n : Nat) : Int) : Int))) && (decide ((((i : Nat) : Int) : Int) < (10 : Int)))))) :: (tt6 17) :: (tt6 18) :: v19 :: v20 :: v21 :: v22 :: v23 :: v24 :: v25 :: v26 :: v27 :: v28 :: v29 :: v30 :: (tt6 31) :: (tt6 32) :: (tt6 33) :: (tt6 34) :: (tt6 35) :: u :: u :: []) ?_
    change wpListS _ _ _ _ [_] ⟨_, []⟩ _
    refine wpListS_yld rfl ?_
    refine yld_storeBox (R' := .rat ((sumQ Q i) + (Q i))) (b := b4) rfl rfl aggRat.size B4 (shRat _) h30 (shRat _) (St.rat _) (by decide) g_b4 fun w16 P16 E16 B' => ⟨fun _ => Kept.put KK P16 (fun _ hk => (by cases hk)), ?_⟩
    replace KK := Kept.put KK P16 (fun _ hk => (by cases hk))
    have W16 : Grow w w16 := W15.put P16 g_b4
    have z16 : w15.heap.size ≤ w16.heap.size := Nat.le_of_eq P16.size.symm
    replace hv := (StF.sl fun i => StF.part (fun k hk => hk)) (Put.extB P16 B4 (by decide) g_b4) hv
    replace h27 := StF.ownv (Put.extB P16 B4 (by decide) (Or.inl rfl)) h27
    replace B4 := B'; clear B'
    refine nx ?_
    refine wp_seq ?_
    refine rg (fun c d v a w h => NL c d v a w h) [(31, .ownv (w.heap.size) (fun k => k = b4 ∨ k = b6) (updQ Q i (Q i)) (i + 1)), (32, .rat (sumQ (updQ Q i (Q i)) (i + 1))), (33, .rat ((sumQ Q i) + (Q i))), (34, .eq (.bool (decide ((sumQ (updQ Q i (Q i)) (i + 1)) = ((sumQ Q i) + (Q i)))))), (35, .eq (.bool (!(decide ((sumQ (updQ Q i (Q i)) (i + 1)) = ((sumQ Q i) + (Q i)))))))] [] [] [] 38 5 ?_ ?_
    · refine so [] (fun w17 hw17 => .fin (yld_move rfl ⟨Grow.refl _, (MR.mono _ hw17 h27)⟩)) ?_
      refine soP [(31, .ownv (w.heap.size) (fun k => k = b4 ∨ k = b6) (updQ Q i (Q i)) (i + 1))] (fun w17 hw17 => by rintro v31 h31; exact .fin (yld_call rfl cal_rat_Sum rfl (cRatSum (ownv_vec h31) (fun j hj => by rw [updQ_self]; have h1 := sum_sz (M := 2097153) j fun k hk => sQ k (by omega); have h2 := sQ j (by omega); have h3 := pow_le10 (show j + 2 ≤ 12 by omega); omega)))) ?_
      refine so [] (fun w17 hw17 => .fin (yld_loadBox rfl rfl aggRat (B4.grow hw17) (shRat _))) ?_
      refine so [1, 2] (fun w17 hw17 => by rintro v32 h32 v33 h33; exact .fin (yld_call rfl cal_rat_Same rfl (cRatSame h32 h33 (by rw [updQ_self]; show szq (sumQ Q (i + 1)) + szq (sumQ Q (i + 1)) ≤ _; omega)))) ?_
      exact so [3] (fun w17 hw17 => by rintro _ rfl; exact .fin (yld_not rfl rfl ⟨Grow.refl _, rfl⟩)) (.nil _ _)
    rintro w17 hw17 v31 - v32 - v33 - v34 - _ rfl -
    have W17 : Grow w w17 := W16.trans hw17
    have z17 : w16.heap.size ≤ w17.heap.size := hw17.size
    replace B4 := B4.grow hw17
    replace hv := MR.mono _ hw17 hv
    replace h27 := MR.mono _ hw17 h27
    refine fr (va :: u :: (tt6 2) :: v27 :: pt b4 :: It i :: pt b6 :: .bool (true) :: .bool (!true) :: v9 :: v10 :: v11 :: .bool ((decide ((((i : Nat) : Int) : Int) < (((n : Nat) : Int) : Int)))) :: .bool ((decide ((((i : Nat) : Int) : Int) < (((n : Nat) : Int) : Int)))) :: v14 :: v15 :: .bool ((((decide ((((i : Nat) : Int) : Int) < (((n : Nat) : Int) : Int))) && (decide ((((i : Nat) : Int) : Int) < (10 : Int)))))) :: (tt6 17) :: (tt6 18) :: v19 :: v20 :: v21 :: v22 :: v23 :: v24 :: v25 :: v26 :: v27 :: v28 :: v29 :: v30 :: v31 :: v32 :: v33 :: v34 :: .bool (!(decide ((sumQ (updQ Q i (Q i)) (i + 1)) = ((sumQ Q i) + (Q i))))) :: u :: u :: []) ?_
    refine nx ?_
    have hc17 : (!(decide ((sumQ (updQ Q i (Q i)) (i + 1)) = ((sumQ Q i) + (Q i))))) = false := by rw [updQ_self, decide_eq_true (show sumQ Q (i + 1) = sumQ Q i + Q i from rfl)]; rfl
    refine wp_cond_false (by show Value.bool _ = _; rw [hc17]) ?_
    refine wp_skip ?_
    change Code.wp _ _ _ ⟨_, []⟩ _
    refine rg (fun c d v a w h => NL c d v a w h) [(17, .eq (.int .i64 (((i : Nat) : Int)))), (18, .eq (.int .i64 (((i + 1 : Nat) : Int))))] [] [] [] 38 2 ?_ ?_
    · refine so [] (fun w19 hw19 => .fin (yld_move rfl ⟨Grow.refl _, rfl⟩)) ?_
      exact so [0] (fun w19 hw19 => by rintro _ rfl; exact .fin (yld_add rfl rfl rfl (r := ((i + 1 : Nat) : Int)) (by rw [IntKind.wrap_i64]; omega) ⟨Grow.refl _, rfl⟩)) (.nil _ _)
    rintro w19 hw19 v17 - _ rfl -
    have W19 : Grow w w19 := W17.trans hw19
    have z19 : w17.heap.size ≤ w19.heap.size := hw19.size
    replace B4 := B4.grow hw19
    replace hv := MR.mono _ hw19 hv
    replace h27 := MR.mono _ hw19 h27
    have KK : Kept [] w19 w19 := fun _ _ => rfl
    refine fr (va :: u :: (tt6 2) :: v27 :: pt b4 :: It i :: pt b6 :: .bool (true) :: .bool (!true) :: v9 :: v10 :: v11 :: .bool ((decide ((((i : Nat) : Int) : Int) < (((n : Nat) : Int) : Int)))) :: .bool ((decide ((((i : Nat) : Int) : Int) < (((n : Nat) : Int) : Int)))) :: v14 :: v15 :: .bool ((((decide ((((i : Nat) : Int) : Int) < (((n : Nat) : Int) : Int))) && (decide ((((i : Nat) : Int) : Int) < (10 : Int)))))) :: v17 :: It (i + 1) :: v19 :: v20 :: v21 :: v22 :: v23 :: v24 :: v25 :: v26 :: v27 :: v28 :: v29 :: v30 :: v31 :: v32 :: v33 :: v34 :: .bool (!(decide ((sumQ (updQ Q i (Q i)) (i + 1)) = ((sumQ Q i) + (Q i))))) :: u :: u :: []) ?_
    change wpListS _ _ _ _ [_] ⟨_, []⟩ _
    refine wpListS_yld rfl ?_
    refine yld_assign rfl ⟨fun _ => KK, ?_⟩
    refine wpListS_nil ?_
    refine ⟨_, ?_, i + 1, rfl, ⟨by omega, by omega⟩, v27, fun d => (((tt6 2) :: v27 :: pt b4 :: It (i + 1) :: pt b6 :: .bool (true) :: .bool (!true) :: v9 :: v10 :: v11 :: .bool ((decide ((((i : Nat) : Int) : Int) < (((n : Nat) : Int) : Int)))) :: .bool ((decide ((((i : Nat) : Int) : Int) < (((n : Nat) : Int) : Int)))) :: v14 :: v15 :: .bool ((((decide ((((i : Nat) : Int) : Int) < (((n : Nat) : Int) : Int))) && (decide ((((i : Nat) : Int) : Int) < (10 : Int)))))) :: v17 :: It (i + 1) :: v19 :: v20 :: v21 :: v22 :: v23 :: v24 :: v25 :: v26 :: v27 :: v28 :: v29 :: v30 :: v31 :: v32 :: v33 :: v34 :: .bool (!(decide ((sumQ (updQ Q i (Q i)) (i + 1)) = ((sumQ Q i) + (Q i))))) :: []) : List Value).getD (d - 2) undef, by kernel_rfl, W19, B4, hv, (ownv_own (updQ_self Q i ▸ h27) (fun k hk => .inl (.inl hk)))⟩
    rw [hnn6]; omega
  · refine wp_exit ?_
    change Code.wp _ _ _ ⟨_, []⟩ _
    refine wp_seq ?_
    refine rg (fun c d v a w h => NL c d v a w h) [(36, .rat (sumQ (fun _ => 0) 0)), (37, .eq (.bool (decide ((sumQ (fun _ => 0) 0) = 0)))), (2, .eq (.bool (decide ((sumQ (fun _ => 0) 0) = 0))))] [] [] [] 38 3 ?_ ?_
    · refine so [] (fun w20 hw20 => .fin (yld_call rfl cal_rat_Sum rfl (cRatSum (F := fun _ => False) (q := fun _ => 0) (n := 0) vec_nil (fun i hi => by omega)))) ?_
      refine so [0] (fun w20 hw20 => by rintro v36 h36; exact .fin (yld_call rfl cal_rat_Rat_Zero rfl (cRatZero h36))) ?_
      exact so [1] (fun w20 hw20 => by rintro _ rfl; exact .fin (yld_assign rfl ⟨Grow.refl _, rfl⟩)) (.nil _ _)
    rintro w20 hw20 v36 - v37 - _ rfl -
    have W20 : Grow w w20 := W7.trans hw20
    have z20 : w7.heap.size ≤ w20.heap.size := hw20.size
    replace hv := MR.mono _ hw20 hv
    refine fr (va :: u :: .bool (decide ((sumQ (fun _ => 0) 0) = 0)) :: t3 :: pt b4 :: It i :: (tt6 6) :: .bool (true) :: .bool (!true) :: v9 :: v10 :: v11 :: .bool ((decide ((((i : Nat) : Int) : Int) < (((n : Nat) : Int) : Int)))) :: .bool ((decide ((((i : Nat) : Int) : Int) < (((n : Nat) : Int) : Int)))) :: v14 :: v15 :: .bool ((((decide ((((i : Nat) : Int) : Int) < (((n : Nat) : Int) : Int))) && (decide ((((i : Nat) : Int) : Int) < (10 : Int)))))) :: (tt6 17) :: (tt6 18) :: (tt6 19) :: (tt6 20) :: (tt6 21) :: (tt6 22) :: (tt6 23) :: (tt6 24) :: (tt6 25) :: (tt6 26) :: (tt6 27) :: (tt6 28) :: (tt6 29) :: (tt6 30) :: (tt6 31) :: (tt6 32) :: (tt6 33) :: (tt6 34) :: (tt6 35) :: v36 :: v37 :: []) ?_
    refine nx ?_
    refine wp_ret ?_
    change bodyPost Try.prog Try.f9 (Ret (.eq (.bool (true))) w) .ret _ _
    exact body_slot rfl (by show Value.bool _ = Value.bool _; rw [show (decide ((sumQ (fun _ => 0) 0) = 0)) = (true) from (by decide)]) rfl W20
end Go.Proofs.Ytknflfnkdieomaa
