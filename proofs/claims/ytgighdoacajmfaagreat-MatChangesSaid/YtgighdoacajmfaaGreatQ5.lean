/- The parts DivMod, SMu, RatM2, SB, SRM, SR, SR2, SR3, VecM. -/
import Derived.Test.YtgighdoacajmfaaGreatQ4
set_option maxRecDepth 100000
namespace Go.Proofs.YtgighdoacajmfaaGreat
open Go.RowKit
theorem cal_nat_Cmp : Callable Tryz.prog 89 := callable_of Tryz.func89 rfl (by kernel_rfl)
theorem dm_lt {x y : Nat} (h : cmpV x y < 0) : x < y := by unfold cmpV at h; split at h <;> (try split at h) <;> omega
theorem dm_ge {x y : Nat} (h : ¬ cmpV x y < 0) : y ≤ x := by unfold cmpV at h; split at h <;> (try split at h) <;> omega
theorem dm_mono {x y : Nat} (h : y ≤ x) : nw y ≤ nw x := (nw_le _ _).2 (Nat.lt_of_le_of_lt h (lt_nw x))
theorem nw_shl (x : Nat) {s : Nat} (hs : s < 64) : nw x ≤ nw (x * 2 ^ s) ∧ nw (x * 2 ^ s) ≤ nw x + 1 := by
 refine ⟨dm_mono (Nat.le_mul_of_pos_right x (Nat.two_pow_pos s)), (nw_le _ _).2 ?_⟩
 rw [p64]
 have h1 := lt_nw x
 have h2 : 2 ^ s ≤ 18446744073709551616 := Nat.pow_le_pow_right (n := 2) zo (Nat.le_of_lt hs)
 rw [Nat.mul_comm 18446744073709551616]
 exact Nat.lt_of_lt_of_le (Nat.mul_lt_mul_of_pos_right h1 (Nat.two_pow_pos s)) (Nat.mul_le_mul_left _ h2)
theorem wd_one {y : Nat} (h : nw y ≤ 1) : wd y 0 = y := by
 have := (nw_le y 1).1 h
 unfold wd
 simp
 omega
theorem dm_rem {d : Nat} (x : Nat) (h : d < 18446744073709551616) : (if d = 0 then 0 else x % d) < 18446744073709551616 := by
 split
 ·omega
 ·exact Nat.lt_trans (Nat.mod_lt _ zo) h
theorem u64_pred {q : Nat} (h : q < 18446744073709551616) (h0 : 0 < q) : IntKind.u64.wrap (((q : Nat) : Int) - 1) = ((q - 1 : Nat) : Int) := by rw [IntKind.wrap_u64]; omega
theorem upd_same {f : Nat → Nat} {k v : Nat} : upd f k v k = v := by unfold upd; rw [if_pos rfl]
theorem cal_word_Lead : Callable Tryz.prog 157 := callable_of Tryz.func157 rfl (by kernel_rfl)
theorem cal_quot_ByWord : Callable Tryz.prog 156 := callable_of Tryz.func156 rfl (by kernel_rfl)
theorem cal_nat_Nat_Shl : Callable Tryz.prog 158 := callable_of Tryz.func158 rfl (by kernel_rfl)
theorem cal_quot_guess : Callable Tryz.prog 159 := callable_of Tryz.func159 rfl (by kernel_rfl)
theorem cal_quot_take : Callable Tryz.prog 160 := callable_of Tryz.func160 rfl (by kernel_rfl)
theorem cal_quot_back : Callable Tryz.prog 161 := callable_of Tryz.func161 rfl (by kernel_rfl)
theorem cal_nat_Nat_Shr : Callable Tryz.prog 162 := callable_of Tryz.func162 rfl (by kernel_rfl)
set_option maxHeartbeats 2000000 in
theorem cQuotDivMod {x y : Nat} {va : Value} {vb : Value} {w : World}  (ha : (MR.nat (x)).R w va) (hb : (MR.nat (y)).R w vb) (hsx : nw x < 1099511627776) : Calls Tryz.prog 146 #[va, vb] w (Ret (.tup3 (.nat (x / y)) (.nat (if y = 0 then 0 else x % y)) (.eq (.bool (!decide (y = 0))))) w) := by
 have _ := hsx
 have hsy : nw y ≤ 1099511627776 := NatAt.small hb
 obtain ⟨s, hs⟩ : ∃ s, s = leadz (wd y (nw y - 1)) := ⟨_, rfl⟩
 refine calls_enter (a := ⟨List.toArray ([va, vb] ++ us 146), []⟩) Tryz.func146 rfl (by kernel_rfl) ?_
 have NL : NoLook (bodyPost Tryz.prog Tryz.f146 (Ret (.tup3 (.nat (x / y)) (.nat (if y = 0 then 0 else x % y)) (.eq (.bool (!decide (y = 0))))) w)) := noLook_body
 refine wp_seq ?_
 refine rg (fun c d v a w h => NL c d v a w h) [(2, .ptr 51 (.nat (x))), (3, .ptr 51 (.nat (y))), (4, .ptr 51 (.nat (0))), (5, .ptr 51 (.nat (0))), (6, .eq (.bool (false)))] [0, 1, 2, 3] [] [] 148 5 ?_ ?_
 ·refine sn [] (fun w1 hw1 => .fin (yld_newBox rfl rfl (MR.mono _ hw1 ha))) ?_
  refine sn [] (fun w1 hw1 => .fin (yld_newBox rfl rfl (MR.mono _ hw1 hb))) ?_
  refine sn [] (fun w1 hw1 => .fin (yld_newAlloc rfl zeroNat zNat)) ?_
  refine sn [] (fun w1 hw1 => .fin (yld_newAlloc rfl zeroNat zNat)) ?_
  exact so [] (fun w1 hw1 => .fin (yld_assign rfl ⟨Grow.refl _, rfl⟩)) (.nil _ _)
 rintro w1 hw1 _ ⟨b2, rfl, B2⟩ _ ⟨b3, rfl, B3⟩ _ ⟨b4, rfl, B4⟩ _ ⟨b5, rfl, B5⟩ _ rfl hN
 have W1 : Grow w w1 := (Grow.refl w).trans hw1
 have n_b2_b4 : b2 ≠ b4 := hN.2.1 2 (by simp)
 have n_b2_b5 : b2 ≠ b5 := hN.2.1 3 (by simp)
 have n_b3_b4 : b3 ≠ b4 := hN.2.2.2.1 2 (by simp)
 have n_b3_b5 : b3 ≠ b5 := hN.2.2.2.1 3 (by simp)
 have g_b4 : w.heap.size ≤ b4 := Nat.le_trans (Grow.refl w).size hN.2.2.2.2.1.1
 have n_b4_b5 : b4 ≠ b5 := hN.2.2.2.2.2.1 3 (by simp)
 have g_b5 : w.heap.size ≤ b5 := Nat.le_trans (Grow.refl w).size hN.2.2.2.2.2.2.1.1
 clear hN
 replace hb := MR.mono _ hw1 hb
 refine fr ([va, vb, pt b2, pt b3, pt b4, pt b5, .bool (false)] ++ us 141) ?_
 refine nx ?_
 refine wp_seq ?_
 refine wp_seq ?_
 refine rg (fun c d v a w h => NL c d v a w h) [(19, .nat (y)), (20, .eq (.int .i64 (((nw y : Nat) : Int)))), (21, .eq (.bool (decide ((((nw y : Nat) : Int) : Int) ≤ (1 : Int)))))] [] [] [] 148 3 ?_ ?_
 ·refine so [] (fun w2 hw2 => .fin (yld_loadBox rfl rfl aggNat (B3.grow hw2) (shNat _))) ?_
  refine so [0] (fun w2 hw2 => by rintro v19 h19; exact .fin (yld_call rfl cal_nat_Nat_Len rfl (cNatLen h19))) ?_
  exact so [1] (fun w2 hw2 => by rintro _ rfl; exact .fin (yld_leq rfl rfl rfl ⟨Grow.refl _, rfl⟩)) (.nil _ _)
 rintro w2 hw2 v19 - v20 - _ rfl -
 have W2 : Grow w w2 := W1.trans hw2
 replace B2 := B2.grow hw2
 replace B3 := B3.grow hw2
 replace B4 := B4.grow hw2
 replace B5 := B5.grow hw2
 replace hb := MR.mono _ hw2 hb
 refine fr ([va, vb, pt b2, pt b3, pt b4, pt b5, .bool (false), u, u, u, u, u, u, u, u, u, u, u, u, v19, v20, .bool (decide ((((nw y : Nat) : Int) : Int) ≤ (1 : Int)))] ++ us 126) ?_
 refine nx ?_
 refine wp_cond_split (t := decide ((((nw y : Nat) : Int) : Int) ≤ (1 : Int))) rfl (fun h1 => ?_) (fun h1 => ?_)
 ·have hy1 : nw y ≤ 1 := by have := of_decide_eq_true h1; omega
  have ey : wd y 0 = y := wd_one hy1
  have hrB : (if wd y 0 = 0 then 0 else x % wd y 0) < 18446744073709551616 := dm_rem x (wd_lt y 0)
  refine wp_seq ?_
  refine rg (fun c d v a w h => NL c d v a w h) [(23, .nat (x)), (24, .nat (y)), (25, .eq (.int .u64 (((wd y 0 : Nat) : Int)))), (26, .tup3 (.nat (x / (wd y 0))) (.eq (.int .u64 (((if wd y 0 = 0 then 0 else x % (wd y 0) : Nat) : Int)))) (.eq (.bool (!decide (wd y 0 = 0))))), (22, .tup3 (.nat (x / (wd y 0))) (.eq (.int .u64 (((if wd y 0 = 0 then 0 else x % (wd y 0) : Nat) : Int)))) (.eq (.bool (!decide (wd y 0 = 0))))), (27, .nat (x / (wd y 0))), (28, .eq (.int .u64 (((if wd y 0 = 0 then 0 else x % (wd y 0) : Nat) : Int)))), (29, .eq (.bool (!decide (wd y 0 = 0)))), (7, .ptr 51 (.nat (0)))] [8] [6, 7] [] 148 9 ?_ ?_
  ·refine so [] (fun w3 hw3 => .fin (yld_loadBox rfl rfl aggNat (B2.grow hw3) (shNat _))) ?_
   refine so [] (fun w3 hw3 => .fin (yld_loadBox rfl rfl aggNat (B3.grow hw3) (shNat _))) ?_
   refine so [1] (fun w3 hw3 => by rintro v24 h24; exact .fin (yld_call rfl cal_nat_Nat_Word rfl (cWord0 (k := 0) h24 rfl))) ?_
   refine so [0, 2] (fun w3 hw3 => by rintro v23 h23 _ rfl; exact .fin (yld_call rfl cal_quot_ByWord rfl (cByWord (d := wd y 0) h23 (wd_lt _ _)))) ?_
   refine so [3] (fun w3 hw3 => by rintro _ ⟨x26_0, x26_1, x26_2, rfl, hx26_0, hx26_1, hx26_2⟩; exact .fin (yld_move rfl ⟨Grow.refl _, ⟨x26_0, x26_1, x26_2, rfl, hx26_0, hx26_1, hx26_2⟩⟩)) ?_
   refine so [4] (fun w3 hw3 => by rintro _ ⟨x22_0, x22_1, x22_2, rfl, hx22_0, hx22_1, hx22_2⟩; exact .fin (yld_extract rfl rfl rfl ⟨Grow.refl _, hx22_0⟩)) ?_
   refine sl [4] (fun w3 hw3 => by rintro _ ⟨x22_0, x22_1, x22_2, rfl, hx22_0, hx22_1, hx22_2⟩; exact .fin (⟨_, fun w2 _ => pure_extract rfl rfl rfl w2, hx22_1⟩)) ?_
   refine sl [4] (fun w3 hw3 => by rintro _ ⟨x22_0, x22_1, x22_2, rfl, hx22_0, hx22_1, hx22_2⟩; exact .fin (⟨_, fun w2 _ => pure_extract rfl rfl rfl w2, hx22_2⟩)) ?_
   exact sn [] (fun w3 hw3 => .fin (yld_newAlloc rfl zeroNat zNat)) (.nil _ _)
  rintro w3 hw3 v23 - v24 - v25 - v26 - v22 - v27 h27 _ rfl _ rfl _ ⟨b7, rfl, B7⟩ hN
  have W3 : Grow w w3 := W2.trans hw3
  have g_b7 : w.heap.size ≤ b7 := Nat.le_trans W2.size hN.1.1
  have n_b2_b7 : b2 ≠ b7 := Nat.ne_of_lt (Nat.lt_of_lt_of_le B2.lt hN.1.1)
  have n_b3_b7 : b3 ≠ b7 := Nat.ne_of_lt (Nat.lt_of_lt_of_le B3.lt hN.1.1)
  have n_b4_b7 : b4 ≠ b7 := Nat.ne_of_lt (Nat.lt_of_lt_of_le B4.lt hN.1.1)
  have n_b5_b7 : b5 ≠ b7 := Nat.ne_of_lt (Nat.lt_of_lt_of_le B5.lt hN.1.1)
  clear hN
  replace B2 := B2.grow hw3
  replace B3 := B3.grow hw3
  replace B4 := B4.grow hw3
  replace B5 := B5.grow hw3
  replace hb := MR.mono _ hw3 hb
  have KK : Kept [] w3 w3 := fun _ _ => rfl
  refine fr ([va, vb, pt b2, pt b3, pt b4, pt b5, .bool (false), pt b7, u, u, u, u, u, u, u, u, u, u, u, v19, v20, .bool (decide ((((nw y : Nat) : Int) : Int) ≤ (1 : Int))), v22, v23, v24, v25, v26, v27, Ut (if wd y 0 = 0 then 0 else x % (wd y 0)), .bool (!decide (wd y 0 = 0))] ++ us 118) ?_
  change wpListS _ _ _ _ [_, _, _] ⟨_, []⟩ _
  refine wpListS_yld rfl ?_
  refine yld_storeBox (R' := .nat (x / (wd y 0))) (b := b7) rfl rfl aggNat.size B7 (shNat _) h27 (shNat _) (St.nat _) (by decide) g_b7 fun w4 P4 E4 B' => ⟨fun _ => Kept.put KK P4 (fun _ hk => (by cases hk)), ?_⟩
  replace KK := Kept.put KK P4 (fun _ hk => (by cases hk))
  have W4 : Grow w w4 := W3.put P4 g_b7
  replace B2 := B2.put (St.nat _) P4 E4 n_b2_b7
  replace B3 := B3.put (St.nat _) P4 E4 n_b3_b7
  replace B4 := B4.put (St.nat _) P4 E4 n_b4_b7
  replace B5 := B5.put (St.nat _) P4 E4 n_b5_b7
  replace B7 := B'; clear B'
  replace hb := MR.put hb (St.nat _) E4
  change wpListS _ _ _ _ [_, _] ⟨_, []⟩ _
  refine wpListS_yld rfl ?_
  refine yld_assign rfl ⟨fun _ => KK, ?_⟩
  change wpListS _ _ _ _ [_] ⟨List.toArray (List.set _ 8 _), []⟩ _
  refine wpListS_yld rfl ?_
  refine yld_assign rfl ⟨fun _ => KK, ?_⟩
  refine wpListS_nil ?_
  change Code.wp _ _ _ ⟨List.toArray (List.set _ 9 _), []⟩ _
  refine wp_seq ?_
  refine rg (fun c d v a w h => NL c d v a w h) [(30, .nat (x / (wd y 0))), (31, .eq (.int .u64 (((if wd y 0 = 0 then 0 else x % (wd y 0) : Nat) : Int)))), (32, .lits ([if wd y 0 = 0 then 0 else x % wd y 0])), (33, .nat (if wd y 0 = 0 then 0 else x % wd y 0)), (34, .eq (.bool (!decide (wd y 0 = 0))))] [] [4] [] 148 5 ?_ ?_
  ·refine so [] (fun w5 hw5 => .fin (yld_loadBox rfl rfl aggNat (B7.grow hw5) (shNat _))) ?_
   refine so [] (fun w5 hw5 => .fin (yld_move rfl ⟨Grow.refl _, rfl⟩)) ?_
   refine so [1] (fun w5 hw5 => by rintro _ rfl; exact .fin (yld_lit rfl rfl)) ?_
   refine so [2] (fun w5 hw5 => by rintro v32 h32; exact .fin (yld_call rfl cal_nat_Of rfl (cNatOf1 h32 zo))) ?_
   exact sl [] (fun w5 hw5 => .fin (lazy_move rfl rfl rfl)) (.nil _ _)
  rintro w5 hw5 v30 h30 v31 - v32 - v33 h33 _ rfl -
  have W5 : Grow w w5 := W4.trans hw5
  replace B2 := B2.grow hw5
  replace B3 := B3.grow hw5
  replace B4 := B4.grow hw5
  replace B5 := B5.grow hw5
  replace hb := MR.mono _ hw5 hb
  have KK : Kept [] w5 w5 := fun _ _ => rfl
  refine fr ([va, vb, pt b2, pt b3, pt b4, pt b5, .bool (false), pt b7, Ut (if wd y 0 = 0 then 0 else x % (wd y 0)), .bool (!decide (wd y 0 = 0)), u, u, u, u, u, u, u, u, u, v19, v20, .bool (decide ((((nw y : Nat) : Int) : Int) ≤ (1 : Int))), v22, v23, v24, v25, v26, v27, Ut (if wd y 0 = 0 then 0 else x % (wd y 0)), .bool (!decide (wd y 0 = 0)), v30, v31, v32, v33, .bool (!decide (wd y 0 = 0))] ++ us 113) ?_
  change wpListS _ _ _ _ [_, _, _] ⟨_, []⟩ _
  refine wpListS_yld rfl ?_
  refine yld_storeBox (R' := .nat (x / (wd y 0))) (b := b4) rfl rfl aggNat.size B4 (shNat _) h30 (shNat _) (St.nat _) (by decide) g_b4 fun w6 P6 E6 B' => ⟨fun _ => Kept.put KK P6 (fun _ hk => (by cases hk)), ?_⟩
  replace KK := Kept.put KK P6 (fun _ hk => (by cases hk))
  have W6 : Grow w w6 := W5.put P6 g_b4
  replace B2 := B2.put (St.nat _) P6 E6 n_b2_b4
  replace B3 := B3.put (St.nat _) P6 E6 n_b3_b4
  replace B5 := B5.put (St.nat _) P6 E6 (Ne.symm n_b4_b5)
  replace B4 := B'; clear B'
  replace hb := MR.put hb (St.nat _) E6
  replace h33 := MR.put h33 (St.nat _) E6
  change wpListS _ _ _ _ [_, _] ⟨_, []⟩ _
  refine wpListS_yld rfl ?_
  refine yld_storeBox (R' := .nat (if wd y 0 = 0 then 0 else x % wd y 0)) (b := b5) rfl rfl aggNat.size B5 (shNat _) h33 (shNat _) (St.nat _) (by decide) g_b5 fun w7 P7 E7 B' => ⟨fun _ => Kept.put KK P7 (fun _ hk => (by cases hk)), ?_⟩
  replace KK := Kept.put KK P7 (fun _ hk => (by cases hk))
  have W7 : Grow w w7 := W6.put P7 g_b5
  replace B2 := B2.put (St.nat _) P7 E7 n_b2_b5
  replace B3 := B3.put (St.nat _) P7 E7 n_b3_b5
  replace B4 := B4.put (St.nat _) P7 E7 n_b4_b5
  replace B5 := B'; clear B'
  replace hb := MR.put hb (St.nat _) E7
  change wpListS _ _ _ _ [_] ⟨_, []⟩ _
  refine wpListS_yld rfl ?_
  refine yld_assign rfl ⟨fun _ => KK, ?_⟩
  refine wpListS_nil ?_
  change Code.wp _ _ _ ⟨List.toArray (List.set _ 6 _), []⟩ _
  have BR : Box w7 b4 51 (.nat (x / y)) := (by have e : (x / (wd y 0) : Nat) = x / y := (by first | (rw [ey]; done) | exact (Nat.div_eq_of_lt hxy).symm | (rw [if_neg hy0, Nat.mod_eq_of_lt hxy]; done) | exact (d_end hD).1 | (rw [if_neg hy0]; exact (d_end hD).2) | (simp [hy0]; done)); rw [← e]; exact B4)
  have BR2 : Box w7 b5 51 (.nat (if y = 0 then 0 else x % y)) := (by have e : (if wd y 0 = 0 then 0 else x % wd y 0 : Nat) = if y = 0 then 0 else x % y := (by first | (rw [ey]; done) | exact (Nat.div_eq_of_lt hxy).symm | (rw [if_neg hy0, Nat.mod_eq_of_lt hxy]; done) | exact (d_end hD).1 | (rw [if_neg hy0]; exact (d_end hD).2) | (simp [hy0]; done)); rw [← e]; exact B5)
  refine wp_ret ?_
  change bodyPost Tryz.prog Tryz.f146 (Ret (.tup3 (.nat (x / y)) (.nat (if y = 0 then 0 else x % y)) (.eq (.bool (!decide (y = 0))))) w) .ret _ _
  exact body_cell2_slot (b := b4) (b' := b5) rfl rfl aggNat BR (shNat _) rfl aggNat BR2 (shNat _) (by show Value.bool _ = Value.bool _; rw [show (!decide (wd y 0 = 0)) = (!decide (y = 0)) from (by first | (rw [ey]; done) | exact (Nat.div_eq_of_lt hxy).symm | (rw [if_neg hy0, Nat.mod_eq_of_lt hxy]; done) | exact (d_end hD).1 | (rw [if_neg hy0]; exact (d_end hD).2) | (simp [hy0]; done))]) rfl W7
 ·have h2 : 2 ≤ nw y := by have := of_decide_eq_false h1; omega
  refine wp_skip ?_
  change Code.wp _ _ _ ⟨_, []⟩ _
  refine wp_seq ?_
  refine wp_seq ?_
  refine rg (fun c d v a w h => NL c d v a w h) [(35, .nat (x)), (36, .nat (y)), (37, .eq (.int .i64 (cmpV ((x : Nat)) ((y : Nat))))), (38, .eq (.bool (decide ((cmpV ((x : Nat)) ((y : Nat)) : Int) < (0 : Int)))))] [] [] [] 148 4 ?_ ?_
  ·refine so [] (fun w8 hw8 => .fin (yld_loadBox rfl rfl aggNat (B2.grow hw8) (shNat _))) ?_
   refine so [] (fun w8 hw8 => .fin (yld_loadBox rfl rfl aggNat (B3.grow hw8) (shNat _))) ?_
   refine so [0, 1] (fun w8 hw8 => by rintro v35 h35 v36 h36; exact .fin (yld_call rfl cal_nat_Cmp rfl (cNatCmp h35 h36))) ?_
   exact so [2] (fun w8 hw8 => by rintro _ rfl; exact .fin (yld_lss rfl rfl rfl ⟨Grow.refl _, rfl⟩)) (.nil _ _)
  rintro w8 hw8 v35 - v36 - v37 - _ rfl -
  have W8 : Grow w w8 := W2.trans hw8
  replace B2 := B2.grow hw8
  replace B3 := B3.grow hw8
  replace B4 := B4.grow hw8
  replace B5 := B5.grow hw8
  replace hb := MR.mono _ hw8 hb
  refine fr ([va, vb, pt b2, pt b3, pt b4, pt b5, .bool (false), u, u, u, u, u, u, u, u, u, u, u, u, v19, v20, .bool (decide ((((nw y : Nat) : Int) : Int) ≤ (1 : Int))), u, u, u, u, u, u, u, u, u, u, u, u, u, v35, v36, v37, .bool (decide ((cmpV ((x : Nat)) ((y : Nat)) : Int) < (0 : Int)))] ++ us 109) ?_
  refine nx ?_
  refine wp_cond_split (t := decide ((cmpV ((x : Nat)) ((y : Nat)) : Int) < (0 : Int))) rfl (fun hlt => ?_) (fun hlt => ?_)
  ·have hxy : x < y := dm_lt (of_decide_eq_true hlt)
   have hy0 : y ≠ 0 := by omega
   refine wp_seq ?_
   refine rg (fun c d v a w h => NL c d v a w h) [(39, .nat (0)), (40, .nat (x))] [] [1] [b2] 148 2 ?_ ?_
   ·refine so [] (fun w9 hw9 => .fin (yld_build (ps := []) rfl rfl (by kernel_rfl) ⟨Grow.refl _, zNat _⟩)) ?_
    exact sl [] (fun w9 hw9 => .fin (lazy_loadBox rfl rfl aggNat (B2.grow hw9) (shNat _) (by simp))) (.nil _ _)
   rintro w9 hw9 v39 h39 v40 h40 -
   have W9 : Grow w w9 := W8.trans hw9
   replace B2 := B2.grow hw9
   replace B3 := B3.grow hw9
   replace B4 := B4.grow hw9
   replace B5 := B5.grow hw9
   replace hb := MR.mono _ hw9 hb
   have KK : Kept [b2] w9 w9 := fun _ _ => rfl
   refine fr ([va, vb, pt b2, pt b3, pt b4, pt b5, .bool (false), u, u, u, u, u, u, u, u, u, u, u, u, v19, v20, .bool (decide ((((nw y : Nat) : Int) : Int) ≤ (1 : Int))), u, u, u, u, u, u, u, u, u, u, u, u, u, v35, v36, v37, .bool (decide ((cmpV ((x : Nat)) ((y : Nat)) : Int) < (0 : Int))), v39, v40] ++ us 107) ?_
   change wpListS _ _ _ _ [_, _, _] ⟨_, []⟩ _
   refine wpListS_yld rfl ?_
   refine yld_storeBox (R' := .nat (0)) (b := b4) rfl rfl aggNat.size B4 (shNat _) h39 (shNat _) (St.nat _) (by decide) g_b4 fun w10 P10 E10 B' => ⟨fun _ => Kept.put KK P10 (by simp only [List.mem_cons, List.not_mem_nil, or_false, forall_eq]; exact n_b2_b4), ?_⟩
   replace KK := Kept.put KK P10 (by simp only [List.mem_cons, List.not_mem_nil, or_false, forall_eq]; exact n_b2_b4)
   have W10 : Grow w w10 := W9.put P10 g_b4
   replace B2 := B2.put (St.nat _) P10 E10 n_b2_b4
   replace B3 := B3.put (St.nat _) P10 E10 n_b3_b4
   replace B5 := B5.put (St.nat _) P10 E10 (Ne.symm n_b4_b5)
   replace B4 := B'; clear B'
   replace hb := MR.put hb (St.nat _) E10
   replace h40 := MR.put h40 (St.nat _) E10
   change wpListS _ _ _ _ [_, _] ⟨_, []⟩ _
   refine wpListS_yld rfl ?_
   refine yld_storeBox (R' := .nat (x)) (b := b5) rfl rfl aggNat.size B5 (shNat _) h40 (shNat _) (St.nat _) (by decide) g_b5 fun w11 P11 E11 B' => ⟨fun _ => Kept.put KK P11 (by simp only [List.mem_cons, List.not_mem_nil, or_false, forall_eq]; exact n_b2_b5), ?_⟩
   replace KK := Kept.put KK P11 (by simp only [List.mem_cons, List.not_mem_nil, or_false, forall_eq]; exact n_b2_b5)
   have W11 : Grow w w11 := W10.put P11 g_b5
   replace B2 := B2.put (St.nat _) P11 E11 n_b2_b5
   replace B3 := B3.put (St.nat _) P11 E11 n_b3_b5
   replace B4 := B4.put (St.nat _) P11 E11 n_b4_b5
   replace B5 := B'; clear B'
   replace hb := MR.put hb (St.nat _) E11
   change wpListS _ _ _ _ [_] ⟨_, []⟩ _
   refine wpListS_yld rfl ?_
   refine yld_assign rfl ⟨fun _ => KK, ?_⟩
   refine wpListS_nil ?_
   change Code.wp _ _ _ ⟨List.toArray (List.set _ 6 _), []⟩ _
   have BR : Box w11 b4 51 (.nat (x / y)) := (by have e : (0 : Nat) = x / y := (by first | (rw [ey]; done) | exact (Nat.div_eq_of_lt hxy).symm | (rw [if_neg hy0, Nat.mod_eq_of_lt hxy]; done) | exact (d_end hD).1 | (rw [if_neg hy0]; exact (d_end hD).2) | (simp [hy0]; done)); rw [← e]; exact B4)
   have BR2 : Box w11 b5 51 (.nat (if y = 0 then 0 else x % y)) := (by have e : (x : Nat) = if y = 0 then 0 else x % y := (by first | (rw [ey]; done) | exact (Nat.div_eq_of_lt hxy).symm | (rw [if_neg hy0, Nat.mod_eq_of_lt hxy]; done) | exact (d_end hD).1 | (rw [if_neg hy0]; exact (d_end hD).2) | (simp [hy0]; done)); rw [← e]; exact B5)
   refine wp_ret ?_
   change bodyPost Tryz.prog Tryz.f146 (Ret (.tup3 (.nat (x / y)) (.nat (if y = 0 then 0 else x % y)) (.eq (.bool (!decide (y = 0))))) w) .ret _ _
   exact body_cell2_slot (b := b4) (b' := b5) rfl rfl aggNat BR (shNat _) rfl aggNat BR2 (shNat _) (by show Value.bool _ = Value.bool _; rw [show (true) = (!decide (y = 0)) from (by first | (rw [ey]; done) | exact (Nat.div_eq_of_lt hxy).symm | (rw [if_neg hy0, Nat.mod_eq_of_lt hxy]; done) | exact (d_end hD).1 | (rw [if_neg hy0]; exact (d_end hD).2) | (simp [hy0]; done))]) rfl W11
  ·have hxy : y ≤ x := dm_ge (of_decide_eq_false hlt)
   have hnxy : nw y ≤ nw x := dm_mono hxy
   have hy0 : y ≠ 0 := fun h => by rw [h, nw_zero] at h2; omega
   obtain ⟨hmV, hs64⟩ := nw_shift hy0 hs
   have hSy : Small (y * 2 ^ s) := by show nw _ ≤ _; omega
   obtain ⟨hNx, hNx1⟩ := nw_shl x hs64
   have hSx : Small (x * 2 ^ s) := by show nw _ ≤ _; omega
   have h2V : 2 ≤ nw (y * 2 ^ s) := by omega
   refine wp_skip ?_
   change Code.wp _ _ _ ⟨_, []⟩ _
   refine wp_seq ?_
   refine rg (fun c d v a w h => NL c d v a w h) [(41, .nat (y)), (42, .nat (y)), (43, .eq (.int .i64 (((nw y : Nat) : Int)))), (44, .eq (.int .i64 (((nw y - 1 : Nat) : Int)))), (45, .eq (.int .u64 (((wd y (nw y - 1) : Nat) : Int)))), (46, .eq (.int .i64 (((s : Nat) : Int)))), (10, .eq (.int .i64 (((s : Nat) : Int))))] [] [] [] 148 7 ?_ ?_
   ·refine so [] (fun w12 hw12 => .fin (yld_loadBox rfl rfl aggNat (B3.grow hw12) (shNat _))) ?_
    refine so [] (fun w12 hw12 => .fin (yld_loadBox rfl rfl aggNat (B3.grow hw12) (shNat _))) ?_
    refine so [1] (fun w12 hw12 => by rintro v42 h42; exact .fin (yld_call rfl cal_nat_Nat_Len rfl (cNatLen h42))) ?_
    refine so [2] (fun w12 hw12 => by rintro _ rfl; exact .fin (yld_sub rfl rfl rfl (r := ((nw y - 1 : Nat) : Int)) (by rw [IntKind.wrap_i64]; omega) ⟨Grow.refl _, rfl⟩)) ?_
    refine so [0, 3] (fun w12 hw12 => by rintro v41 h41 _ rfl; exact .fin (yld_call rfl cal_nat_Nat_Word rfl (cWord0 (k := (nw y - 1)) h41 rfl))) ?_
    refine so [4] (fun w12 hw12 => by rintro _ rfl; exact .fin (yld_as (R := .eq (.int .i64 (((leadz (wd y (nw y - 1)) : Nat) : Int)))) (R2 := .eq (.int .i64 (((s : Nat) : Int)))) (yld_call rfl cal_word_Lead rfl (cLead (wd_lt _ _))) (fun h => h.trans (by rw [hs])))) ?_
    exact so [5] (fun w12 hw12 => by rintro _ rfl; exact .fin (yld_assign rfl ⟨Grow.refl _, rfl⟩)) (.nil _ _)
   rintro w12 hw12 v41 - v42 - v43 - v44 - v45 - v46 - _ rfl -
   have W12 : Grow w w12 := W8.trans hw12
   replace B2 := B2.grow hw12
   replace B3 := B3.grow hw12
   replace B4 := B4.grow hw12
   replace B5 := B5.grow hw12
   replace hb := MR.mono _ hw12 hb
   refine fr ([va, vb, pt b2, pt b3, pt b4, pt b5, .bool (false), u, u, u, It s, u, u, u, u, u, u, u, u, v19, v20, .bool (decide ((((nw y : Nat) : Int) : Int) ≤ (1 : Int))), u, u, u, u, u, u, u, u, u, u, u, u, u, v35, v36, v37, .bool (decide ((cmpV ((x : Nat)) ((y : Nat)) : Int) < (0 : Int))), u, u, v41, v42, v43, v44, v45, v46] ++ us 101) ?_
   refine nx ?_
   refine wp_seq ?_
   refine rg (fun c d v a w h => NL c d v a w h) [(48, .nat (y)), (49, .eq (.int .i64 (((s : Nat) : Int)))), (50, .tup2 (.nat (y * 2 ^ s)) (.eq (.bool (true)))), (47, .tup2 (.nat (y * 2 ^ s)) (.eq (.bool (true)))), (51, .nat (y * 2 ^ s)), (52, .eq (.bool (true))), (11, .ptr 51 (.nat (0)))] [6] [5] [] 148 7 ?_ ?_
   ·refine so [] (fun w13 hw13 => .fin (yld_loadBox rfl rfl aggNat (B3.grow hw13) (shNat _))) ?_
    refine so [] (fun w13 hw13 => .fin (yld_move rfl ⟨Grow.refl _, rfl⟩)) ?_
    refine so [0, 1] (fun w13 hw13 => by rintro v48 h48 _ rfl; exact .fin (yld_call rfl cal_nat_Nat_Shl rfl (cShl (k := s) h48 hs64 hSy))) ?_
    refine so [2] (fun w13 hw13 => by rintro _ ⟨x50_0, x50_1, rfl, hx50_0, hx50_1⟩; exact .fin (yld_move rfl ⟨Grow.refl _, ⟨x50_0, x50_1, rfl, hx50_0, hx50_1⟩⟩)) ?_
    refine so [3] (fun w13 hw13 => by rintro _ ⟨x47_0, x47_1, rfl, hx47_0, hx47_1⟩; exact .fin (yld_extract rfl rfl rfl ⟨Grow.refl _, hx47_0⟩)) ?_
    refine sl [3] (fun w13 hw13 => by rintro _ ⟨x47_0, x47_1, rfl, hx47_0, hx47_1⟩; exact .fin (⟨_, fun w2 _ => pure_extract rfl rfl rfl w2, hx47_1⟩)) ?_
    exact sn [] (fun w13 hw13 => .fin (yld_newAlloc rfl zeroNat zNat)) (.nil _ _)
   rintro w13 hw13 v48 - v49 - v50 - v47 - v51 h51 _ rfl _ ⟨b11, rfl, B11⟩ hN
   have W13 : Grow w w13 := W12.trans hw13
   have g_b11 : w.heap.size ≤ b11 := Nat.le_trans W12.size hN.1.1
   have n_b2_b11 : b2 ≠ b11 := Nat.ne_of_lt (Nat.lt_of_lt_of_le B2.lt hN.1.1)
   have n_b3_b11 : b3 ≠ b11 := Nat.ne_of_lt (Nat.lt_of_lt_of_le B3.lt hN.1.1)
   have n_b4_b11 : b4 ≠ b11 := Nat.ne_of_lt (Nat.lt_of_lt_of_le B4.lt hN.1.1)
   have n_b5_b11 : b5 ≠ b11 := Nat.ne_of_lt (Nat.lt_of_lt_of_le B5.lt hN.1.1)
   clear hN
   replace B2 := B2.grow hw13
   replace B3 := B3.grow hw13
   replace B4 := B4.grow hw13
   replace B5 := B5.grow hw13
   replace hb := MR.mono _ hw13 hb
   have KK : Kept [] w13 w13 := fun _ _ => rfl
   refine fr ([va, vb, pt b2, pt b3, pt b4, pt b5, .bool (false), u, u, u, It s, pt b11, u, u, u, u, u, u, u, v19, v20, .bool (decide ((((nw y : Nat) : Int) : Int) ≤ (1 : Int))), u, u, u, u, u, u, u, u, u, u, u, u, u, v35, v36, v37, .bool (decide ((cmpV ((x : Nat)) ((y : Nat)) : Int) < (0 : Int))), u, u, v41, v42, v43, v44, v45, v46, v47, v48, v49, v50, v51, .bool (true)] ++ us 95) ?_
   change wpListS _ _ _ _ [_, _] ⟨_, []⟩ _
   refine wpListS_yld rfl ?_
   refine yld_storeBox (R' := .nat (y * 2 ^ s)) (b := b11) rfl rfl aggNat.size B11 (shNat _) h51 (shNat _) (St.nat _) (by decide) g_b11 fun w14 P14 E14 B' => ⟨fun _ => Kept.put KK P14 (fun _ hk => (by cases hk)), ?_⟩
   replace KK := Kept.put KK P14 (fun _ hk => (by cases hk))
   have W14 : Grow w w14 := W13.put P14 g_b11
   replace B2 := B2.put (St.nat _) P14 E14 n_b2_b11
   replace B3 := B3.put (St.nat _) P14 E14 n_b3_b11
   replace B4 := B4.put (St.nat _) P14 E14 n_b4_b11
   replace B5 := B5.put (St.nat _) P14 E14 n_b5_b11
   replace B11 := B'; clear B'
   replace hb := MR.put hb (St.nat _) E14
   change wpListS _ _ _ _ [_] ⟨_, []⟩ _
   refine wpListS_yld rfl ?_
   refine yld_assign rfl ⟨fun _ => KK, ?_⟩
   refine wpListS_nil ?_
   change Code.wp _ _ _ ⟨List.toArray (List.set _ 12 _), []⟩ _
   refine wp_seq ?_
   refine rg (fun c d v a w h => NL c d v a w h) [(54, .nat (x)), (55, .eq (.int .i64 (((s : Nat) : Int)))), (56, .tup2 (.nat (x * 2 ^ s)) (.eq (.bool (true)))), (53, .tup2 (.nat (x * 2 ^ s)) (.eq (.bool (true)))), (57, .nat (x * 2 ^ s)), (58, .eq (.bool (true))), (13, .ptr 51 (.nat (0)))] [6] [5] [] 148 7 ?_ ?_
   ·refine so [] (fun w15 hw15 => .fin (yld_loadBox rfl rfl aggNat (B2.grow hw15) (shNat _))) ?_
    refine so [] (fun w15 hw15 => .fin (yld_move rfl ⟨Grow.refl _, rfl⟩)) ?_
    refine so [0, 1] (fun w15 hw15 => by rintro v54 h54 _ rfl; exact .fin (yld_call rfl cal_nat_Nat_Shl rfl (cShl (k := s) h54 hs64 hSx))) ?_
    refine so [2] (fun w15 hw15 => by rintro _ ⟨x56_0, x56_1, rfl, hx56_0, hx56_1⟩; exact .fin (yld_move rfl ⟨Grow.refl _, ⟨x56_0, x56_1, rfl, hx56_0, hx56_1⟩⟩)) ?_
    refine so [3] (fun w15 hw15 => by rintro _ ⟨x53_0, x53_1, rfl, hx53_0, hx53_1⟩; exact .fin (yld_extract rfl rfl rfl ⟨Grow.refl _, hx53_0⟩)) ?_
    refine sl [3] (fun w15 hw15 => by rintro _ ⟨x53_0, x53_1, rfl, hx53_0, hx53_1⟩; exact .fin (⟨_, fun w2 _ => pure_extract rfl rfl rfl w2, hx53_1⟩)) ?_
    exact sn [] (fun w15 hw15 => .fin (yld_newAlloc rfl zeroNat zNat)) (.nil _ _)
   rintro w15 hw15 v54 - v55 - v56 - v53 - v57 h57 _ rfl _ ⟨b13, rfl, B13⟩ hN
   have W15 : Grow w w15 := W14.trans hw15
   have g_b13 : w.heap.size ≤ b13 := Nat.le_trans W14.size hN.1.1
   have n_b2_b13 : b2 ≠ b13 := Nat.ne_of_lt (Nat.lt_of_lt_of_le B2.lt hN.1.1)
   have n_b3_b13 : b3 ≠ b13 := Nat.ne_of_lt (Nat.lt_of_lt_of_le B3.lt hN.1.1)
   have n_b4_b13 : b4 ≠ b13 := Nat.ne_of_lt (Nat.lt_of_lt_of_le B4.lt hN.1.1)
   have n_b5_b13 : b5 ≠ b13 := Nat.ne_of_lt (Nat.lt_of_lt_of_le B5.lt hN.1.1)
   have n_b11_b13 : b11 ≠ b13 := Nat.ne_of_lt (Nat.lt_of_lt_of_le B11.lt hN.1.1)
   clear hN
   replace B2 := B2.grow hw15
   replace B3 := B3.grow hw15
   replace B4 := B4.grow hw15
   replace B5 := B5.grow hw15
   replace B11 := B11.grow hw15
   replace hb := MR.mono _ hw15 hb
   have KK : Kept [] w15 w15 := fun _ _ => rfl
   refine fr ([va, vb, pt b2, pt b3, pt b4, pt b5, .bool (false), u, u, u, It s, pt b11, .bool (true), pt b13, u, u, u, u, u, v19, v20, .bool (decide ((((nw y : Nat) : Int) : Int) ≤ (1 : Int))), u, u, u, u, u, u, u, u, u, u, u, u, u, v35, v36, v37, .bool (decide ((cmpV ((x : Nat)) ((y : Nat)) : Int) < (0 : Int))), u, u, v41, v42, v43, v44, v45, v46, v47, v48, v49, v50, v51, .bool (true), v53, v54, v55, v56, v57, .bool (true)] ++ us 89) ?_
   change wpListS _ _ _ _ [_, _] ⟨_, []⟩ _
   refine wpListS_yld rfl ?_
   refine yld_storeBox (R' := .nat (x * 2 ^ s)) (b := b13) rfl rfl aggNat.size B13 (shNat _) h57 (shNat _) (St.nat _) (by decide) g_b13 fun w16 P16 E16 B' => ⟨fun _ => Kept.put KK P16 (fun _ hk => (by cases hk)), ?_⟩
   replace KK := Kept.put KK P16 (fun _ hk => (by cases hk))
   have W16 : Grow w w16 := W15.put P16 g_b13
   replace B2 := B2.put (St.nat _) P16 E16 n_b2_b13
   replace B3 := B3.put (St.nat _) P16 E16 n_b3_b13
   replace B4 := B4.put (St.nat _) P16 E16 n_b4_b13
   replace B5 := B5.put (St.nat _) P16 E16 n_b5_b13
   replace B11 := B11.put (St.nat _) P16 E16 n_b11_b13
   replace B13 := B'; clear B'
   replace hb := MR.put hb (St.nat _) E16
   change wpListS _ _ _ _ [_] ⟨_, []⟩ _
   refine wpListS_yld rfl ?_
   refine yld_assign rfl ⟨fun _ => KK, ?_⟩
   refine wpListS_nil ?_
   change Code.wp _ _ _ ⟨List.toArray (List.set _ 14 _), []⟩ _
   refine wp_seq ?_
   have C2 := B2
   have lt_b2 := B2.lt
   have C3 := B3
   have lt_b3 := B3.lt
   have C4 := B4
   have lt_b4 := B4.lt
   have C5 := B5
   have lt_b5 := B5.lt
   have C11 := B11
   have lt_b11 := B11.lt
   have C13 := B13
   have lt_b13 := B13.lt
   refine rg (fun c d v a w h => NL c d v a w h) [(59, .nat (x * 2 ^ s)), (60, .own w16.heap.size (wd (x * 2 ^ s)) (nw (x * 2 ^ s))), (61, .lits ([0, 0])), (62, .own w16.heap.size (wd (x * 2 ^ s)) (nw (x * 2 ^ s) + 2)), (63, .nat (x)), (64, .eq (.int .i64 (((nw x : Nat) : Int)))), (65, .eq (.int .i64 (((nw x + 1 : Nat) : Int)))), (66, .own w16.heap.size (wd (x * 2 ^ s)) (nw x + 1)), (15, .own w16.heap.size (wd (x * 2 ^ s)) (nw x + 1))] [] [] [] 148 9 ?_ ?_
   ·refine so [] (fun w17 hw17 => .fin (yld_loadBox rfl rfl aggNat (B13.grow hw17) (shNat _))) ?_
    refine so [0] (fun w17 hw17 => by rintro v59 h59; exact .fin (yld_call rfl cal_nat_Nat_Words rfl (cWords0 h59 zo zo hw17.size))) ?_
    refine so [] (fun w17 hw17 => .fin (yld_lit00 rfl rfl rfl)) ?_
    refine so [1, 2] (fun w17 hw17 => by rintro v60 h60 v61 h61; exact .fin (yld_append_zeros rfl h60 h61 zo zo hw17.size (fun i hi => wd_high _ i hi) rfl)) ?_
    refine so [] (fun w17 hw17 => .fin (yld_loadBox rfl rfl aggNat (B2.grow hw17) (shNat _))) ?_
    refine so [4] (fun w17 hw17 => by rintro v63 h63; exact .fin (yld_call rfl cal_nat_Nat_Len rfl (cNatLen h63))) ?_
    refine so [5] (fun w17 hw17 => by rintro _ rfl; exact .fin (yld_add rfl rfl rfl (r := ((nw x + 1 : Nat) : Int)) (by rw [IntKind.wrap_i64]; omega) ⟨Grow.refl _, rfl⟩)) ?_
    refine so [3, 6] (fun w17 hw17 => by rintro v62 h62 _ rfl; exact .fin (yld_sliceO (m := nw x + 1) rfl h62 rfl rfl zo zo)) ?_
    exact so [7] (fun w17 hw17 => by rintro v66 h66; exact .fin (yld_assign rfl ⟨Grow.refl _, h66⟩)) (.nil _ _)
   rintro w17 hw17 v59 - v60 - v61 - v62 - v63 - v64 - v65 - v66 - v15 h15 -
   have W17 : Grow w w17 := W16.trans hw17
   replace B2 := B2.grow hw17
   replace B3 := B3.grow hw17
   replace B4 := B4.grow hw17
   replace B5 := B5.grow hw17
   replace B11 := B11.grow hw17
   replace B13 := B13.grow hw17
   replace hb := MR.mono _ hw17 hb
   obtain ⟨ru, cu, rfl, gBu, hcu, hcmu, Ru⟩ := h15
   have g_ru : w.heap.size ≤ ru := Nat.le_trans W16.size gBu
   have n_b2_ru : b2 ≠ ru := Nat.ne_of_lt (Nat.lt_of_lt_of_le lt_b2 gBu)
   have n_b3_ru : b3 ≠ ru := Nat.ne_of_lt (Nat.lt_of_lt_of_le lt_b3 gBu)
   have n_b4_ru : b4 ≠ ru := Nat.ne_of_lt (Nat.lt_of_lt_of_le lt_b4 gBu)
   have n_b5_ru : b5 ≠ ru := Nat.ne_of_lt (Nat.lt_of_lt_of_le lt_b5 gBu)
   have n_b11_ru : b11 ≠ ru := Nat.ne_of_lt (Nat.lt_of_lt_of_le lt_b11 gBu)
   have n_b13_ru : b13 ≠ ru := Nat.ne_of_lt (Nat.lt_of_lt_of_le lt_b13 gBu)
   refine fr ((va :: vb :: pt b2 :: pt b3 :: pt b4 :: pt b5 :: .bool (false) :: u :: u :: u :: It s :: pt b11 :: .bool (true) :: pt b13 :: .bool (true) :: .slice (some ⟨ru, 0, none⟩) (nw x + 1) (cu) :: u :: u :: u :: v19 :: v20 :: .bool (decide ((((nw y : Nat) : Int) : Int) ≤ (1 : Int))) :: u :: u :: u :: u :: u :: u :: u :: u :: u :: u :: u :: u :: u :: v35 :: v36 :: v37 :: .bool (decide ((cmpV ((x : Nat)) ((y : Nat)) : Int) < (0 : Int))) :: u :: u :: v41 :: v42 :: v43 :: v44 :: v45 :: v46 :: v47 :: v48 :: v49 :: v50 :: v51 :: .bool (true) :: v53 :: v54 :: v55 :: v56 :: v57 :: .bool (true) :: v59 :: v60 :: v61 :: v62 :: v63 :: v64 :: v65 :: v66 :: []) ++ us 81) ?_
   refine nx ?_
   refine wp_seq ?_
   refine rg (fun c d v a w h => NL c d v a w h) [(67, .nat (y * 2 ^ s)), (68, .eq (.int .i64 (((nw (y * 2 ^ s) : Nat) : Int)))), (16, .eq (.int .i64 (((nw (y * 2 ^ s) : Nat) : Int))))] [] [] [] 148 3 ?_ ?_
   ·refine so [] (fun w18 hw18 => .fin (yld_loadBox rfl rfl aggNat (B11.grow hw18) (shNat _))) ?_
    refine so [0] (fun w18 hw18 => by rintro v67 h67; exact .fin (yld_call rfl cal_nat_Nat_Len rfl (cNatLen h67))) ?_
    exact so [1] (fun w18 hw18 => by rintro _ rfl; exact .fin (yld_assign rfl ⟨Grow.refl _, rfl⟩)) (.nil _ _)
   rintro w18 hw18 v67 - v68 - _ rfl -
   have W18 : Grow w w18 := W17.trans hw18
   replace B2 := B2.grow hw18
   replace B3 := B3.grow hw18
   replace B4 := B4.grow hw18
   replace B5 := B5.grow hw18
   replace B11 := B11.grow hw18
   replace B13 := B13.grow hw18
   replace Ru := Ru.below hw18
   replace hb := MR.mono _ hw18 hb
   refine fr ((va :: vb :: pt b2 :: pt b3 :: pt b4 :: pt b5 :: .bool (false) :: u :: u :: u :: It s :: pt b11 :: .bool (true) :: pt b13 :: .bool (true) :: .slice (some ⟨ru, 0, none⟩) (nw x + 1) (cu) :: It (nw (y * 2 ^ s)) :: u :: u :: v19 :: v20 :: .bool (decide ((((nw y : Nat) : Int) : Int) ≤ (1 : Int))) :: u :: u :: u :: u :: u :: u :: u :: u :: u :: u :: u :: u :: u :: v35 :: v36 :: v37 :: .bool (decide ((cmpV ((x : Nat)) ((y : Nat)) : Int) < (0 : Int))) :: u :: u :: v41 :: v42 :: v43 :: v44 :: v45 :: v46 :: v47 :: v48 :: v49 :: v50 :: v51 :: .bool (true) :: v53 :: v54 :: v55 :: v56 :: v57 :: .bool (true) :: v59 :: v60 :: v61 :: v62 :: v63 :: v64 :: v65 :: v66 :: v67 :: v68 :: []) ++ us 79) ?_
   refine nx ?_
   refine wp_seq ?_
   have lt_ru := Ru.lt
   have lt2_b2 := B2.lt
   have lt2_b3 := B3.lt
   have lt2_b4 := B4.lt
   have lt2_b5 := B5.lt
   have lt2_b11 := B11.lt
   have lt2_b13 := B13.lt
   refine rg (fun c d v a w h => NL c d v a w h) [(69, .nat (x)), (70, .eq (.int .i64 (((nw x : Nat) : Int)))), (71, .eq (.int .i64 (((nw (y * 2 ^ s) : Nat) : Int)))), (72, .eq (.int .i64 (((nw x - nw (y * 2 ^ s) : Nat) : Int)))), (73, .eq (.int .i64 (((nw x - nw (y * 2 ^ s) + 1 : Nat) : Int)))), (74, .own w18.heap.size (fun _ => 0) (nw x - nw (y * 2 ^ s) + 1)), (17, .own w18.heap.size (fun _ => 0) (nw x - nw (y * 2 ^ s) + 1))] [] [] [] 148 7 ?_ ?_
   ·refine so [] (fun w19 hw19 => .fin (yld_loadBox rfl rfl aggNat (B2.grow hw19) (shNat _))) ?_
    refine so [0] (fun w19 hw19 => by rintro v69 h69; exact .fin (yld_call rfl cal_nat_Nat_Len rfl (cNatLen h69))) ?_
    refine so [] (fun w19 hw19 => .fin (yld_move rfl ⟨Grow.refl _, rfl⟩)) ?_
    refine so [1, 2] (fun w19 hw19 => by rintro _ rfl _ rfl; exact .fin (yld_sub rfl rfl rfl (r := ((nw x - nw (y * 2 ^ s) : Nat) : Int)) (by rw [IntKind.wrap_i64]; omega) ⟨Grow.refl _, rfl⟩)) ?_
    refine so [3] (fun w19 hw19 => by rintro _ rfl; exact .fin (yld_add rfl rfl rfl (r := ((nw x - nw (y * 2 ^ s) + 1 : Nat) : Int)) (by rw [IntKind.wrap_i64]; omega) ⟨Grow.refl _, rfl⟩)) ?_
    refine so [4] (fun w19 hw19 => by rintro _ rfl; exact .fin (yld_makeO rfl rfl rfl zo hw19.size)) ?_
    exact so [5] (fun w19 hw19 => by rintro v74 h74; exact .fin (yld_assign rfl ⟨Grow.refl _, h74⟩)) (.nil _ _)
   rintro w19 hw19 v69 - v70 - v71 - v72 - v73 - v74 - v17 h17 -
   have W19 : Grow w w19 := W18.trans hw19
   replace B2 := B2.grow hw19
   replace B3 := B3.grow hw19
   replace B4 := B4.grow hw19
   replace B5 := B5.grow hw19
   replace B11 := B11.grow hw19
   replace B13 := B13.grow hw19
   replace Ru := Ru.below hw19
   replace hb := MR.mono _ hw19 hb
   obtain ⟨rq, cq, rfl, gBq, hcq, hcmq, Rq⟩ := h17
   have g_rq : w.heap.size ≤ rq := Nat.le_trans W18.size gBq
   have n_ru_rq : ru ≠ rq := Nat.ne_of_lt (Nat.lt_of_lt_of_le lt_ru gBq)
   have G9 : Grow w16 w19 := Grow.trans (Grow.trans (hw17) hw18) hw19
   have G11 : Grow w16 w18 := Grow.trans (hw17) hw18
   have n_b2_rq : b2 ≠ rq := Nat.ne_of_lt (Nat.lt_of_lt_of_le lt2_b2 gBq)
   replace B2 := (Box.natF (F := fun k => k = ru ∨ k = rq) C2 (by rintro k (rfl | rfl); exact gBu; exact Nat.le_trans G11.size gBq)).grow G9
   have n_b3_rq : b3 ≠ rq := Nat.ne_of_lt (Nat.lt_of_lt_of_le lt2_b3 gBq)
   replace B3 := (Box.natF (F := fun k => k = ru ∨ k = rq) C3 (by rintro k (rfl | rfl); exact gBu; exact Nat.le_trans G11.size gBq)).grow G9
   have n_b4_rq : b4 ≠ rq := Nat.ne_of_lt (Nat.lt_of_lt_of_le lt2_b4 gBq)
   replace B4 := (Box.natF (F := fun k => k = ru ∨ k = rq) C4 (by rintro k (rfl | rfl); exact gBu; exact Nat.le_trans G11.size gBq)).grow G9
   have n_b5_rq : b5 ≠ rq := Nat.ne_of_lt (Nat.lt_of_lt_of_le lt2_b5 gBq)
   replace B5 := (Box.natF (F := fun k => k = ru ∨ k = rq) C5 (by rintro k (rfl | rfl); exact gBu; exact Nat.le_trans G11.size gBq)).grow G9
   have n_b11_rq : b11 ≠ rq := Nat.ne_of_lt (Nat.lt_of_lt_of_le lt2_b11 gBq)
   replace B11 := (Box.natF (F := fun k => k = ru ∨ k = rq) C11 (by rintro k (rfl | rfl); exact gBu; exact Nat.le_trans G11.size gBq)).grow G9
   have n_b13_rq : b13 ≠ rq := Nat.ne_of_lt (Nat.lt_of_lt_of_le lt2_b13 gBq)
   replace B13 := (Box.natF (F := fun k => k = ru ∨ k = rq) C13 (by rintro k (rfl | rfl); exact gBu; exact Nat.le_trans G11.size gBq)).grow G9
   clear C2 C3 C4 C5 C11 C13
   refine fr ((va :: vb :: pt b2 :: pt b3 :: pt b4 :: pt b5 :: .bool (false) :: u :: u :: u :: It s :: pt b11 :: .bool (true) :: pt b13 :: .bool (true) :: .slice (some ⟨ru, 0, none⟩) (nw x + 1) (cu) :: It (nw (y * 2 ^ s)) :: .slice (some ⟨rq, 0, none⟩) (nw x - nw (y * 2 ^ s) + 1) (cq) :: u :: v19 :: v20 :: .bool (decide ((((nw y : Nat) : Int) : Int) ≤ (1 : Int))) :: u :: u :: u :: u :: u :: u :: u :: u :: u :: u :: u :: u :: u :: v35 :: v36 :: v37 :: .bool (decide ((cmpV ((x : Nat)) ((y : Nat)) : Int) < (0 : Int))) :: u :: u :: v41 :: v42 :: v43 :: v44 :: v45 :: v46 :: v47 :: v48 :: v49 :: v50 :: v51 :: .bool (true) :: v53 :: v54 :: v55 :: v56 :: v57 :: .bool (true) :: v59 :: v60 :: v61 :: v62 :: v63 :: v64 :: v65 :: v66 :: v67 :: v68 :: v69 :: v70 :: v71 :: v72 :: v73 :: v74 :: []) ++ us 73) ?_
   refine nx ?_
   refine wp_seq ?_
   refine wp_seq ?_
   refine rg (fun c d v a w h => NL c d v a w h) [(75, .eq (.slice (some ⟨rq, 0, none⟩) (nw x - nw (y * 2 ^ s) + 1) (cq))), (76, .eq (.int .i64 (((nw x - nw (y * 2 ^ s) + 1 : Nat) : Int)))), (77, .eq (.int .i64 ((((nw x - nw (y * 2 ^ s) + 1 : Nat) : Int)) - 1))), (18, .eq (.int .i64 ((((nw x - nw (y * 2 ^ s) + 1 : Nat) : Int)) - 1)))] [] [] [] 148 4 ?_ ?_
   ·refine so [] (fun w20 hw20 => .fin (yld_move rfl ⟨Grow.refl _, rfl⟩)) ?_
    refine so [0] (fun w20 hw20 => by rintro _ rfl; exact .fin (yld_lenE rfl rfl)) ?_
    refine so [1] (fun w20 hw20 => by rintro _ rfl; exact .fin (yld_sub rfl rfl rfl (r := (((nw x - nw (y * 2 ^ s) + 1 : Nat) : Int)) - 1) (by rw [IntKind.wrap_i64]; omega) ⟨Grow.refl _, rfl⟩)) ?_
    exact so [2] (fun w20 hw20 => by rintro _ rfl; exact .fin (yld_assign rfl ⟨Grow.refl _, rfl⟩)) (.nil _ _)
   rintro w20 hw20 v75 - v76 - v77 - _ rfl -
   have W20 : Grow w w20 := W19.trans hw20
   replace B2 := B2.grow hw20
   replace B3 := B3.grow hw20
   replace B4 := B4.grow hw20
   replace B5 := B5.grow hw20
   replace B11 := B11.grow hw20
   replace B13 := B13.grow hw20
   replace Ru := Ru.below hw20
   replace Rq := Rq.below hw20
   refine fr ((va :: vb :: pt b2 :: pt b3 :: pt b4 :: pt b5 :: .bool (false) :: u :: u :: u :: It s :: pt b11 :: .bool (true) :: pt b13 :: .bool (true) :: .slice (some ⟨ru, 0, none⟩) (nw x + 1) (cu) :: It (nw (y * 2 ^ s)) :: .slice (some ⟨rq, 0, none⟩) (nw x - nw (y * 2 ^ s) + 1) (cq) :: .int .i64 ((((nw x - nw (y * 2 ^ s) + 1 : Nat) : Int)) - 1) :: v19 :: v20 :: .bool (decide ((((nw y : Nat) : Int) : Int) ≤ (1 : Int))) :: u :: u :: u :: u :: u :: u :: u :: u :: u :: u :: u :: u :: u :: v35 :: v36 :: v37 :: .bool (decide ((cmpV ((x : Nat)) ((y : Nat)) : Int) < (0 : Int))) :: u :: u :: v41 :: v42 :: v43 :: v44 :: v45 :: v46 :: v47 :: v48 :: v49 :: v50 :: v51 :: .bool (true) :: v53 :: v54 :: v55 :: v56 :: v57 :: .bool (true) :: v59 :: v60 :: v61 :: v62 :: v63 :: v64 :: v65 :: v66 :: v67 :: v68 :: v69 :: v70 :: v71 :: v72 :: v73 :: v74 :: v75 :: v76 :: v77 :: []) ++ us 70) ?_
   refine nx ?_
   refine wp_block ?_
   refine wp_loop_ghost (fun nn ac21 w21 => ∃ (j : Nat) (fu : Nat → Nat) (fq : Nat → Nat), nn = j ∧ (j ≤ nw x - nw (y * 2 ^ s) + 1 ∧ DInv (x * 2 ^ s) (y * 2 ^ s) (nw x + 1) (nw x - nw (y * 2 ^ s) + 1) j fu fq) ∧ ∃ tt21 : Nat → Value, ac21 = ⟨List.toArray ((va :: vb :: pt b2 :: pt b3 :: pt b4 :: pt b5 :: .bool (false) :: u :: u :: u :: It s :: pt b11 :: .bool (true) :: pt b13 :: .bool (true) :: .slice (some ⟨ru, 0, none⟩) (nw x + 1) (cu) :: It (nw (y * 2 ^ s)) :: .slice (some ⟨rq, 0, none⟩) (nw x - nw (y * 2 ^ s) + 1) (cq) :: .int .i64 (((j : Nat) : Int) - 1) :: v19 :: v20 :: .bool (decide ((((nw y : Nat) : Int) : Int) ≤ (1 : Int))) :: u :: u :: u :: u :: u :: u :: u :: u :: u :: u :: u :: u :: u :: v35 :: v36 :: v37 :: .bool (decide ((cmpV ((x : Nat)) ((y : Nat)) : Int) < (0 : Int))) :: u :: u :: v41 :: v42 :: v43 :: v44 :: v45 :: v46 :: v47 :: v48 :: v49 :: v50 :: v51 :: .bool (true) :: v53 :: v54 :: v55 :: v56 :: v57 :: .bool (true) :: v59 :: v60 :: v61 :: v62 :: v63 :: v64 :: v65 :: v66 :: v67 :: v68 :: v69 :: v70 :: v71 :: v72 :: v73 :: v74 :: v75 :: v76 :: v77 :: (tt21 78) :: (tt21 79) :: (tt21 80) :: (tt21 81) :: (tt21 82) :: (tt21 83) :: (tt21 84) :: (tt21 85) :: (tt21 86) :: (tt21 87) :: (tt21 88) :: (tt21 89) :: (tt21 90) :: (tt21 91) :: (tt21 92) :: (tt21 93) :: (tt21 94) :: (tt21 95) :: (tt21 96) :: (tt21 97) :: (tt21 98) :: (tt21 99) :: (tt21 100) :: (tt21 101) :: (tt21 102) :: (tt21 103) :: (tt21 104) :: (tt21 105) :: (tt21 106) :: (tt21 107) :: (tt21 108) :: (tt21 109) :: (tt21 110) :: (tt21 111) :: (tt21 112) :: (tt21 113) :: (tt21 114) :: (tt21 115) :: (tt21 116) :: (tt21 117) :: (tt21 118) :: (tt21 119) :: (tt21 120) :: (tt21 121) :: (tt21 122) :: (tt21 123) :: (tt21 124) :: (tt21 125) :: (tt21 126) :: (tt21 127) :: (tt21 128) :: (tt21 129) :: (tt21 130) :: (tt21 131) :: (tt21 132) :: (tt21 133) :: (tt21 134) :: (tt21 135) :: (tt21 136) :: (tt21 137) :: (tt21 138) :: (tt21 139) :: (tt21 140) :: (tt21 141) :: []) ++ us 6), []⟩ ∧ Grow w w21 ∧ Box w21 b2 51 (.natF (fun k => k = ru ∨ k = rq) (x)) ∧ Box w21 b3 51 (.natF (fun k => k = ru ∨ k = rq) (y)) ∧ Box w21 b4 51 (.natF (fun k => k = ru ∨ k = rq) (0)) ∧ Box w21 b5 51 (.natF (fun k => k = ru ∨ k = rq) (0)) ∧ Box w21 b11 51 (.natF (fun k => k = ru ∨ k = rq) (y * 2 ^ s)) ∧ Box w21 b13 51 (.natF (fun k => k = ru ∨ k = rq) (x * 2 ^ s)) ∧ Blk w21 ru 146 (wa (fu) (cu)) ∧ Blk w21 rq 146 (wa (fq) (cq))) (nw x - nw (y * 2 ^ s) + 1) ⟨nw x - nw (y * 2 ^ s) + 1, wd (x * 2 ^ s), fun _ => 0, rfl, ⟨Nat.le_refl _, d_start hNx1 zo hy0⟩, fun d => ((.int .i64 ((((nw x - nw (y * 2 ^ s) + 1 : Nat) : Int)) - 1) :: v19 :: v20 :: .bool (decide ((((nw y : Nat) : Int) : Int) ≤ (1 : Int))) :: u :: u :: u :: u :: u :: u :: u :: u :: u :: u :: u :: u :: u :: v35 :: v36 :: v37 :: .bool (decide ((cmpV ((x : Nat)) ((y : Nat)) : Int) < (0 : Int))) :: u :: u :: v41 :: v42 :: v43 :: v44 :: v45 :: v46 :: v47 :: v48 :: v49 :: v50 :: v51 :: .bool (true) :: v53 :: v54 :: v55 :: v56 :: v57 :: .bool (true) :: v59 :: v60 :: v61 :: v62 :: v63 :: v64 :: v65 :: v66 :: v67 :: v68 :: v69 :: v70 :: v71 :: v72 :: v73 :: v74 :: v75 :: v76 :: v77 :: u :: u :: u :: u :: u :: u :: u :: u :: u :: u :: u :: u :: u :: u :: u :: u :: u :: u :: u :: u :: u :: u :: u :: u :: u :: u :: u :: u :: u :: u :: u :: u :: u :: u :: u :: u :: u :: u :: u :: u :: u :: u :: u :: u :: u :: u :: u :: u :: u :: u :: u :: u :: u :: u :: u :: u :: u :: u :: u :: u :: u :: u :: u :: u :: []) : List Value).getD (d - 18) undef, by kernel_rfl, W20, B2, B3, B4, B5, B11, B13, Ru, Rq⟩ ?_
   clear B2 B3 B4 B5 B11 B13 Ru Rq
   rintro nn21 _ w21 ⟨j, fu, fq, hnn21, ⟨hj, hD⟩, tt21, rfl, W21, B2, B3, B4, B5, B11, B13, Ru, Rq⟩
   refine wp_seq ?_
   refine wp_seq ?_
   refine rg (fun c d v a w h => NL c d v a w h) [(78, .eq (.int .i64 (((j : Nat) : Int) - 1))), (79, .eq (.bool (decide ((((j : Nat) : Int) - 1 : Int) ≥ (0 : Int)))))] [] [] [] 148 2 ?_ ?_
   ·refine so [] (fun w22 hw22 => .fin (yld_move rfl ⟨Grow.refl _, rfl⟩)) ?_
    exact so [0] (fun w22 hw22 => by rintro _ rfl; exact .fin (yld_geq rfl rfl rfl ⟨Grow.refl _, rfl⟩)) (.nil _ _)
   rintro w22 hw22 v78 - _ rfl -
   have W22 : Grow w w22 := W21.trans hw22
   replace B2 := B2.grow hw22
   replace B3 := B3.grow hw22
   replace B4 := B4.grow hw22
   replace B5 := B5.grow hw22
   replace B11 := B11.grow hw22
   replace B13 := B13.grow hw22
   replace Ru := Ru.below hw22
   replace Rq := Rq.below hw22
   refine fr ((va :: vb :: pt b2 :: pt b3 :: pt b4 :: pt b5 :: .bool (false) :: u :: u :: u :: It s :: pt b11 :: .bool (true) :: pt b13 :: .bool (true) :: .slice (some ⟨ru, 0, none⟩) (nw x + 1) (cu) :: It (nw (y * 2 ^ s)) :: .slice (some ⟨rq, 0, none⟩) (nw x - nw (y * 2 ^ s) + 1) (cq) :: .int .i64 (((j : Nat) : Int) - 1) :: v19 :: v20 :: .bool (decide ((((nw y : Nat) : Int) : Int) ≤ (1 : Int))) :: u :: u :: u :: u :: u :: u :: u :: u :: u :: u :: u :: u :: u :: v35 :: v36 :: v37 :: .bool (decide ((cmpV ((x : Nat)) ((y : Nat)) : Int) < (0 : Int))) :: u :: u :: v41 :: v42 :: v43 :: v44 :: v45 :: v46 :: v47 :: v48 :: v49 :: v50 :: v51 :: .bool (true) :: v53 :: v54 :: v55 :: v56 :: v57 :: .bool (true) :: v59 :: v60 :: v61 :: v62 :: v63 :: v64 :: v65 :: v66 :: v67 :: v68 :: v69 :: v70 :: v71 :: v72 :: v73 :: v74 :: v75 :: v76 :: v77 :: v78 :: .bool (decide ((((j : Nat) : Int) - 1 : Int) ≥ (0 : Int))) :: (tt21 80) :: (tt21 81) :: (tt21 82) :: (tt21 83) :: (tt21 84) :: (tt21 85) :: (tt21 86) :: (tt21 87) :: (tt21 88) :: (tt21 89) :: (tt21 90) :: (tt21 91) :: (tt21 92) :: (tt21 93) :: (tt21 94) :: (tt21 95) :: (tt21 96) :: (tt21 97) :: (tt21 98) :: (tt21 99) :: (tt21 100) :: (tt21 101) :: (tt21 102) :: (tt21 103) :: (tt21 104) :: (tt21 105) :: (tt21 106) :: (tt21 107) :: (tt21 108) :: (tt21 109) :: (tt21 110) :: (tt21 111) :: (tt21 112) :: (tt21 113) :: (tt21 114) :: (tt21 115) :: (tt21 116) :: (tt21 117) :: (tt21 118) :: (tt21 119) :: (tt21 120) :: (tt21 121) :: (tt21 122) :: (tt21 123) :: (tt21 124) :: (tt21 125) :: (tt21 126) :: (tt21 127) :: (tt21 128) :: (tt21 129) :: (tt21 130) :: (tt21 131) :: (tt21 132) :: (tt21 133) :: (tt21 134) :: (tt21 135) :: (tt21 136) :: (tt21 137) :: (tt21 138) :: (tt21 139) :: (tt21 140) :: (tt21 141) :: []) ++ us 6) ?_
   refine nx ?_
   refine wp_cond_split (t := decide ((((j : Nat) : Int) - 1 : Int) ≥ (0 : Int))) rfl (fun hge => ?_) (fun hge => ?_)
   ·have hj0 : 0 < j := by have := of_decide_eq_true hge; omega
    have hD1 : DInv (x * 2 ^ s) (y * 2 ^ s) (nw x + 1) (nw x - nw (y * 2 ^ s) + 1) (j - 1 + 1) fu fq := by rw [Nat.sub_add_cancel hj0]; exact hD
    have hkN : j - 1 + nw (y * 2 ^ s) < nw x + 1 := by omega
    have hkQ : j - 1 < nw x - nw (y * 2 ^ s) + 1 := by omega
    obtain ⟨hg1, hg2⟩ := d_guess rfl h2V hkN hD1
    refine wp_skip ?_
    change Code.wp _ _ _ ⟨_, []⟩ _
    refine wp_seq ?_
    refine wp_block ?_
    refine wp_seq ?_
    refine rg (fun c d v a w h => NL c d v a w h) [(82, .eq (.slice (some ⟨rq, 0, none⟩) (nw x - nw (y * 2 ^ s) + 1) (cq))), (83, .eq (.int .i64 (((j : Nat) : Int) - 1))), (84, .eq (.slice (some ⟨ru, 0, none⟩) (nw x + 1) (cu))), (85, .eq (.int .i64 (((j : Nat) : Int) - 1))), (86, .eq (.int .i64 (((nw (y * 2 ^ s) : Nat) : Int)))), (87, .eq (.int .i64 ((((j : Nat) : Int) - 1) + (((nw (y * 2 ^ s) : Nat) : Int))))), (88, .eq (.pointer (some ⟨ru, (j - 1 + nw (y * 2 ^ s)), none⟩))), (89, .eq (.int .u64 (((fu ((j - 1 + nw (y * 2 ^ s))) : Nat) : Int)))), (90, .eq (.slice (some ⟨ru, 0, none⟩) (nw x + 1) (cu))), (91, .eq (.int .i64 (((j : Nat) : Int) - 1))), (92, .eq (.int .i64 (((nw (y * 2 ^ s) : Nat) : Int)))), (93, .eq (.int .i64 ((((j : Nat) : Int) - 1) + (((nw (y * 2 ^ s) : Nat) : Int))))), (94, .eq (.int .i64 (((((j : Nat) : Int) - 1) + (((nw (y * 2 ^ s) : Nat) : Int))) - 1))), (95, .eq (.pointer (some ⟨ru, (j - 1 + nw (y * 2 ^ s) - 1), none⟩))), (96, .eq (.int .u64 (((fu ((j - 1 + nw (y * 2 ^ s) - 1)) : Nat) : Int)))), (97, .eq (.slice (some ⟨ru, 0, none⟩) (nw x + 1) (cu))), (98, .eq (.int .i64 (((j : Nat) : Int) - 1))), (99, .eq (.int .i64 (((nw (y * 2 ^ s) : Nat) : Int)))), (100, .eq (.int .i64 ((((j : Nat) : Int) - 1) + (((nw (y * 2 ^ s) : Nat) : Int))))), (101, .eq (.int .i64 (((((j : Nat) : Int) - 1) + (((nw (y * 2 ^ s) : Nat) : Int))) - 2))), (102, .eq (.pointer (some ⟨ru, (j - 1 + nw (y * 2 ^ s) - 2), none⟩))), (103, .eq (.int .u64 (((fu ((j - 1 + nw (y * 2 ^ s) - 2)) : Nat) : Int)))), (104, .natF (fun k => k = ru ∨ k = rq) (y * 2 ^ s)), (105, .eq (.int .i64 (((nw (y * 2 ^ s) : Nat) : Int)))), (106, .eq (.int .i64 (((nw (y * 2 ^ s) - 1 : Nat) : Int)))), (107, .eq (.int .u64 (((wd (y * 2 ^ s) (nw (y * 2 ^ s) - 1) : Nat) : Int)))), (108, .natF (fun k => k = ru ∨ k = rq) (y * 2 ^ s)), (109, .eq (.int .i64 (((nw (y * 2 ^ s) : Nat) : Int)))), (110, .eq (.int .i64 (((nw (y * 2 ^ s) - 2 : Nat) : Int)))), (111, .eq (.int .u64 (((wd (y * 2 ^ s) (nw (y * 2 ^ s) - 2) : Nat) : Int)))), (112, .eq (.int .u64 (((dq fu (y * 2 ^ s) (j - 1) (nw (y * 2 ^ s)) : Nat) : Int)))), (113, .eq (.pointer (some ⟨rq, (j - 1), none⟩)))] [] [] [] 148 32 ?_ ?_
    ·refine so [] (fun w23 hw23 => .fin (yld_move rfl ⟨Grow.refl _, rfl⟩)) ?_
     refine so [] (fun w23 hw23 => .fin (yld_move rfl ⟨Grow.refl _, rfl⟩)) ?_
     refine so [] (fun w23 hw23 => .fin (yld_move rfl ⟨Grow.refl _, rfl⟩)) ?_
     refine so [] (fun w23 hw23 => .fin (yld_move rfl ⟨Grow.refl _, rfl⟩)) ?_
     refine so [] (fun w23 hw23 => .fin (yld_move rfl ⟨Grow.refl _, rfl⟩)) ?_
     refine so [3, 4] (fun w23 hw23 => by rintro _ rfl _ rfl; exact .fin (yld_add rfl rfl rfl (r := (((j : Nat) : Int) - 1) + (((nw (y * 2 ^ s) : Nat) : Int))) (by rw [IntKind.wrap_i64]; omega) ⟨Grow.refl _, rfl⟩)) ?_
     refine so [2, 5] (fun w23 hw23 => by rintro _ rfl _ rfl; exact .fin (yld_indexE (k := j - 1 + nw (y * 2 ^ s)) rfl rfl rfl zo zo (j := (j - 1 + nw (y * 2 ^ s))) zo)) ?_
     refine so [6] (fun w23 hw23 => by rintro _ rfl; exact .fin (yld_loadE rfl rfl (Ru.below hw23) zo)) ?_
     refine so [] (fun w23 hw23 => .fin (yld_move rfl ⟨Grow.refl _, rfl⟩)) ?_
     refine so [] (fun w23 hw23 => .fin (yld_move rfl ⟨Grow.refl _, rfl⟩)) ?_
     refine so [] (fun w23 hw23 => .fin (yld_move rfl ⟨Grow.refl _, rfl⟩)) ?_
     refine so [9, 10] (fun w23 hw23 => by rintro _ rfl _ rfl; exact .fin (yld_add rfl rfl rfl (r := (((j : Nat) : Int) - 1) + (((nw (y * 2 ^ s) : Nat) : Int))) (by rw [IntKind.wrap_i64]; omega) ⟨Grow.refl _, rfl⟩)) ?_
     refine so [11] (fun w23 hw23 => by rintro _ rfl; exact .fin (yld_sub rfl rfl rfl (r := ((((j : Nat) : Int) - 1) + (((nw (y * 2 ^ s) : Nat) : Int))) - 1) (by rw [IntKind.wrap_i64]; omega) ⟨Grow.refl _, rfl⟩)) ?_
     refine so [8, 12] (fun w23 hw23 => by rintro _ rfl _ rfl; exact .fin (yld_indexE (k := j - 1 + nw (y * 2 ^ s) - 1) rfl rfl rfl zo zo (j := (j - 1 + nw (y * 2 ^ s) - 1)) zo)) ?_
     refine so [13] (fun w23 hw23 => by rintro _ rfl; exact .fin (yld_loadE rfl rfl (Ru.below hw23) zo)) ?_
     refine so [] (fun w23 hw23 => .fin (yld_move rfl ⟨Grow.refl _, rfl⟩)) ?_
     refine so [] (fun w23 hw23 => .fin (yld_move rfl ⟨Grow.refl _, rfl⟩)) ?_
     refine so [] (fun w23 hw23 => .fin (yld_move rfl ⟨Grow.refl _, rfl⟩)) ?_
     refine so [16, 17] (fun w23 hw23 => by rintro _ rfl _ rfl; exact .fin (yld_add rfl rfl rfl (r := (((j : Nat) : Int) - 1) + (((nw (y * 2 ^ s) : Nat) : Int))) (by rw [IntKind.wrap_i64]; omega) ⟨Grow.refl _, rfl⟩)) ?_
     refine so [18] (fun w23 hw23 => by rintro _ rfl; exact .fin (yld_sub rfl rfl rfl (r := ((((j : Nat) : Int) - 1) + (((nw (y * 2 ^ s) : Nat) : Int))) - 2) (by rw [IntKind.wrap_i64]; omega) ⟨Grow.refl _, rfl⟩)) ?_
     refine so [15, 19] (fun w23 hw23 => by rintro _ rfl _ rfl; exact .fin (yld_indexE (k := j - 1 + nw (y * 2 ^ s) - 2) rfl rfl rfl zo zo (j := (j - 1 + nw (y * 2 ^ s) - 2)) zo)) ?_
     refine so [20] (fun w23 hw23 => by rintro _ rfl; exact .fin (yld_loadE rfl rfl (Ru.below hw23) zo)) ?_
     refine so [] (fun w23 hw23 => .fin (yld_loadBox rfl rfl aggNat (B11.grow hw23) (shNatF))) ?_
     refine so [] (fun w23 hw23 => .fin (yld_move rfl ⟨Grow.refl _, rfl⟩)) ?_
     refine so [23] (fun w23 hw23 => by rintro _ rfl; exact .fin (yld_sub rfl rfl rfl (r := ((nw (y * 2 ^ s) - 1 : Nat) : Int)) (by rw [IntKind.wrap_i64]; omega) ⟨Grow.refl _, rfl⟩)) ?_
     refine so [22, 24] (fun w23 hw23 => by rintro v104 h104 _ rfl; exact .fin (yld_call rfl cal_nat_Nat_Word rfl (cWordF (k := (nw (y * 2 ^ s) - 1)) h104))) ?_
     refine so [] (fun w23 hw23 => .fin (yld_loadBox rfl rfl aggNat (B11.grow hw23) (shNatF))) ?_
     refine so [] (fun w23 hw23 => .fin (yld_move rfl ⟨Grow.refl _, rfl⟩)) ?_
     refine so [27] (fun w23 hw23 => by rintro _ rfl; exact .fin (yld_sub rfl rfl rfl (r := ((nw (y * 2 ^ s) - 2 : Nat) : Int)) (by rw [IntKind.wrap_i64]; omega) ⟨Grow.refl _, rfl⟩)) ?_
     refine so [26, 28] (fun w23 hw23 => by rintro v108 h108 _ rfl; exact .fin (yld_call rfl cal_nat_Nat_Word rfl (cWordF (k := (nw (y * 2 ^ s) - 2)) h108))) ?_
     refine so [7, 14, 21, 25, 29] (fun w23 hw23 => by rintro _ rfl _ rfl _ rfl _ rfl _ rfl; exact .fin (yld_as (R := .eq (.int .u64 (((gq (fu ((j - 1 + nw (y * 2 ^ s)))) (fu ((j - 1 + nw (y * 2 ^ s) - 1))) (fu ((j - 1 + nw (y * 2 ^ s) - 2))) (wd (y * 2 ^ s) (nw (y * 2 ^ s) - 1)) (wd (y * 2 ^ s) (nw (y * 2 ^ s) - 2)) : Nat) : Int)))) (R2 := .eq (.int .u64 (((dq fu (y * 2 ^ s) (j - 1) (nw (y * 2 ^ s)) : Nat) : Int)))) (yld_call rfl cal_quot_guess rfl (cGuess (u2 := (fu ((j - 1 + nw (y * 2 ^ s))))) (u1 := (fu ((j - 1 + nw (y * 2 ^ s) - 1)))) (u0 := (fu ((j - 1 + nw (y * 2 ^ s) - 2)))) (v1 := (wd (y * 2 ^ s) (nw (y * 2 ^ s) - 1))) (v0 := (wd (y * 2 ^ s) (nw (y * 2 ^ s) - 2))) hg1 hg2 (hD.1 _ zo) (hD.1 _ zo) (wd_lt _ _) (wd_lt _ _))) (fun h => h))) ?_
     exact so [0, 1] (fun w23 hw23 => by rintro _ rfl _ rfl; exact .fin (yld_indexE (k := j - 1) rfl rfl rfl zo zo (j := (j - 1)) zo)) (.nil _ _)
    rintro w23 hw23 v82 - v83 - v84 - v85 - v86 - v87 - v88 - v89 - v90 - v91 - v92 - v93 - v94 - v95 - v96 - v97 - v98 - v99 - v100 - v101 - v102 - v103 - v104 - v105 - v106 - v107 - v108 - v109 - v110 - v111 - _ rfl _ rfl -
    have W23 : Grow w w23 := W22.trans hw23
    replace B2 := B2.grow hw23
    replace B3 := B3.grow hw23
    replace B4 := B4.grow hw23
    replace B5 := B5.grow hw23
    replace B11 := B11.grow hw23
    replace B13 := B13.grow hw23
    replace Ru := Ru.below hw23
    replace Rq := Rq.below hw23
    have KK : Kept [] w23 w23 := fun _ _ => rfl
    refine fr ((va :: vb :: pt b2 :: pt b3 :: pt b4 :: pt b5 :: .bool (false) :: u :: u :: u :: It s :: pt b11 :: .bool (true) :: pt b13 :: .bool (true) :: .slice (some ⟨ru, 0, none⟩) (nw x + 1) (cu) :: It (nw (y * 2 ^ s)) :: .slice (some ⟨rq, 0, none⟩) (nw x - nw (y * 2 ^ s) + 1) (cq) :: .int .i64 (((j : Nat) : Int) - 1) :: v19 :: v20 :: .bool (decide ((((nw y : Nat) : Int) : Int) ≤ (1 : Int))) :: u :: u :: u :: u :: u :: u :: u :: u :: u :: u :: u :: u :: u :: v35 :: v36 :: v37 :: .bool (decide ((cmpV ((x : Nat)) ((y : Nat)) : Int) < (0 : Int))) :: u :: u :: v41 :: v42 :: v43 :: v44 :: v45 :: v46 :: v47 :: v48 :: v49 :: v50 :: v51 :: .bool (true) :: v53 :: v54 :: v55 :: v56 :: v57 :: .bool (true) :: v59 :: v60 :: v61 :: v62 :: v63 :: v64 :: v65 :: v66 :: v67 :: v68 :: v69 :: v70 :: v71 :: v72 :: v73 :: v74 :: v75 :: v76 :: v77 :: v78 :: .bool (decide ((((j : Nat) : Int) - 1 : Int) ≥ (0 : Int))) :: (tt21 80) :: (tt21 81) :: v82 :: v83 :: v84 :: v85 :: v86 :: v87 :: v88 :: v89 :: v90 :: v91 :: v92 :: v93 :: v94 :: v95 :: v96 :: v97 :: v98 :: v99 :: v100 :: v101 :: v102 :: v103 :: v104 :: v105 :: v106 :: v107 :: v108 :: v109 :: v110 :: v111 :: Ut (dq fu (y * 2 ^ s) (j - 1) (nw (y * 2 ^ s))) :: .pointer (some ⟨rq, (j - 1), none⟩) :: (tt21 114) :: (tt21 115) :: (tt21 116) :: (tt21 117) :: (tt21 118) :: (tt21 119) :: (tt21 120) :: (tt21 121) :: (tt21 122) :: (tt21 123) :: (tt21 124) :: (tt21 125) :: (tt21 126) :: (tt21 127) :: (tt21 128) :: (tt21 129) :: (tt21 130) :: (tt21 131) :: (tt21 132) :: (tt21 133) :: (tt21 134) :: (tt21 135) :: (tt21 136) :: (tt21 137) :: (tt21 138) :: (tt21 139) :: (tt21 140) :: (tt21 141) :: []) ++ us 6) ?_
    change wpListS _ _ _ _ [_] ⟨_, []⟩ _
    refine wpListS_yld rfl ?_
    refine yld_storeE (i := (j - 1)) (v := dq fu (y * 2 ^ s) (j - 1) (nw (y * 2 ^ s))) rfl rfl rfl Rq zo fun w24 P24 R' => ⟨fun _ => Kept.put KK P24 (fun _ hk => (by cases hk)), ?_⟩
    replace KK := Kept.put KK P24 (fun _ hk => (by cases hk))
    have M24 : Mod rq w23 w24 := P24.toMod
    have W24 : Grow w w24 := W23.mod M24 g_rq
    replace B2 := B2.mod M24 (.inr rfl) n_b2_rq
    replace B3 := B3.mod M24 (.inr rfl) n_b3_rq
    replace B4 := B4.mod M24 (.inr rfl) n_b4_rq
    replace B5 := B5.mod M24 (.inr rfl) n_b5_rq
    replace B11 := B11.mod M24 (.inr rfl) n_b11_rq
    replace B13 := B13.mod M24 (.inr rfl) n_b13_rq
    replace Ru := Ru.mod M24 n_ru_rq
    replace Rq := R'; clear R'
    refine nx ?_
    refine wp_seq ?_
    refine rg (fun c d v a w h => NL c d v a w h) [(114, .eq (.slice (some ⟨ru, 0, none⟩) (nw x + 1) (cu))), (115, .eq (.int .i64 (((j : Nat) : Int) - 1))), (116, .eq (.int .i64 (((j : Nat) : Int) - 1))), (117, .eq (.int .i64 (((nw (y * 2 ^ s) : Nat) : Int)))), (118, .eq (.int .i64 ((((j : Nat) : Int) - 1) + (((nw (y * 2 ^ s) : Nat) : Int))))), (119, .eq (.int .i64 (((((j : Nat) : Int) - 1) + (((nw (y * 2 ^ s) : Nat) : Int))) + 1))), (120, .eq (.slice (some ⟨ru, (j - 1), none⟩) (nw (y * 2 ^ s) + 1) (cu - (j - 1)))), (121, .natF (fun k => k = ru ∨ k = rq) (y * 2 ^ s)), (122, .eq (.slice (some ⟨rq, 0, none⟩) (nw x - nw (y * 2 ^ s) + 1) (cq))), (123, .eq (.int .i64 (((j : Nat) : Int) - 1))), (124, .eq (.pointer (some ⟨rq, (j - 1), none⟩))), (125, .eq (.int .u64 (((dq fu (y * 2 ^ s) (j - 1) (nw (y * 2 ^ s)) : Nat) : Int))))] [] [] [] 148 12 ?_ ?_
    ·refine so [] (fun w25 hw25 => .fin (yld_move rfl ⟨Grow.refl _, rfl⟩)) ?_
     refine so [] (fun w25 hw25 => .fin (yld_move rfl ⟨Grow.refl _, rfl⟩)) ?_
     refine so [] (fun w25 hw25 => .fin (yld_move rfl ⟨Grow.refl _, rfl⟩)) ?_
     refine so [] (fun w25 hw25 => .fin (yld_move rfl ⟨Grow.refl _, rfl⟩)) ?_
     refine so [2, 3] (fun w25 hw25 => by rintro _ rfl _ rfl; exact .fin (yld_add rfl rfl rfl (r := (((j : Nat) : Int) - 1) + (((nw (y * 2 ^ s) : Nat) : Int))) (by rw [IntKind.wrap_i64]; omega) ⟨Grow.refl _, rfl⟩)) ?_
     refine so [4] (fun w25 hw25 => by rintro _ rfl; exact .fin (yld_add rfl rfl rfl (r := ((((j : Nat) : Int) - 1) + (((nw (y * 2 ^ s) : Nat) : Int))) + 1) (by rw [IntKind.wrap_i64]; omega) ⟨Grow.refl _, rfl⟩)) ?_
     refine so [0, 1, 5] (fun w25 hw25 => by rintro _ rfl _ rfl _ rfl; exact .fin (yld_sliceE (l := j - 1) (r := j - 1 + nw (y * 2 ^ s) + 1) (j := (j - 1)) (m := nw (y * 2 ^ s) + 1) rfl rfl rfl rfl zo zo zo zo zo zo)) ?_
     refine so [] (fun w25 hw25 => .fin (yld_loadBox rfl rfl aggNat (B11.grow hw25) (shNatF))) ?_
     refine so [] (fun w25 hw25 => .fin (yld_move rfl ⟨Grow.refl _, rfl⟩)) ?_
     refine so [] (fun w25 hw25 => .fin (yld_move rfl ⟨Grow.refl _, rfl⟩)) ?_
     refine so [8, 9] (fun w25 hw25 => by rintro _ rfl _ rfl; exact .fin (yld_indexE (k := j - 1) rfl rfl rfl zo zo (j := (j - 1)) zo)) ?_
     exact so [10] (fun w25 hw25 => by rintro _ rfl; exact .fin (yld_as (R := .eq (.int .u64 ((((upd (fq) ((j - 1)) (dq fu (y * 2 ^ s) (j - 1) (nw (y * 2 ^ s)))) ((j - 1)) : Nat) : Int)))) (R2 := .eq (.int .u64 (((dq fu (y * 2 ^ s) (j - 1) (nw (y * 2 ^ s)) : Nat) : Int)))) (yld_loadE rfl rfl (Rq.below hw25) zo) (fun h => h.trans (by rw [upd_same])))) (.nil _ _)
    rintro w25 hw25 v114 - v115 - v116 - v117 - v118 - v119 - _ rfl v121 h121 v122 - v123 - v124 - _ rfl -
    have W25 : Grow w w25 := W24.trans hw25
    replace B2 := B2.grow hw25
    replace B3 := B3.grow hw25
    replace B4 := B4.grow hw25
    replace B5 := B5.grow hw25
    replace B11 := B11.grow hw25
    replace B13 := B13.grow hw25
    replace Ru := Ru.below hw25
    replace Rq := Rq.below hw25
    have KK : Kept [] w25 w25 := fun _ _ => rfl
    refine fr ((va :: vb :: pt b2 :: pt b3 :: pt b4 :: pt b5 :: .bool (false) :: u :: u :: u :: It s :: pt b11 :: .bool (true) :: pt b13 :: .bool (true) :: .slice (some ⟨ru, 0, none⟩) (nw x + 1) (cu) :: It (nw (y * 2 ^ s)) :: .slice (some ⟨rq, 0, none⟩) (nw x - nw (y * 2 ^ s) + 1) (cq) :: .int .i64 (((j : Nat) : Int) - 1) :: v19 :: v20 :: .bool (decide ((((nw y : Nat) : Int) : Int) ≤ (1 : Int))) :: u :: u :: u :: u :: u :: u :: u :: u :: u :: u :: u :: u :: u :: v35 :: v36 :: v37 :: .bool (decide ((cmpV ((x : Nat)) ((y : Nat)) : Int) < (0 : Int))) :: u :: u :: v41 :: v42 :: v43 :: v44 :: v45 :: v46 :: v47 :: v48 :: v49 :: v50 :: v51 :: .bool (true) :: v53 :: v54 :: v55 :: v56 :: v57 :: .bool (true) :: v59 :: v60 :: v61 :: v62 :: v63 :: v64 :: v65 :: v66 :: v67 :: v68 :: v69 :: v70 :: v71 :: v72 :: v73 :: v74 :: v75 :: v76 :: v77 :: v78 :: .bool (decide ((((j : Nat) : Int) - 1 : Int) ≥ (0 : Int))) :: (tt21 80) :: (tt21 81) :: v82 :: v83 :: v84 :: v85 :: v86 :: v87 :: v88 :: v89 :: v90 :: v91 :: v92 :: v93 :: v94 :: v95 :: v96 :: v97 :: v98 :: v99 :: v100 :: v101 :: v102 :: v103 :: v104 :: v105 :: v106 :: v107 :: v108 :: v109 :: v110 :: v111 :: Ut (dq fu (y * 2 ^ s) (j - 1) (nw (y * 2 ^ s))) :: .pointer (some ⟨rq, (j - 1), none⟩) :: v114 :: v115 :: v116 :: v117 :: v118 :: v119 :: .slice (some ⟨ru, (j - 1), none⟩) (nw (y * 2 ^ s) + 1) (cu - (j - 1)) :: v121 :: v122 :: v123 :: v124 :: Ut (dq fu (y * 2 ^ s) (j - 1) (nw (y * 2 ^ s))) :: (tt21 126) :: (tt21 127) :: (tt21 128) :: (tt21 129) :: (tt21 130) :: (tt21 131) :: (tt21 132) :: (tt21 133) :: (tt21 134) :: (tt21 135) :: (tt21 136) :: (tt21 137) :: (tt21 138) :: (tt21 139) :: (tt21 140) :: (tt21 141) :: []) ++ us 6) ?_
    change wpListS _ _ _ _ [_] ⟨_, []⟩ _
    refine wpListS_yld rfl ?_
    refine yld_call rfl cal_quot_take rfl ((cTake (N := nw x + 1) Ru (NatAt.sub h121 fun k hk => .inl hk) (dq_lt _ _ _ _) hkN hcu zo hD.1).mono ?_)
    rintro _ w26 ⟨_, fT, rfl, M26, R', bT, rfl, hT9⟩
    refine ⟨_, rfl, fun h => absurd rfl h, ?_⟩
    have W26 : Grow w w26 := W25.mod M26 g_ru
    replace B2 := B2.mod M26 (.inl rfl) n_b2_ru
    replace B3 := B3.mod M26 (.inl rfl) n_b3_ru
    replace B4 := B4.mod M26 (.inl rfl) n_b4_ru
    replace B5 := B5.mod M26 (.inl rfl) n_b5_ru
    replace B11 := B11.mod M26 (.inl rfl) n_b11_ru
    replace B13 := B13.mod M26 (.inl rfl) n_b13_ru
    replace Rq := Rq.mod M26 (Ne.symm n_ru_rq)
    replace Ru := R'; clear R'
    refine wpListS_nil ?_
    change Code.wp _ _ _ ⟨List.toArray (List.set _ 126 _), []⟩ _
    refine wp_cond_split (t := decide (bT = 1)) rfl (fun hb => ?_) (fun hb => ?_)
    ·have hb1 : bT = 1 := of_decide_eq_true hb
     have hT1 := hT9
     rw [hb1] at hT1
     have hneg := d_neg rfl h2V hkN hD1 hT1
     refine wp_seq ?_
     refine rg (fun c d v a w h => NL c d v a w h) [(127, .eq (.slice (some ⟨rq, 0, none⟩) (nw x - nw (y * 2 ^ s) + 1) (cq))), (128, .eq (.int .i64 (((j : Nat) : Int) - 1))), (129, .eq (.pointer (some ⟨rq, (j - 1), none⟩))), (130, .eq (.int .u64 (((dq fu (y * 2 ^ s) (j - 1) (nw (y * 2 ^ s)) : Nat) : Int)))), (131, .eq (.int .u64 (((dq fu (y * 2 ^ s) (j - 1) (nw (y * 2 ^ s)) - 1 : Nat) : Int)))), (132, .eq (.pointer (some ⟨rq, (j - 1), none⟩)))] [] [] [] 148 6 ?_ ?_
     ·refine so [] (fun w27 hw27 => .fin (yld_move rfl ⟨Grow.refl _, rfl⟩)) ?_
      refine so [] (fun w27 hw27 => .fin (yld_move rfl ⟨Grow.refl _, rfl⟩)) ?_
      refine so [0, 1] (fun w27 hw27 => by rintro _ rfl _ rfl; exact .fin (yld_indexE (k := j - 1) rfl rfl rfl zo zo (j := (j - 1)) zo)) ?_
      refine so [2] (fun w27 hw27 => by rintro _ rfl; exact .fin (yld_as (R := .eq (.int .u64 ((((upd (fq) ((j - 1)) (dq fu (y * 2 ^ s) (j - 1) (nw (y * 2 ^ s)))) ((j - 1)) : Nat) : Int)))) (R2 := .eq (.int .u64 (((dq fu (y * 2 ^ s) (j - 1) (nw (y * 2 ^ s)) : Nat) : Int)))) (yld_loadE rfl rfl (Rq.below hw27) zo) (fun h => h.trans (by rw [upd_same])))) ?_
      refine so [3] (fun w27 hw27 => by rintro _ rfl; exact .fin (yld_sub rfl rfl rfl (r := ((dq fu (y * 2 ^ s) (j - 1) (nw (y * 2 ^ s)) - 1 : Nat) : Int)) (u64_pred (dq_lt _ _ _ _) hneg.2) ⟨Grow.refl _, rfl⟩)) ?_
      exact so [0, 1] (fun w27 hw27 => by rintro _ rfl _ rfl; exact .fin (yld_indexE (k := j - 1) rfl rfl rfl zo zo (j := (j - 1)) zo)) (.nil _ _)
     rintro w27 hw27 v127 - v128 - v129 - v130 - _ rfl _ rfl -
     have W27 : Grow w w27 := W26.trans hw27
     replace B2 := B2.grow hw27
     replace B3 := B3.grow hw27
     replace B4 := B4.grow hw27
     replace B5 := B5.grow hw27
     replace B11 := B11.grow hw27
     replace B13 := B13.grow hw27
     replace Ru := Ru.below hw27
     replace Rq := Rq.below hw27
     have KK : Kept [] w27 w27 := fun _ _ => rfl
     refine fr ((va :: vb :: pt b2 :: pt b3 :: pt b4 :: pt b5 :: .bool (false) :: u :: u :: u :: It s :: pt b11 :: .bool (true) :: pt b13 :: .bool (true) :: .slice (some ⟨ru, 0, none⟩) (nw x + 1) (cu) :: It (nw (y * 2 ^ s)) :: .slice (some ⟨rq, 0, none⟩) (nw x - nw (y * 2 ^ s) + 1) (cq) :: .int .i64 (((j : Nat) : Int) - 1) :: v19 :: v20 :: .bool (decide ((((nw y : Nat) : Int) : Int) ≤ (1 : Int))) :: u :: u :: u :: u :: u :: u :: u :: u :: u :: u :: u :: u :: u :: v35 :: v36 :: v37 :: .bool (decide ((cmpV ((x : Nat)) ((y : Nat)) : Int) < (0 : Int))) :: u :: u :: v41 :: v42 :: v43 :: v44 :: v45 :: v46 :: v47 :: v48 :: v49 :: v50 :: v51 :: .bool (true) :: v53 :: v54 :: v55 :: v56 :: v57 :: .bool (true) :: v59 :: v60 :: v61 :: v62 :: v63 :: v64 :: v65 :: v66 :: v67 :: v68 :: v69 :: v70 :: v71 :: v72 :: v73 :: v74 :: v75 :: v76 :: v77 :: v78 :: .bool (decide ((((j : Nat) : Int) - 1 : Int) ≥ (0 : Int))) :: (tt21 80) :: (tt21 81) :: v82 :: v83 :: v84 :: v85 :: v86 :: v87 :: v88 :: v89 :: v90 :: v91 :: v92 :: v93 :: v94 :: v95 :: v96 :: v97 :: v98 :: v99 :: v100 :: v101 :: v102 :: v103 :: v104 :: v105 :: v106 :: v107 :: v108 :: v109 :: v110 :: v111 :: Ut (dq fu (y * 2 ^ s) (j - 1) (nw (y * 2 ^ s))) :: .pointer (some ⟨rq, (j - 1), none⟩) :: v114 :: v115 :: v116 :: v117 :: v118 :: v119 :: .slice (some ⟨ru, (j - 1), none⟩) (nw (y * 2 ^ s) + 1) (cu - (j - 1)) :: v121 :: v122 :: v123 :: v124 :: Ut (dq fu (y * 2 ^ s) (j - 1) (nw (y * 2 ^ s))) :: .bool (decide (bT = 1)) :: v127 :: v128 :: v129 :: v130 :: Ut (dq fu (y * 2 ^ s) (j - 1) (nw (y * 2 ^ s)) - 1) :: .pointer (some ⟨rq, (j - 1), none⟩) :: (tt21 133) :: (tt21 134) :: (tt21 135) :: (tt21 136) :: (tt21 137) :: (tt21 138) :: (tt21 139) :: (tt21 140) :: (tt21 141) :: []) ++ us 6) ?_
     change wpListS _ _ _ _ [_] ⟨_, []⟩ _
     refine wpListS_yld rfl ?_
     refine yld_storeE (i := (j - 1)) (v := dq fu (y * 2 ^ s) (j - 1) (nw (y * 2 ^ s)) - 1) rfl rfl rfl Rq zo fun w28 P28 R' => ⟨fun _ => Kept.put KK P28 (fun _ hk => (by cases hk)), ?_⟩
     replace KK := Kept.put KK P28 (fun _ hk => (by cases hk))
     have M28 : Mod rq w27 w28 := P28.toMod
     have W28 : Grow w w28 := W27.mod M28 g_rq
     replace B2 := B2.mod M28 (.inr rfl) n_b2_rq
     replace B3 := B3.mod M28 (.inr rfl) n_b3_rq
     replace B4 := B4.mod M28 (.inr rfl) n_b4_rq
     replace B5 := B5.mod M28 (.inr rfl) n_b5_rq
     replace B11 := B11.mod M28 (.inr rfl) n_b11_rq
     replace B13 := B13.mod M28 (.inr rfl) n_b13_rq
     replace Ru := Ru.mod M28 n_ru_rq
     replace Rq := R'; clear R'
     refine nx ?_
     refine rg (fun c d v a w h => NL c d v a w h) [(133, .eq (.slice (some ⟨ru, 0, none⟩) (nw x + 1) (cu))), (134, .eq (.int .i64 (((j : Nat) : Int) - 1))), (135, .eq (.int .i64 (((j : Nat) : Int) - 1))), (136, .eq (.int .i64 (((nw (y * 2 ^ s) : Nat) : Int)))), (137, .eq (.int .i64 ((((j : Nat) : Int) - 1) + (((nw (y * 2 ^ s) : Nat) : Int))))), (138, .eq (.int .i64 (((((j : Nat) : Int) - 1) + (((nw (y * 2 ^ s) : Nat) : Int))) + 1))), (139, .eq (.slice (some ⟨ru, (j - 1), none⟩) (nw (y * 2 ^ s) + 1) (cu - (j - 1)))), (140, .natF (fun k => k = ru ∨ k = rq) (y * 2 ^ s))] [] [] [] 148 8 ?_ ?_
     ·refine so [] (fun w29 hw29 => .fin (yld_move rfl ⟨Grow.refl _, rfl⟩)) ?_
      refine so [] (fun w29 hw29 => .fin (yld_move rfl ⟨Grow.refl _, rfl⟩)) ?_
      refine so [] (fun w29 hw29 => .fin (yld_move rfl ⟨Grow.refl _, rfl⟩)) ?_
      refine so [] (fun w29 hw29 => .fin (yld_move rfl ⟨Grow.refl _, rfl⟩)) ?_
      refine so [2, 3] (fun w29 hw29 => by rintro _ rfl _ rfl; exact .fin (yld_add rfl rfl rfl (r := (((j : Nat) : Int) - 1) + (((nw (y * 2 ^ s) : Nat) : Int))) (by rw [IntKind.wrap_i64]; omega) ⟨Grow.refl _, rfl⟩)) ?_
      refine so [4] (fun w29 hw29 => by rintro _ rfl; exact .fin (yld_add rfl rfl rfl (r := ((((j : Nat) : Int) - 1) + (((nw (y * 2 ^ s) : Nat) : Int))) + 1) (by rw [IntKind.wrap_i64]; omega) ⟨Grow.refl _, rfl⟩)) ?_
      refine so [0, 1, 5] (fun w29 hw29 => by rintro _ rfl _ rfl _ rfl; exact .fin (yld_sliceE (l := j - 1) (r := j - 1 + nw (y * 2 ^ s) + 1) (j := (j - 1)) (m := nw (y * 2 ^ s) + 1) rfl rfl rfl rfl zo zo zo zo zo zo)) ?_
      exact so [] (fun w29 hw29 => .fin (yld_loadBox rfl rfl aggNat (B11.grow hw29) (shNatF))) (.nil _ _)
     rintro w29 hw29 v133 - v134 - v135 - v136 - v137 - v138 - _ rfl v140 h140 -
     have W29 : Grow w w29 := W28.trans hw29
     replace B2 := B2.grow hw29
     replace B3 := B3.grow hw29
     replace B4 := B4.grow hw29
     replace B5 := B5.grow hw29
     replace B11 := B11.grow hw29
     replace B13 := B13.grow hw29
     replace Ru := Ru.below hw29
     replace Rq := Rq.below hw29
     have KK : Kept [] w29 w29 := fun _ _ => rfl
     refine fr ((va :: vb :: pt b2 :: pt b3 :: pt b4 :: pt b5 :: .bool (false) :: u :: u :: u :: It s :: pt b11 :: .bool (true) :: pt b13 :: .bool (true) :: .slice (some ⟨ru, 0, none⟩) (nw x + 1) (cu) :: It (nw (y * 2 ^ s)) :: .slice (some ⟨rq, 0, none⟩) (nw x - nw (y * 2 ^ s) + 1) (cq) :: .int .i64 (((j : Nat) : Int) - 1) :: v19 :: v20 :: .bool (decide ((((nw y : Nat) : Int) : Int) ≤ (1 : Int))) :: u :: u :: u :: u :: u :: u :: u :: u :: u :: u :: u :: u :: u :: v35 :: v36 :: v37 :: .bool (decide ((cmpV ((x : Nat)) ((y : Nat)) : Int) < (0 : Int))) :: u :: u :: v41 :: v42 :: v43 :: v44 :: v45 :: v46 :: v47 :: v48 :: v49 :: v50 :: v51 :: .bool (true) :: v53 :: v54 :: v55 :: v56 :: v57 :: .bool (true) :: v59 :: v60 :: v61 :: v62 :: v63 :: v64 :: v65 :: v66 :: v67 :: v68 :: v69 :: v70 :: v71 :: v72 :: v73 :: v74 :: v75 :: v76 :: v77 :: v78 :: .bool (decide ((((j : Nat) : Int) - 1 : Int) ≥ (0 : Int))) :: (tt21 80) :: (tt21 81) :: v82 :: v83 :: v84 :: v85 :: v86 :: v87 :: v88 :: v89 :: v90 :: v91 :: v92 :: v93 :: v94 :: v95 :: v96 :: v97 :: v98 :: v99 :: v100 :: v101 :: v102 :: v103 :: v104 :: v105 :: v106 :: v107 :: v108 :: v109 :: v110 :: v111 :: Ut (dq fu (y * 2 ^ s) (j - 1) (nw (y * 2 ^ s))) :: .pointer (some ⟨rq, (j - 1), none⟩) :: v114 :: v115 :: v116 :: v117 :: v118 :: v119 :: .slice (some ⟨ru, (j - 1), none⟩) (nw (y * 2 ^ s) + 1) (cu - (j - 1)) :: v121 :: v122 :: v123 :: v124 :: Ut (dq fu (y * 2 ^ s) (j - 1) (nw (y * 2 ^ s))) :: .bool (decide (bT = 1)) :: v127 :: v128 :: v129 :: v130 :: Ut (dq fu (y * 2 ^ s) (j - 1) (nw (y * 2 ^ s)) - 1) :: .pointer (some ⟨rq, (j - 1), none⟩) :: v133 :: v134 :: v135 :: v136 :: v137 :: v138 :: .slice (some ⟨ru, (j - 1), none⟩) (nw (y * 2 ^ s) + 1) (cu - (j - 1)) :: v140 :: (tt21 141) :: []) ++ us 6) ?_
     change wpListS _ _ _ _ [_] ⟨_, []⟩ _
     refine wpListS_yld rfl ?_
     refine yld_call rfl cal_quot_back rfl ((cBack (N := nw x + 1) Ru (NatAt.sub h140 fun k hk => .inl hk) hkN hcu zo hT9.1).mono ?_)
     rintro _ w30 ⟨vB, fB, rfl, M30, R', cB, hBk⟩
     refine ⟨_, rfl, fun h => absurd rfl h, ?_⟩
     have W30 : Grow w w30 := W29.mod M30 g_ru
     replace B2 := B2.mod M30 (.inl rfl) n_b2_ru
     replace B3 := B3.mod M30 (.inl rfl) n_b3_ru
     replace B4 := B4.mod M30 (.inl rfl) n_b4_ru
     replace B5 := B5.mod M30 (.inl rfl) n_b5_ru
     replace B11 := B11.mod M30 (.inl rfl) n_b11_ru
     replace B13 := B13.mod M30 (.inl rfl) n_b13_ru
     replace Rq := Rq.mod M30 (Ne.symm n_ru_rq)
     replace Ru := R'; clear R'
     refine wpListS_nil ?_
     change Code.wp _ _ _ ⟨List.toArray (List.set _ 141 _), []⟩ _
     refine rg (fun c d v a w h => NL c d v a w h) [(80, .eq (.int .i64 (((j : Nat) : Int) - 1))), (81, .eq (.int .i64 (((j - 1 : Nat) : Int) - 1)))] [] [] [] 148 2 ?_ ?_
     ·refine so [] (fun w31 hw31 => .fin (yld_move rfl ⟨Grow.refl _, rfl⟩)) ?_
      exact so [0] (fun w31 hw31 => by rintro _ rfl; exact .fin (yld_sub rfl rfl rfl (r := ((j - 1 : Nat) : Int) - 1) (by rw [IntKind.wrap_i64]; omega) ⟨Grow.refl _, rfl⟩)) (.nil _ _)
     rintro w31 hw31 v80 - _ rfl -
     have W31 : Grow w w31 := W30.trans hw31
     replace B2 := B2.grow hw31
     replace B3 := B3.grow hw31
     replace B4 := B4.grow hw31
     replace B5 := B5.grow hw31
     replace B11 := B11.grow hw31
     replace B13 := B13.grow hw31
     replace Ru := Ru.below hw31
     replace Rq := Rq.below hw31
     have KK : Kept [] w31 w31 := fun _ _ => rfl
     refine fr ((va :: vb :: pt b2 :: pt b3 :: pt b4 :: pt b5 :: .bool (false) :: u :: u :: u :: It s :: pt b11 :: .bool (true) :: pt b13 :: .bool (true) :: .slice (some ⟨ru, 0, none⟩) (nw x + 1) (cu) :: It (nw (y * 2 ^ s)) :: .slice (some ⟨rq, 0, none⟩) (nw x - nw (y * 2 ^ s) + 1) (cq) :: .int .i64 (((j : Nat) : Int) - 1) :: v19 :: v20 :: .bool (decide ((((nw y : Nat) : Int) : Int) ≤ (1 : Int))) :: u :: u :: u :: u :: u :: u :: u :: u :: u :: u :: u :: u :: u :: v35 :: v36 :: v37 :: .bool (decide ((cmpV ((x : Nat)) ((y : Nat)) : Int) < (0 : Int))) :: u :: u :: v41 :: v42 :: v43 :: v44 :: v45 :: v46 :: v47 :: v48 :: v49 :: v50 :: v51 :: .bool (true) :: v53 :: v54 :: v55 :: v56 :: v57 :: .bool (true) :: v59 :: v60 :: v61 :: v62 :: v63 :: v64 :: v65 :: v66 :: v67 :: v68 :: v69 :: v70 :: v71 :: v72 :: v73 :: v74 :: v75 :: v76 :: v77 :: v78 :: .bool (decide ((((j : Nat) : Int) - 1 : Int) ≥ (0 : Int))) :: v80 :: .int .i64 (((j - 1 : Nat) : Int) - 1) :: v82 :: v83 :: v84 :: v85 :: v86 :: v87 :: v88 :: v89 :: v90 :: v91 :: v92 :: v93 :: v94 :: v95 :: v96 :: v97 :: v98 :: v99 :: v100 :: v101 :: v102 :: v103 :: v104 :: v105 :: v106 :: v107 :: v108 :: v109 :: v110 :: v111 :: Ut (dq fu (y * 2 ^ s) (j - 1) (nw (y * 2 ^ s))) :: .pointer (some ⟨rq, (j - 1), none⟩) :: v114 :: v115 :: v116 :: v117 :: v118 :: v119 :: .slice (some ⟨ru, (j - 1), none⟩) (nw (y * 2 ^ s) + 1) (cu - (j - 1)) :: v121 :: v122 :: v123 :: v124 :: Ut (dq fu (y * 2 ^ s) (j - 1) (nw (y * 2 ^ s))) :: .bool (decide (bT = 1)) :: v127 :: v128 :: v129 :: v130 :: Ut (dq fu (y * 2 ^ s) (j - 1) (nw (y * 2 ^ s)) - 1) :: .pointer (some ⟨rq, (j - 1), none⟩) :: v133 :: v134 :: v135 :: v136 :: v137 :: v138 :: .slice (some ⟨ru, (j - 1), none⟩) (nw (y * 2 ^ s) + 1) (cu - (j - 1)) :: v140 :: vB :: []) ++ us 6) ?_
     change wpListS _ _ _ _ [_] ⟨_, []⟩ _
     refine wpListS_yld rfl ?_
     refine yld_assign rfl ⟨fun _ => KK, ?_⟩
     refine wpListS_nil ?_
     refine ⟨_, ?_, j - 1, fB, upd (upd (fq) ((j - 1)) (dq fu (y * 2 ^ s) (j - 1) (nw (y * 2 ^ s)))) ((j - 1)) (dq fu (y * 2 ^ s) (j - 1) (nw (y * 2 ^ s)) - 1), rfl, by first | exact ⟨by omega, d_back rfl h2V hkN hD1 hT1 hBk hkQ⟩ | exact ⟨by omega, d_fit rfl h2V hkN hD1 hT9 hb0 hkQ⟩, fun d => ((.int .i64 (((j - 1 : Nat) : Int) - 1) :: v19 :: v20 :: .bool (decide ((((nw y : Nat) : Int) : Int) ≤ (1 : Int))) :: u :: u :: u :: u :: u :: u :: u :: u :: u :: u :: u :: u :: u :: v35 :: v36 :: v37 :: .bool (decide ((cmpV ((x : Nat)) ((y : Nat)) : Int) < (0 : Int))) :: u :: u :: v41 :: v42 :: v43 :: v44 :: v45 :: v46 :: v47 :: v48 :: v49 :: v50 :: v51 :: .bool (true) :: v53 :: v54 :: v55 :: v56 :: v57 :: .bool (true) :: v59 :: v60 :: v61 :: v62 :: v63 :: v64 :: v65 :: v66 :: v67 :: v68 :: v69 :: v70 :: v71 :: v72 :: v73 :: v74 :: v75 :: v76 :: v77 :: v78 :: .bool (decide ((((j : Nat) : Int) - 1 : Int) ≥ (0 : Int))) :: v80 :: .int .i64 (((j - 1 : Nat) : Int) - 1) :: v82 :: v83 :: v84 :: v85 :: v86 :: v87 :: v88 :: v89 :: v90 :: v91 :: v92 :: v93 :: v94 :: v95 :: v96 :: v97 :: v98 :: v99 :: v100 :: v101 :: v102 :: v103 :: v104 :: v105 :: v106 :: v107 :: v108 :: v109 :: v110 :: v111 :: Ut (dq fu (y * 2 ^ s) (j - 1) (nw (y * 2 ^ s))) :: .pointer (some ⟨rq, (j - 1), none⟩) :: v114 :: v115 :: v116 :: v117 :: v118 :: v119 :: .slice (some ⟨ru, (j - 1), none⟩) (nw (y * 2 ^ s) + 1) (cu - (j - 1)) :: v121 :: v122 :: v123 :: v124 :: Ut (dq fu (y * 2 ^ s) (j - 1) (nw (y * 2 ^ s))) :: .bool (decide (bT = 1)) :: v127 :: v128 :: v129 :: v130 :: Ut (dq fu (y * 2 ^ s) (j - 1) (nw (y * 2 ^ s)) - 1) :: .pointer (some ⟨rq, (j - 1), none⟩) :: v133 :: v134 :: v135 :: v136 :: v137 :: v138 :: .slice (some ⟨ru, (j - 1), none⟩) (nw (y * 2 ^ s) + 1) (cu - (j - 1)) :: v140 :: vB :: []) : List Value).getD (d - 18) undef, by kernel_rfl, W31, B2, B3, B4, B5, B11, B13, Ru, Rq⟩
     rw [hnn21]; omega
    ·have hb0 : bT ≠ 1 := of_decide_eq_false hb
     refine wp_skip ?_
     change Code.wp _ _ _ ⟨_, []⟩ _
     refine rg (fun c d v a w h => NL c d v a w h) [(80, .eq (.int .i64 (((j : Nat) : Int) - 1))), (81, .eq (.int .i64 (((j - 1 : Nat) : Int) - 1)))] [] [] [] 148 2 ?_ ?_
     ·refine so [] (fun w32 hw32 => .fin (yld_move rfl ⟨Grow.refl _, rfl⟩)) ?_
      exact so [0] (fun w32 hw32 => by rintro _ rfl; exact .fin (yld_sub rfl rfl rfl (r := ((j - 1 : Nat) : Int) - 1) (by rw [IntKind.wrap_i64]; omega) ⟨Grow.refl _, rfl⟩)) (.nil _ _)
     rintro w32 hw32 v80 - _ rfl -
     have W32 : Grow w w32 := W26.trans hw32
     replace B2 := B2.grow hw32
     replace B3 := B3.grow hw32
     replace B4 := B4.grow hw32
     replace B5 := B5.grow hw32
     replace B11 := B11.grow hw32
     replace B13 := B13.grow hw32
     replace Ru := Ru.below hw32
     replace Rq := Rq.below hw32
     have KK : Kept [] w32 w32 := fun _ _ => rfl
     refine fr ((va :: vb :: pt b2 :: pt b3 :: pt b4 :: pt b5 :: .bool (false) :: u :: u :: u :: It s :: pt b11 :: .bool (true) :: pt b13 :: .bool (true) :: .slice (some ⟨ru, 0, none⟩) (nw x + 1) (cu) :: It (nw (y * 2 ^ s)) :: .slice (some ⟨rq, 0, none⟩) (nw x - nw (y * 2 ^ s) + 1) (cq) :: .int .i64 (((j : Nat) : Int) - 1) :: v19 :: v20 :: .bool (decide ((((nw y : Nat) : Int) : Int) ≤ (1 : Int))) :: u :: u :: u :: u :: u :: u :: u :: u :: u :: u :: u :: u :: u :: v35 :: v36 :: v37 :: .bool (decide ((cmpV ((x : Nat)) ((y : Nat)) : Int) < (0 : Int))) :: u :: u :: v41 :: v42 :: v43 :: v44 :: v45 :: v46 :: v47 :: v48 :: v49 :: v50 :: v51 :: .bool (true) :: v53 :: v54 :: v55 :: v56 :: v57 :: .bool (true) :: v59 :: v60 :: v61 :: v62 :: v63 :: v64 :: v65 :: v66 :: v67 :: v68 :: v69 :: v70 :: v71 :: v72 :: v73 :: v74 :: v75 :: v76 :: v77 :: v78 :: .bool (decide ((((j : Nat) : Int) - 1 : Int) ≥ (0 : Int))) :: v80 :: .int .i64 (((j - 1 : Nat) : Int) - 1) :: v82 :: v83 :: v84 :: v85 :: v86 :: v87 :: v88 :: v89 :: v90 :: v91 :: v92 :: v93 :: v94 :: v95 :: v96 :: v97 :: v98 :: v99 :: v100 :: v101 :: v102 :: v103 :: v104 :: v105 :: v106 :: v107 :: v108 :: v109 :: v110 :: v111 :: Ut (dq fu (y * 2 ^ s) (j - 1) (nw (y * 2 ^ s))) :: .pointer (some ⟨rq, (j - 1), none⟩) :: v114 :: v115 :: v116 :: v117 :: v118 :: v119 :: .slice (some ⟨ru, (j - 1), none⟩) (nw (y * 2 ^ s) + 1) (cu - (j - 1)) :: v121 :: v122 :: v123 :: v124 :: Ut (dq fu (y * 2 ^ s) (j - 1) (nw (y * 2 ^ s))) :: .bool (decide (bT = 1)) :: (tt21 127) :: (tt21 128) :: (tt21 129) :: (tt21 130) :: (tt21 131) :: (tt21 132) :: (tt21 133) :: (tt21 134) :: (tt21 135) :: (tt21 136) :: (tt21 137) :: (tt21 138) :: (tt21 139) :: (tt21 140) :: (tt21 141) :: []) ++ us 6) ?_
     change wpListS _ _ _ _ [_] ⟨_, []⟩ _
     refine wpListS_yld rfl ?_
     refine yld_assign rfl ⟨fun _ => KK, ?_⟩
     refine wpListS_nil ?_
     refine ⟨_, ?_, j - 1, fT, upd (fq) ((j - 1)) (dq fu (y * 2 ^ s) (j - 1) (nw (y * 2 ^ s))), rfl, by first | exact ⟨by omega, d_back rfl h2V hkN hD1 hT1 hBk hkQ⟩ | exact ⟨by omega, d_fit rfl h2V hkN hD1 hT9 hb0 hkQ⟩, fun d => ((.int .i64 (((j - 1 : Nat) : Int) - 1) :: v19 :: v20 :: .bool (decide ((((nw y : Nat) : Int) : Int) ≤ (1 : Int))) :: u :: u :: u :: u :: u :: u :: u :: u :: u :: u :: u :: u :: u :: v35 :: v36 :: v37 :: .bool (decide ((cmpV ((x : Nat)) ((y : Nat)) : Int) < (0 : Int))) :: u :: u :: v41 :: v42 :: v43 :: v44 :: v45 :: v46 :: v47 :: v48 :: v49 :: v50 :: v51 :: .bool (true) :: v53 :: v54 :: v55 :: v56 :: v57 :: .bool (true) :: v59 :: v60 :: v61 :: v62 :: v63 :: v64 :: v65 :: v66 :: v67 :: v68 :: v69 :: v70 :: v71 :: v72 :: v73 :: v74 :: v75 :: v76 :: v77 :: v78 :: .bool (decide ((((j : Nat) : Int) - 1 : Int) ≥ (0 : Int))) :: v80 :: .int .i64 (((j - 1 : Nat) : Int) - 1) :: v82 :: v83 :: v84 :: v85 :: v86 :: v87 :: v88 :: v89 :: v90 :: v91 :: v92 :: v93 :: v94 :: v95 :: v96 :: v97 :: v98 :: v99 :: v100 :: v101 :: v102 :: v103 :: v104 :: v105 :: v106 :: v107 :: v108 :: v109 :: v110 :: v111 :: Ut (dq fu (y * 2 ^ s) (j - 1) (nw (y * 2 ^ s))) :: .pointer (some ⟨rq, (j - 1), none⟩) :: v114 :: v115 :: v116 :: v117 :: v118 :: v119 :: .slice (some ⟨ru, (j - 1), none⟩) (nw (y * 2 ^ s) + 1) (cu - (j - 1)) :: v121 :: v122 :: v123 :: v124 :: Ut (dq fu (y * 2 ^ s) (j - 1) (nw (y * 2 ^ s))) :: .bool (decide (bT = 1)) :: (tt21 127) :: (tt21 128) :: (tt21 129) :: (tt21 130) :: (tt21 131) :: (tt21 132) :: (tt21 133) :: (tt21 134) :: (tt21 135) :: (tt21 136) :: (tt21 137) :: (tt21 138) :: (tt21 139) :: (tt21 140) :: (tt21 141) :: []) : List Value).getD (d - 18) undef, by kernel_rfl, W32, B2, B3, B4, B5, B11, B13, Ru, Rq⟩
     rw [hnn21]; omega
   ·have hj0 : j = 0 := by have := of_decide_eq_false hge; omega
    rw [hj0] at hD
    refine wp_exit ?_
    change Code.wp _ _ _ ⟨_, []⟩ _
    refine wp_seq ?_
    refine rg (fun c d v a w h => NL c d v a w h) [(142, .eq (.slice (some ⟨rq, 0, none⟩) (nw x - nw (y * 2 ^ s) + 1) (cq))), (143, .nat (val fq (nw x - nw (y * 2 ^ s) + 1))), (144, .eq (.slice (some ⟨ru, 0, none⟩) (nw x + 1) (cu))), (145, .nat (val fu (nw x + 1))), (146, .eq (.int .i64 (((s : Nat) : Int)))), (147, .nat ((val fu (nw x + 1)) / 2 ^ s))] [] [] [] 148 6 ?_ ?_
    ·refine so [] (fun w33 hw33 => .fin (yld_move rfl ⟨Grow.refl _, rfl⟩)) ?_
     refine so [0] (fun w33 hw33 => by rintro _ rfl; exact .fin (yld_call rfl cal_nat_Of rfl (cNatOfU (uns_row (Rq.below hw33) hcq hcmq) hD.2.1 zo))) ?_
     refine so [] (fun w33 hw33 => .fin (yld_move rfl ⟨Grow.refl _, rfl⟩)) ?_
     refine so [2] (fun w33 hw33 => by rintro _ rfl; exact .fin (yld_call rfl cal_nat_Of rfl (cNatOfU (uns_row (Ru.below hw33) hcu hcmu) hD.1 zo))) ?_
     refine so [] (fun w33 hw33 => .fin (yld_move rfl ⟨Grow.refl _, rfl⟩)) ?_
     exact so [3, 4] (fun w33 hw33 => by rintro v145 h145 _ rfl; exact .fin (yld_call rfl cal_nat_Nat_Shr rfl (cShr (k := s) h145 hs64))) (.nil _ _)
    rintro w33 hw33 v142 - v143 h143 v144 - v145 - v146 - v147 h147 -
    have W33 : Grow w w33 := W22.trans hw33
    replace B4 := B4.grow hw33
    replace B5 := B5.grow hw33
    replace Ru := Ru.below hw33
    replace Rq := Rq.below hw33
    have KK : Kept [] w33 w33 := fun _ _ => rfl
    refine fr (va :: vb :: pt b2 :: pt b3 :: pt b4 :: pt b5 :: .bool (false) :: u :: u :: u :: It s :: pt b11 :: .bool (true) :: pt b13 :: .bool (true) :: .slice (some ⟨ru, 0, none⟩) (nw x + 1) (cu) :: It (nw (y * 2 ^ s)) :: .slice (some ⟨rq, 0, none⟩) (nw x - nw (y * 2 ^ s) + 1) (cq) :: .int .i64 (((j : Nat) : Int) - 1) :: v19 :: v20 :: .bool (decide ((((nw y : Nat) : Int) : Int) ≤ (1 : Int))) :: u :: u :: u :: u :: u :: u :: u :: u :: u :: u :: u :: u :: u :: v35 :: v36 :: v37 :: .bool (decide ((cmpV ((x : Nat)) ((y : Nat)) : Int) < (0 : Int))) :: u :: u :: v41 :: v42 :: v43 :: v44 :: v45 :: v46 :: v47 :: v48 :: v49 :: v50 :: v51 :: .bool (true) :: v53 :: v54 :: v55 :: v56 :: v57 :: .bool (true) :: v59 :: v60 :: v61 :: v62 :: v63 :: v64 :: v65 :: v66 :: v67 :: v68 :: v69 :: v70 :: v71 :: v72 :: v73 :: v74 :: v75 :: v76 :: v77 :: v78 :: .bool (decide ((((j : Nat) : Int) - 1 : Int) ≥ (0 : Int))) :: (tt21 80) :: (tt21 81) :: (tt21 82) :: (tt21 83) :: (tt21 84) :: (tt21 85) :: (tt21 86) :: (tt21 87) :: (tt21 88) :: (tt21 89) :: (tt21 90) :: (tt21 91) :: (tt21 92) :: (tt21 93) :: (tt21 94) :: (tt21 95) :: (tt21 96) :: (tt21 97) :: (tt21 98) :: (tt21 99) :: (tt21 100) :: (tt21 101) :: (tt21 102) :: (tt21 103) :: (tt21 104) :: (tt21 105) :: (tt21 106) :: (tt21 107) :: (tt21 108) :: (tt21 109) :: (tt21 110) :: (tt21 111) :: (tt21 112) :: (tt21 113) :: (tt21 114) :: (tt21 115) :: (tt21 116) :: (tt21 117) :: (tt21 118) :: (tt21 119) :: (tt21 120) :: (tt21 121) :: (tt21 122) :: (tt21 123) :: (tt21 124) :: (tt21 125) :: (tt21 126) :: (tt21 127) :: (tt21 128) :: (tt21 129) :: (tt21 130) :: (tt21 131) :: (tt21 132) :: (tt21 133) :: (tt21 134) :: (tt21 135) :: (tt21 136) :: (tt21 137) :: (tt21 138) :: (tt21 139) :: (tt21 140) :: (tt21 141) :: v142 :: v143 :: v144 :: v145 :: v146 :: v147 :: []) ?_
    change wpListS _ _ _ _ [_, _, _] ⟨_, []⟩ _
    refine wpListS_yld rfl ?_
    refine yld_storeBox (R' := .nat (val fq (nw x - nw (y * 2 ^ s) + 1))) (b := b4) rfl rfl aggNat.size B4 (shNatF) h143 (shNat _) (St.nat _) (by decide) g_b4 fun w34 P34 E34 B' => ⟨fun _ => Kept.put KK P34 (fun _ hk => (by cases hk)), ?_⟩
    replace KK := Kept.put KK P34 (fun _ hk => (by cases hk))
    have W34 : Grow w w34 := W33.put P34 g_b4
    replace B5 := B5.put (St.natF) P34 E34 (Ne.symm n_b4_b5)
    replace B4 := B'; clear B'
    replace h147 := MR.put h147 (St.nat _) E34
    change wpListS _ _ _ _ [_, _] ⟨_, []⟩ _
    refine wpListS_yld rfl ?_
    refine yld_storeBox (R' := .nat ((val fu (nw x + 1)) / 2 ^ s)) (b := b5) rfl rfl aggNat.size B5 (shNatF) h147 (shNat _) (St.nat _) (by decide) g_b5 fun w35 P35 E35 B' => ⟨fun _ => Kept.put KK P35 (fun _ hk => (by cases hk)), ?_⟩
    replace KK := Kept.put KK P35 (fun _ hk => (by cases hk))
    have W35 : Grow w w35 := W34.put P35 g_b5
    replace B4 := B4.put (St.nat _) P35 E35 n_b4_b5
    replace B5 := B'; clear B'
    change wpListS _ _ _ _ [_] ⟨_, []⟩ _
    refine wpListS_yld rfl ?_
    refine yld_assign rfl ⟨fun _ => KK, ?_⟩
    refine wpListS_nil ?_
    change Code.wp _ _ _ ⟨List.toArray (List.set _ 6 _), []⟩ _
    have BR : Box w35 b4 51 (.nat (x / y)) := (by have e : (val fq (nw x - nw (y * 2 ^ s) + 1) : Nat) = x / y := (by first | (rw [ey]; done) | exact (Nat.div_eq_of_lt hxy).symm | (rw [if_neg hy0, Nat.mod_eq_of_lt hxy]; done) | exact (d_end hD).1 | (rw [if_neg hy0]; exact (d_end hD).2) | (simp [hy0]; done)); rw [← e]; exact B4)
    have BR2 : Box w35 b5 51 (.nat (if y = 0 then 0 else x % y)) := (by have e : ((val fu (nw x + 1)) / 2 ^ s : Nat) = if y = 0 then 0 else x % y := (by first | (rw [ey]; done) | exact (Nat.div_eq_of_lt hxy).symm | (rw [if_neg hy0, Nat.mod_eq_of_lt hxy]; done) | exact (d_end hD).1 | (rw [if_neg hy0]; exact (d_end hD).2) | (simp [hy0]; done)); rw [← e]; exact B5)
    refine wp_ret ?_
    change bodyPost Tryz.prog Tryz.f146 (Ret (.tup3 (.nat (x / y)) (.nat (if y = 0 then 0 else x % y)) (.eq (.bool (!decide (y = 0))))) w) .ret _ _
    exact body_cell2_slot (b := b4) (b' := b5) rfl rfl aggNat BR (shNat _) rfl aggNat BR2 (shNat _) (by show Value.bool _ = Value.bool _; rw [show (true) = (!decide (y = 0)) from (by first | (rw [ey]; done) | exact (Nat.div_eq_of_lt hxy).symm | (rw [if_neg hy0, Nat.mod_eq_of_lt hxy]; done) | exact (d_end hD).1 | (rw [if_neg hy0]; exact (d_end hD).2) | (simp [hy0]; done))]) rfl W35
open Go.RowKit
theorem sCut {x k : Nat} (h0 : 0 < nw x) (hk : k ≤ 1099511627776) : CallOK Tryz.prog 113 [.nat x, .ex (.int .i64 (k : Int))] (.cn (.nat (x % 2 ^ (64 * k))) (.cn (.nat (x / 2 ^ (64 * k))) .nl)) [] := by
 refine .of_ret (m := .tup2 (.nat (x % 2 ^ (64 * k))) (.nat (x / 2 ^ (64 * k)))) (callable_of Tryz.func113 rfl (by kernel_rfl)) (fun _ _ _ v h => by obtain ⟨a, b, rfl, h1, h2⟩ := h; exact ⟨a, [b], rfl, ⟨h1, rfl⟩, b, [], rfl, ⟨h2, rfl⟩, rfl⟩) fun η F w vals h => ?_
 match vals, h with
 | [v0, v1], h =>
  obtain rfl : v1 = .int .i64 (k : Int) := h.2.1
  exact cCut h.1.1 h0 hk
theorem sRaised {x k : Nat} (hs : nw x + k ≤ 137438953472) : CallOK Tryz.prog 116 [.nat x, .ex (.int .i64 (k : Int))] (.nat (x * 2 ^ (64 * k))) [] := by
 refine .of_ret (m := .nat (x * 2 ^ (64 * k))) (callable_of Tryz.func116 rfl (by kernel_rfl)) (fun _ _ _ v h => ⟨h, rfl⟩) fun η F w vals h => ?_
 match vals, h with
 | [v0, v1], h =>
  obtain rfl : v1 = .int .i64 (k : Int) := h.2.1
  exact cRaised h.1.1 hs
theorem sMulStep {x y : Nat} (hs : nw x + nw y ≤ LIM) (ih : ∀ {x' y' : Nat}, max (nw x') (nw y') < max (nw x) (nw y) → nw x' + nw y' ≤ LIM → CallOK Tryz.prog 75 [.nat x', .nat y'] (.nat (x' * y')) []) : CallOK Tryz.prog 75 [.nat x, .nat y] (.nat (x * y)) [] := by
 have hl : nw x + nw y ≤ 68719476736 := hs
 obtain ⟨k, hk⟩ : ∃ k, k = (max (nw x) (nw y) + 1) / 2 := ⟨_, rfl⟩
 exact kP (ch := [.reg 1 [(1, .callS (.ex (.int .i64 (nw x : Int))) []), (3, .callS (.ex (.int .i64 (nw y : Int))) [])], .reg 2 [(2, .callS (.nat (x * y)) [])], .reg 3 [(1, .callS (.ex (.int .i64 (nw x : Int))) []), (3, .callS (.ex (.int .i64 (nw y : Int))) []), (5, .z ((max (nw x) (nw y) + 1 : Nat) : Int)), (6, .z (k : Int))], .reg 4 [(2, .callS (.cn (.nat (x % 2 ^ (64 * k))) (.cn (.nat (x / 2 ^ (64 * k))) (.nl))) [])], .reg 5 [(2, .callS (.cn (.nat (y % 2 ^ (64 * k))) (.cn (.nat (y / 2 ^ (64 * k))) (.nl))) [])], .reg 6 [(2, .callS (.nat ((x % 2 ^ (64 * k)) * (y % 2 ^ (64 * k)))) []), (5, .callS (.nat ((x / 2 ^ (64 * k)) * (y / 2 ^ (64 * k)))) [])], .reg 7 [(2, .callS (.nat ((x % 2 ^ (64 * k)) + (x / 2 ^ (64 * k)))) []), (5, .callS (.nat ((y % 2 ^ (64 * k)) + (y / 2 ^ (64 * k)))) []), (6, .callS (.nat (((x % 2 ^ (64 * k)) + (x / 2 ^ (64 * k))) * ((y % 2 ^ (64 * k)) + (y / 2 ^ (64 * k))))) [])], .reg 8 [(3, .callS (.nat (((x % 2 ^ (64 * k)) * (y % 2 ^ (64 * k))) + ((x / 2 ^ (64 * k)) * (y / 2 ^ (64 * k))))) []), (4, .callS (.cn (.nat ((((x % 2 ^ (64 * k)) + (x / 2 ^ (64 * k))) * ((y % 2 ^ (64 * k)) + (y / 2 ^ (64 * k)))) - (((x % 2 ^ (64 * k)) * (y % 2 ^ (64 * k))) + ((x / 2 ^ (64 * k)) * (y / 2 ^ (64 * k)))))) (.cn (.ex (.bool (decide ((((x % 2 ^ (64 * k)) * (y % 2 ^ (64 * k))) + ((x / 2 ^ (64 * k)) * (y / 2 ^ (64 * k)))) ≤ (((x % 2 ^ (64 * k)) + (x / 2 ^ (64 * k))) * ((y % 2 ^ (64 * k)) + (y / 2 ^ (64 * k)))))))) (.nl))) [])], .reg 9 [(3, .callS (.nat (((((x % 2 ^ (64 * k)) + (x / 2 ^ (64 * k))) * ((y % 2 ^ (64 * k)) + (y / 2 ^ (64 * k)))) - (((x % 2 ^ (64 * k)) * (y % 2 ^ (64 * k))) + ((x / 2 ^ (64 * k)) * (y / 2 ^ (64 * k))))) * 2 ^ (64 * k))) []), (6, .z ((2 * k : Nat) : Int)), (7, .callS (.nat (((x / 2 ^ (64 * k)) * (y / 2 ^ (64 * k))) * 2 ^ (64 * (2 * k)))) []), (8, .callS (.nat ((((((x % 2 ^ (64 * k)) + (x / 2 ^ (64 * k))) * ((y % 2 ^ (64 * k)) + (y / 2 ^ (64 * k)))) - (((x % 2 ^ (64 * k)) * (y % 2 ^ (64 * k))) + ((x / 2 ^ (64 * k)) * (y / 2 ^ (64 * k))))) * 2 ^ (64 * k)) + (((x / 2 ^ (64 * k)) * (y / 2 ^ (64 * k))) * 2 ^ (64 * (2 * k))))) []), (9, .callS (.nat (((x % 2 ^ (64 * k)) * (y % 2 ^ (64 * k))) + ((((((x % 2 ^ (64 * k)) + (x / 2 ^ (64 * k))) * ((y % 2 ^ (64 * k)) + (y / 2 ^ (64 * k)))) - (((x % 2 ^ (64 * k)) * (y % 2 ^ (64 * k))) + ((x / 2 ^ (64 * k)) * (y / 2 ^ (64 * k))))) * 2 ^ (64 * k)) + (((x / 2 ^ (64 * k)) * (y / 2 ^ (64 * k))) * 2 ^ (64 * (2 * k)))))) [])]]) Tryz.func75 (_ ∧ _ ∧ (((decide ((min (((nw x : Nat) : Int) : Int) (nw y : Int) : Int) < 8)) = true → _ ∧ (_)) ∧ ((decide ((min (((nw x : Nat) : Int) : Int) (nw y : Int) : Int) < 8)) = false → _ ∧ _ ∧ (IntKind.wrap .i64 ((max (((nw x : Nat) : Int) : Int) (nw y : Int) : Int) + 1) = (((max (nw x) (nw y) + 1 : Nat) : Int))) ∧ ((2 : Int) ≠ 0) ∧ (IntKind.wrap .i64 (((max (nw x) (nw y) + 1 : Nat) : Int).tdiv 2) = ((k : Int))) ∧ (CallOK Tryz.prog 113 [.nat x, .ex (.int .i64 (k : Int))] (.cn (.nat (x % 2 ^ (64 * k))) (.cn (.nat (x / 2 ^ (64 * k))) (.nl))) []) ∧ (CallOK Tryz.prog 113 [.nat y, .ex (.int .i64 (k : Int))] (.cn (.nat (y % 2 ^ (64 * k))) (.cn (.nat (y / 2 ^ (64 * k))) (.nl))) []) ∧ (CallOK Tryz.prog 75 [.nat (x % 2 ^ (64 * k)), .nat (y % 2 ^ (64 * k))] (.nat ((x % 2 ^ (64 * k)) * (y % 2 ^ (64 * k)))) []) ∧ (CallOK Tryz.prog 75 [.nat (x / 2 ^ (64 * k)), .nat (y / 2 ^ (64 * k))] (.nat ((x / 2 ^ (64 * k)) * (y / 2 ^ (64 * k)))) []) ∧ _ ∧ _ ∧ (CallOK Tryz.prog 75 [.nat ((x % 2 ^ (64 * k)) + (x / 2 ^ (64 * k))), .nat ((y % 2 ^ (64 * k)) + (y / 2 ^ (64 * k)))] (.nat (((x % 2 ^ (64 * k)) + (x / 2 ^ (64 * k))) * ((y % 2 ^ (64 * k)) + (y / 2 ^ (64 * k))))) []) ∧ _ ∧ _ ∧ (CallOK Tryz.prog 116 [.nat ((((x % 2 ^ (64 * k)) + (x / 2 ^ (64 * k))) * ((y % 2 ^ (64 * k)) + (y / 2 ^ (64 * k)))) - (((x % 2 ^ (64 * k)) * (y % 2 ^ (64 * k))) + ((x / 2 ^ (64 * k)) * (y / 2 ^ (64 * k))))), .ex (.int .i64 (k : Int))] (.nat (((((x % 2 ^ (64 * k)) + (x / 2 ^ (64 * k))) * ((y % 2 ^ (64 * k)) + (y / 2 ^ (64 * k)))) - (((x % 2 ^ (64 * k)) * (y % 2 ^ (64 * k))) + ((x / 2 ^ (64 * k)) * (y / 2 ^ (64 * k))))) * 2 ^ (64 * k))) []) ∧ (IntKind.wrap .i64 ((2 : Int) * (k : Int)) = (((2 * k : Nat) : Int))) ∧ (CallOK Tryz.prog 116 [.nat ((x / 2 ^ (64 * k)) * (y / 2 ^ (64 * k))), .ex (.int .i64 ((2 * k : Nat) : Int))] (.nat (((x / 2 ^ (64 * k)) * (y / 2 ^ (64 * k))) * 2 ^ (64 * (2 * k)))) []) ∧ _ ∧ _ ∧ (((((x % 2 ^ (64 * k)) * (y % 2 ^ (64 * k))) + ((((((x % 2 ^ (64 * k)) + (x / 2 ^ (64 * k))) * ((y % 2 ^ (64 * k)) + (y / 2 ^ (64 * k)))) - (((x % 2 ^ (64 * k)) * (y % 2 ^ (64 * k))) + ((x / 2 ^ (64 * k)) * (y / 2 ^ (64 * k))))) * 2 ^ (64 * k)) + (((x / 2 ^ (64 * k)) * (y / 2 ^ (64 * k))) * 2 ^ (64 * (2 * k)))) : Nat) = (x * y))))))
  ⟨sNatLen (x := x), sNatLen (x := y), fun hc20 => have hc20 := dT hc20; ⟨sSchool (x := x) (y := y) zo, (rf (x * y : Nat))⟩, fun hc20 => have hc20 := dF hc20; have MF := mul_facts hk zo zo hs; have hk0 := MF.k0; ⟨sNatLen (x := x), sNatLen (x := y), (by rw [IntKind.wrap_i64]; omega), (by decide), (by rw [IntKind.wrap_i64, Int.tdiv_eq_ediv_of_nonneg zo]; omega), sCut zo zo, sCut zo zo, ih MF.m1 MF.l1, ih MF.m2 MF.l2, sNatAdd (x := x % 2 ^ (64 * k)) (y := x / 2 ^ (64 * k)) MF.s1, sNatAdd (x := y % 2 ^ (64 * k)) (y := y / 2 ^ (64 * k)) MF.s2, ih MF.m3 MF.l3, sNatAdd (x := (x % 2 ^ (64 * k)) * (y % 2 ^ (64 * k))) (y := (x / 2 ^ (64 * k)) * (y / 2 ^ (64 * k))) MF.s3, sNatSub (x := ((x % 2 ^ (64 * k)) + (x / 2 ^ (64 * k))) * ((y % 2 ^ (64 * k)) + (y / 2 ^ (64 * k)))) (y := ((x % 2 ^ (64 * k)) * (y % 2 ^ (64 * k))) + ((x / 2 ^ (64 * k)) * (y / 2 ^ (64 * k)))), sRaised MF.r1, (by rw [IntKind.wrap_i64]; omega), sRaised MF.r2, sNatAdd (x := ((((x % 2 ^ (64 * k)) + (x / 2 ^ (64 * k))) * ((y % 2 ^ (64 * k)) + (y / 2 ^ (64 * k)))) - (((x % 2 ^ (64 * k)) * (y % 2 ^ (64 * k))) + ((x / 2 ^ (64 * k)) * (y / 2 ^ (64 * k))))) * 2 ^ (64 * k)) (y := ((x / 2 ^ (64 * k)) * (y / 2 ^ (64 * k))) * 2 ^ (64 * (2 * k))) MF.s4, sNatAdd (x := (x % 2 ^ (64 * k)) * (y % 2 ^ (64 * k))) (y := (((((x % 2 ^ (64 * k)) + (x / 2 ^ (64 * k))) * ((y % 2 ^ (64 * k)) + (y / 2 ^ (64 * k)))) - (((x % 2 ^ (64 * k)) * (y % 2 ^ (64 * k))) + ((x / 2 ^ (64 * k)) * (y / 2 ^ (64 * k))))) * 2 ^ (64 * k)) + (((x / 2 ^ (64 * k)) * (y / 2 ^ (64 * k))) * 2 ^ (64 * (2 * k)))) MF.s5, MF.eq⟩⟩
theorem sMulAll : ∀ (N : Nat) {x y : Nat}, max (nw x) (nw y) < N → nw x + nw y ≤ LIM → CallOK Tryz.prog 75 [.nat x, .nat y] (.nat (x * y)) []
 | 0, _, _, h, _ => absurd h zo
 | N + 1, _, _, h, hs => sMulStep hs fun hlt hs' => sMulAll N zo hs'
theorem sMul {x y : Nat} (hs : nw x + nw y ≤ LIM) : CallOK Tryz.prog 75 [.nat x, .nat y] (.nat (x * y)) [] := sMulAll _ (Nat.lt_succ_self _) hs
open Go.RowKit
theorem small_add (p q : Rat) (h : szq p + szq q ≤ 17179869184) : Small ((p.num * (q.den : Int)).natAbs + (q.num * (p.den : Int)).natAbs) := by
 rw [Int.natAbs_mul, Int.natAbs_mul, Int.natAbs_natCast, Int.natAbs_natCast]
 have h3 := nw_add (p.num.natAbs * q.den) (q.num.natAbs * p.den)
 have h4 := nw_mul p.num.natAbs q.den
 have h5 := nw_mul q.num.natAbs p.den
 unfold Small
 unfold szq at h
 omega
theorem new_add (p q : Rat) (h : szq p + szq q ≤ 17179869184) : nw (p.num * (q.den : Int) + q.num * (p.den : Int)).natAbs < 1099511627776 ∧ nw (((p.den * q.den : Nat) : Int)).natAbs < 1099511627776 := by
 have h0 := nw_mono' (natAbs_add_nat (p.num * q.den) (q.num * p.den))
 rw [Int.natAbs_mul, Int.natAbs_mul, Int.natAbs_natCast, Int.natAbs_natCast] at h0
 have h3 := nw_add (p.num.natAbs * q.den) (q.num.natAbs * p.den)
 have h4 := nw_mul p.num.natAbs q.den
 have h5 := nw_mul q.num.natAbs p.den
 have h2 := nw_mul p.den q.den
 rw [Int.natAbs_natCast]
 unfold szq at *
 omega
theorem new_mul (p q : Rat) (h : szq p + szq q ≤ 17179869184) : nw (p.num * q.num).natAbs < 1099511627776 ∧ nw (((p.den * q.den : Nat) : Int)).natAbs < 1099511627776 := by
 rw [Int.natAbs_mul, Int.natAbs_natCast]
 have h1 := nw_mul p.num.natAbs q.num.natAbs
 have h2 := nw_mul p.den q.den
 unfold szq at *
 omega
theorem new_of {p : Int} (h1 : -9223372036854775808 ≤ p) (h2 : p < 9223372036854775808) : nw p.natAbs < 1099511627776 := by
 have := nw_le_of (x := p.natAbs) (k := 1) zo
 omega
theorem cmp_same (p q : Rat) : (cmpQ p q == 0) = decide (p = q) := by
 unfold cmpQ
 by_cases h : p < q
 ·have : p ≠ q := fun e => by subst e; exact Rat.lt_irrefl h
  simp [h, this]
 ·by_cases e : p = q <;> simp [h, e]
theorem sign_zero (q : Rat) : (q.num.sign == 0) = decide (q = 0) := by
 rw [Bool.eq_iff_iff]
 simp [Int.sign_eq_zero_iff_zero]
theorem blen_small {x : Nat} (h : Small x) : Wd.blen x ≤ 70368744177664 := by
 unfold Small nw at h
 omega
theorem rat_small {w : World} {v : Value} {q : Rat} (h : (MR.rat q).R w v) : Small q.num.natAbs ∧ Small q.den ∧ Wd.blen q.num.natAbs ≤ 70368744177664 ∧ Wd.blen q.den ≤ 70368744177664 := by
 obtain ⟨s, t, _, h1, h2⟩ : RatAt _ w v q := h
 have e1 := h1.small
 have e2 : Small q.den := by
  have := h2.small
  unfold denW at this
  by_cases e : q.den = 1
  ·rw [e]; show nw 1 ≤ _; exact Nat.le_trans (by decide : nw 1 ≤ 1) zo
  ·rwa [if_neg e] at this
 exact ⟨e1, e2, blen_small e1, blen_small e2⟩
open Go.RowKit
theorem LIM_eq : LIM = 68719476736 := by unfold LIM; rfl
theorem sQuotDivMod {x y : Nat} (hs : nw x < 1099511627776) : CallOK Tryz.prog 146 [.nat x, .nat y] (.cn (.nat (x / y)) (.cn (.nat (if y = 0 then 0 else x % y)) (.cn (.ex (.bool (!decide (y = 0)))) .nl))) [] := by
 refine .of_ret (m := .tup3 (.nat (x / y)) (.nat (if y = 0 then 0 else x % y)) (.eq (.bool (!decide (y = 0))))) (callable_of Tryz.func146 rfl (by kernel_rfl)) (fun _ _ _ v h => by obtain ⟨a, b, c, rfl, h1, h2, h3⟩ := h; exact ⟨a, [b, c], rfl, ⟨h1, rfl⟩, b, [c], rfl, ⟨h2, rfl⟩, c, [], rfl, h3, rfl⟩) fun η F w vals h => ?_
 match vals, h with
 | [v0, v1], h => exact cQuotDivMod h.1.1 h.2.1.1 hs
theorem sQuotDivModP {x y : Nat} (hy : y ≠ 0) (hs : nw x < 1099511627776) : CallOK Tryz.prog 146 [.nat x, .nat y] (.cn (.nat (x / y)) (.cn (.nat (x % y)) (.cn (.ex (.bool true)) .nl))) [] := by
 have h := sQuotDivMod (x := x) (y := y) hs
 rw [if_neg hy, decide_eq_false hy] at h
 exact h
theorem gcd_turn {x y : Nat} {g : Nat × Nat} (h : Nat.gcd g.1 g.2 = Nat.gcd x y ∧ nw g.1 < 1099511627776 ∧ nw g.2 < 1099511627776) (hz : g.2 ≠ 0) : Nat.gcd g.2 (g.1 % g.2) = Nat.gcd x y ∧ nw g.2 < 1099511627776 ∧ nw (g.1 % g.2) < 1099511627776 := by
 have := nw_mono' (Nat.le_of_lt (Nat.mod_lt g.1 (Nat.pos_of_ne_zero hz)))
 exact ⟨by rw [← h.1, Nat.gcd_comm g.1, Nat.gcd_comm g.2, ← Nat.gcd_rec], h.2.2, by omega⟩
theorem natAbs_sg (b : Bool) (x : Nat) : (signed b x).natAbs = x := by unfold signed; split <;> omega
theorem signed_false (x : Nat) : signed false x = (x : Int) := rfl
theorem signed_mul2 (y z : Int) : signed (!((decide (y < 0)) == (decide (z < 0)))) (y.natAbs * z.natAbs) = y * z := by
 have e : ((y.natAbs * z.natAbs : Nat) : Int) = (y.natAbs : Int) * (z.natAbs : Int) := rfl
 unfold signed
 by_cases h : y < 0 <;> by_cases k : z < 0 <;> simp only [h, k, decide_true, decide_false, BEq.rfl, Bool.not_true, Bool.false_eq_true, if_false, e]
 ·rw [Int.ofNat_natAbs_of_nonpos zo, Int.ofNat_natAbs_of_nonpos zo, Int.neg_mul_neg]
 ·rw [Int.ofNat_natAbs_of_nonpos zo, Int.natAbs_of_nonneg zo, Int.neg_mul, Int.neg_neg]; simp
 ·rw [Int.natAbs_of_nonneg zo, Int.ofNat_natAbs_of_nonpos zo, Int.mul_neg, Int.neg_neg]; simp
 ·rw [Int.natAbs_of_nonneg zo, Int.natAbs_of_nonneg zo]
theorem signed_add1 {y z : Int} (h : ((decide (y < 0)) == (decide (z < 0))) = true) : signed (decide (y < 0)) (y.natAbs + z.natAbs) = y + z := by
 unfold signed
 by_cases hy : y < 0 <;> by_cases hz : z < 0 <;> simp [hy, hz] at h ⊢ <;> omega
theorem signed_add2 {y z : Int} (h : ((decide (y < 0)) == (decide (z < 0))) = false) (k : z.natAbs ≤ y.natAbs) : signed (decide (y < 0)) (y.natAbs - z.natAbs) = y + z := by
 unfold signed
 by_cases hy : y < 0 <;> by_cases hz : z < 0 <;> simp [hy, hz] at h ⊢ <;> omega
theorem signed_add3 {y z : Int} (h : ((decide (y < 0)) == (decide (z < 0))) = false) (k : y.natAbs ≤ z.natAbs) : signed (decide (z < 0)) (z.natAbs - y.natAbs) = y + z := by
 unfold signed
 by_cases hy : y < 0 <;> by_cases hz : z < 0 <;> simp [hy, hz] at h ⊢ <;> omega
theorem new_num2 (a b : Int) (hb : b ≠ 0) : signed (!((decide (a < 0)) == (decide (b < 0)))) (a.natAbs / Nat.gcd a.natAbs b.natAbs) = (Rat.divInt a b).num := (new_num a b hb).symm
theorem new_den2 (a b : Int) (hb : b ≠ 0) : b.natAbs / Nat.gcd a.natAbs b.natAbs = (Rat.divInt a b).den := (new_den a b hb).symm
theorem cmpS1 {y z : Int} (h : (bif !((decide (y < 0)) == (decide (z < 0))) then decide (y < 0) else false) = true) : -1 = cmpV y z := by
 by_cases hy : y < 0 <;> by_cases hz : z < 0 <;> simp [hy, hz] at h
 unfold cmpV; rw [if_pos zo]
theorem cmpS2 {y z : Int} (h : (bif !((decide (y < 0)) == (decide (z < 0))) then decide (y < 0) else false) = false) (k : (!((decide (y < 0)) == (decide (z < 0)))) = true) : 1 = cmpV y z := by
 by_cases hy : y < 0 <;> by_cases hz : z < 0 <;> simp [hy, hz] at h k
 unfold cmpV; rw [if_neg zo, if_neg zo]
theorem cmpS3 {y z : Int} (k : (!((decide (y < 0)) == (decide (z < 0)))) = false) (hy : y < 0) : cmpV ((z.natAbs : Nat) : Int) ((y.natAbs : Nat) : Int) = cmpV y z := by
 have hz : z < 0 := by simpa [hy] using k
 unfold cmpV
 by_cases h : y < z
 ·rw [if_pos h, if_pos zo]
 ·by_cases e : y = z
  ·rw [if_neg h, if_neg zo, if_pos e, if_pos zo]
  ·rw [if_neg h, if_neg zo, if_neg e, if_neg zo]
theorem cmpS4 {y z : Int} (k : (!((decide (y < 0)) == (decide (z < 0)))) = false) (hy : ¬ y < 0) : cmpV ((y.natAbs : Nat) : Int) ((z.natAbs : Nat) : Int) = cmpV y z := by
 have hz : ¬ z < 0 := by simpa [hy] using k
 rw [Int.natAbs_of_nonneg zo, Int.natAbs_of_nonneg zo]
theorem uint_one' (d : Nat) : (bif uintOk d then decide (((uintV d : Nat) : Int) = 1) else false) = decide (d = 1) := by
 rw [← uint_one]; cases uintOk d <;> rfl
theorem sQuotDiv {x y : Nat} (hs : nw x < 1099511627776) : CallOK Tryz.prog 129 [.nat x, .nat y] (.cn (.nat (x / y)) (.cn (.ex (.bool (!decide (y = 0)))) (.nl))) [] := by
 exact kP (ch := [.reg 1 [(2, .callS (.cn (.nat (x / y)) (.cn (.nat (if y = 0 then 0 else x % y)) (.cn (.ex (.bool (!decide (y = 0)))) (.nl)))) [])]]) Tryz.func129 (_ ∧ (_ ∧ _))
  ⟨sQuotDivMod (x := x) (y := y) zo, (rf (x / y : Nat)), (rf (!decide (y = 0) : Bool))⟩
theorem sQuotModP {x y : Nat} (hy : y ≠ 0) (hs : nw x < 1099511627776) : CallOK Tryz.prog 145 [.nat x, .nat y] (.cn (.nat (x % y)) (.cn (.ex (.bool true)) (.nl))) [] := by
 exact kP (ch := [.reg 1 [(2, .callS (.cn (.nat (x / y)) (.cn (.nat (x % y)) (.cn (.ex (.bool true)) (.nl)))) [])]]) Tryz.func145 (_ ∧ (_ ∧ _))
  ⟨sQuotDivModP (x := x) (y := y) (by assumption) zo, (rf (x % y : Nat)), (rf (true : Bool))⟩
theorem sGcdOf {x y : Nat} (hx : nw x < 1099511627776) (hy : nw y < 1099511627776) : CallOK Tryz.prog 128 [.nat x, .nat y] (.nat (Nat.gcd x y)) [] := by
 exact kP (ch := [.loop 1 (Nat × Nat) (fun g => (Nat.gcd g.1 g.2 = Nat.gcd x y ∧ nw g.1 < 1099511627776 ∧ nw g.2 < 1099511627776)) (fun g => g.2) (fun g => ⟨[(2, .own 0 0), (3, .own 1 0), (4, .own 2 0)], [(0, .one (.var 51 (.nat g.1))), (1, .one (.var 51 (.nat g.2))), (2, .one (.var 51 (.ex (.agg #[.slice none 0 0]))))], 3⟩) [(0, .id 0), (1, .id 1), (2, .id 2)] (fun _ => [(0, .id 0), (1, .id 1), (2, .id 2)]) (fun g => [.reg 1 [(1, .callS (.ex (.bool (decide (g.2 = 0)))) [])], .reg 2 [(2, .callS (.cn (.nat (g.1 % g.2)) (.cn (.ex (.bool true)) (.nl))) [])]])]) Tryz.func128 ((((fun X1 X2 X3 : Prop => ∃ g0 : Nat × Nat, X1 ∧ X2 ∧ X3 ∧ ((x : Nat) = g0.1) ∧ ((y : Nat) = g0.2) ∧ ((.agg #[.slice none 0 0] : Value) = .agg #[.slice none 0 0]) ∧ ((Nat.gcd g0.1 g0.2 = Nat.gcd x y ∧ nw g0.1 < 1099511627776 ∧ nw g0.2 < 1099511627776))) _ _ _) ∧ ∀ g : Nat × Nat, (Nat.gcd g.1 g.2 = Nat.gcd x y ∧ nw g.1 < 1099511627776 ∧ nw g.2 < 1099511627776) → _ ∧ (((!(decide (g.2 = 0))) = true → _ ∧ ((fun X1 X2 X3 : Prop => ∃ g1 : Nat × Nat, X1 ∧ X2 ∧ X3 ∧ ((g.2 : Nat) = g1.1) ∧ ((g.1 % g.2 : Nat) = g1.2) ∧ ((.agg #[.slice none 0 0] : Value) = .agg #[.slice none 0 0]) ∧ ((Nat.gcd g1.1 g1.2 = Nat.gcd x y ∧ nw g1.1 < 1099511627776 ∧ nw g1.2 < 1099511627776)) ∧ (g1.2 < g.2)) _ _ _)) ∧ ((!(decide (g.2 = 0))) = false → (((g.1 : Nat) = (Nat.gcd x y)))))))
  ⟨⟨(x, y), (rf 0), (rf 0), (rf 0), rfl, rfl, rfl, rfl, hx, hy⟩, fun g hg => have hg2 := hg.2; ⟨sNatZero (x := g.2), fun hc9 => have hz : g.2 ≠ 0 := (by simpa using hc9); ⟨sQuotModP (x := g.1) (y := g.2) hz hg2.1, (g.2, g.1 % g.2), (rf 0), (rf 0), (rf 0), rfl, rfl, rfl, gcd_turn hg hz, (Nat.mod_lt _ (Nat.pos_of_ne_zero hz))⟩, fun hc9 => have hz : g.2 = 0 := (by simpa using hc9); (by rw [← hg.1, hz, Nat.gcd_zero_right])⟩⟩
theorem sGcdReduce {x y : Nat} (hx : nw x < 1099511627776) (hy : nw y < 1099511627776) : CallOK Tryz.prog 107 [.nat x, .nat y] (.cn (.nat (x / Nat.gcd x y)) (.cn (.nat (y / Nat.gcd x y)) (.nl))) [] := by
 exact kP (ch := [.reg 1 [(2, .callS (.nat (Nat.gcd x y)) [])], .reg 2 [(1, .callS (.ex (.bool (decide (Nat.gcd x y = 0)))) [])], .reg 4 [(2, .callS (.cn (.nat (x / (Nat.gcd x y))) (.cn (.ex (.bool (!decide ((Nat.gcd x y) = 0)))) (.nl))) [])], .reg 5 [(2, .callS (.cn (.nat (y / (Nat.gcd x y))) (.cn (.ex (.bool (!decide ((Nat.gcd x y) = 0)))) (.nl))) [])]]) Tryz.func107 (_ ∧ _ ∧ (((decide (Nat.gcd x y = 0)) = true → (((x : Nat) = (x / Nat.gcd x y)) ∧ ((y : Nat) = (y / Nat.gcd x y)))) ∧ ((decide (Nat.gcd x y = 0)) = false → _ ∧ _ ∧ (((x / (Nat.gcd x y) : Nat) = (x / Nat.gcd x y)) ∧ ((y / (Nat.gcd x y) : Nat) = (y / Nat.gcd x y))))))
  ⟨sGcdOf (x := x) (y := y) zo zo, sNatZero (x := Nat.gcd x y), fun hc15 => have hc15 := dT hc15; have h0 := Nat.gcd_eq_zero_iff.1 hc15; ⟨(by rw [h0.1, Nat.zero_div]), (by rw [h0.2, Nat.zero_div])⟩, fun hc15 => have hc15 := dF hc15; ⟨sQuotDiv (x := x) (y := Nat.gcd x y) zo, sQuotDiv (x := y) (y := Nat.gcd x y) zo, rfl, rfl⟩⟩
theorem sIntBelowG {z : Int}  : CallOK Tryz.prog 110 [.agg (.cn (.ex (.bool (decide (z < 0)))) (.cn (.nat z.natAbs) (.nl)))] (.ex (.bool (decide (z < 0)))) [] := by
 exact kP (ch := []) Tryz.func110 ((_))
  (rf (decide (z < 0) : Bool))
theorem sIntBelow {z : Int}  : CallOK Tryz.prog 110 [.int z] (.ex (.bool (decide (z < 0)))) [] := (sIntBelowG).args fun _ _ _ => argI1
theorem sIntAbsG {z : Int}  : CallOK Tryz.prog 108 [.agg (.cn (.ex (.bool (decide (z < 0)))) (.cn (.nat z.natAbs) (.nl)))] (.nat z.natAbs) [] := by
 exact kP (ch := []) Tryz.func108 ((_))
  (rf (z.natAbs : Nat))
theorem sIntAbs {z : Int}  : CallOK Tryz.prog 108 [.int z] (.nat z.natAbs) [] := (sIntAbsG).args fun _ _ _ => argI1
theorem sIntSignG {z : Int}  : CallOK Tryz.prog 70 [.agg (.cn (.ex (.bool (decide (z < 0)))) (.cn (.nat z.natAbs) (.nl)))] (.ex (.int .i64 z.sign)) [] := by
 exact kP (ch := [.reg 3 [(2, .callS (.ex (.bool (decide (z.natAbs = 0)))) [])]]) Tryz.func70 ((((decide (z < 0)) = true → (((-1 : Int) = z.sign))) ∧ ((decide (z < 0)) = false → _ ∧ (((decide (z.natAbs = 0)) = true → (((0 : Int) = z.sign))) ∧ ((decide (z.natAbs = 0)) = false → (((1 : Int) = z.sign)))))))
  ⟨fun hc3 => have hc3 := dT hc3; (Int.sign_eq_neg_one_of_neg hc3).symm, fun hc3 => have hc3 := dF hc3; ⟨sNatZero (x := z.natAbs), fun hc6 => have hc6 := dT hc6; (by rw [Int.natAbs_eq_zero.1 hc6]; rfl), fun hc6 => have hc6 := dF hc6; (Int.sign_eq_one_of_pos zo).symm⟩⟩
theorem sIntSign {z : Int}  : CallOK Tryz.prog 70 [.int z] (.ex (.int .i64 z.sign)) [] := (sIntSignG).args fun _ _ _ => argI1
theorem sIntCmpG {y z : Int}  : CallOK Tryz.prog 87 [.agg (.cn (.ex (.bool (decide (y < 0)))) (.cn (.nat y.natAbs) (.nl))), .agg (.cn (.ex (.bool (decide (z < 0)))) (.cn (.nat z.natAbs) (.nl)))] (.ex (.int .i64 (cmpV y z))) [] := by
 exact kP (ch := [.reg 6 [(4, .callS (.ex (.int .i64 (cmpV ((z.natAbs : Nat) : Int) ((y.natAbs : Nat) : Int)))) [])], .reg 7 [(4, .callS (.ex (.int .i64 (cmpV ((y.natAbs : Nat) : Int) ((z.natAbs : Nat) : Int)))) [])]]) Tryz.func87 ((((!((decide (y < 0)) == (decide (z < 0)))) == true) = true → ((!((decide (y < 0)) == (decide (z < 0)))) == true) = true) ∧ ((!((decide (y < 0)) == (decide (z < 0)))) = true → ((!((decide (y < 0)) == (decide (z < 0)))) == true) = true) ∧ (((bif (!((decide (y < 0)) == (decide (z < 0)))) then (decide (y < 0)) else false) = true → (((-1 : Int) = (cmpV y z)))) ∧ ((bif (!((decide (y < 0)) == (decide (z < 0)))) then (decide (y < 0)) else false) = false → (((!((decide (y < 0)) == (decide (z < 0)))) = true → (((1 : Int) = (cmpV y z)))) ∧ ((!((decide (y < 0)) == (decide (z < 0)))) = false → (((decide (y < 0)) = true → _ ∧ (((cmpV ((z.natAbs : Nat) : Int) ((y.natAbs : Nat) : Int) : Int) = (cmpV y z)))) ∧ ((decide (y < 0)) = false → _ ∧ (((cmpV ((y.natAbs : Nat) : Int) ((z.natAbs : Nat) : Int) : Int) = (cmpV y z))))))))))
  ⟨id, (by simp), fun hc5 => (cmpS1 hc5), fun hc5 => ⟨fun hc15 => (cmpS2 hc5 hc15), fun hc15 => ⟨fun hc21 => have hc21 := dT hc21; ⟨sNatCmp (x := z.natAbs) (y := y.natAbs), (cmpS3 hc15 hc21)⟩, fun hc21 => have hc21 := dF hc21; ⟨sNatCmp (x := y.natAbs) (y := z.natAbs), (cmpS4 hc15 hc21)⟩⟩⟩⟩
theorem sIntCmp {y z : Int}  : CallOK Tryz.prog 87 [.int y, .int z] (.ex (.int .i64 (cmpV y z))) [] := (sIntCmpG).args fun _ _ _ => argI2
theorem sIntAddG {y z : Int} (hs : Small (y.natAbs + z.natAbs)) : CallOK Tryz.prog 127 [.agg (.cn (.ex (.bool (decide (y < 0)))) (.cn (.nat y.natAbs) (.nl))), .agg (.cn (.ex (.bool (decide (z < 0)))) (.cn (.nat z.natAbs) (.nl)))] (.int (y + z)) [] := by
 exact kP (ch := [.reg 2 [(6, .callS (.nat (y.natAbs + z.natAbs)) []), (7, .callS (.int (signed (decide (y < 0)) (y.natAbs + z.natAbs))) [])], .reg 3 [(4, .callS (.cn (.nat (y.natAbs - z.natAbs)) (.cn (.ex (.bool (decide (z.natAbs ≤ y.natAbs)))) (.nl))) [])], .reg 5 [(3, .callS (.int (signed (decide (y < 0)) (y.natAbs - z.natAbs))) [])], .reg 6 [(4, .callS (.cn (.nat (z.natAbs - y.natAbs)) (.cn (.ex (.bool (decide (y.natAbs ≤ z.natAbs)))) (.nl))) [])], .reg 7 [(3, .callS (.int (signed (decide (z < 0)) (z.natAbs - y.natAbs))) [])]]) Tryz.func127 (((((decide (y < 0)) == (decide (z < 0))) = true → _ ∧ _ ∧ (((signed (decide (y < 0)) (y.natAbs + z.natAbs) : Int) = (y + z)))) ∧ (((decide (y < 0)) == (decide (z < 0))) = false → _ ∧ (((decide (z.natAbs ≤ y.natAbs)) = true → _ ∧ (((signed (decide (y < 0)) (y.natAbs - z.natAbs) : Int) = (y + z)))) ∧ ((decide (z.natAbs ≤ y.natAbs)) = false → _ ∧ _ ∧ (((signed (decide (z < 0)) (z.natAbs - y.natAbs) : Int) = (y + z))))))))
  ⟨fun hc13 => ⟨sNatAdd (x := y.natAbs) (y := z.natAbs) (by assumption), sIntNew (b := decide (y < 0)) (x := y.natAbs + z.natAbs), (signed_add1 hc13)⟩, fun hc13 => ⟨sNatSub (x := y.natAbs) (y := z.natAbs), fun hc30 => have hc30 := dT hc30; ⟨sIntNew (b := decide (y < 0)) (x := y.natAbs - z.natAbs), (signed_add2 hc13 hc30)⟩, fun hc30 => have hc30 := dF hc30; ⟨sNatSub (x := z.natAbs) (y := y.natAbs), sIntNew (b := decide (z < 0)) (x := z.natAbs - y.natAbs), (signed_add3 hc13 (Nat.le_of_not_le hc30))⟩⟩⟩
theorem sIntAdd {y z : Int} (hs : Small (y.natAbs + z.natAbs)) : CallOK Tryz.prog 127 [.int y, .int z] (.int (y + z)) [] := (sIntAddG hs).args fun _ _ _ => argI2
theorem sIntMulG {y z : Int} (hs : nw y.natAbs + nw z.natAbs ≤ LIM) : CallOK Tryz.prog 73 [.agg (.cn (.ex (.bool (decide (y < 0)))) (.cn (.nat y.natAbs) (.nl))), .agg (.cn (.ex (.bool (decide (z < 0)))) (.cn (.nat z.natAbs) (.nl)))] (.int (y * z)) [] := by
 exact kP (ch := [.reg 1 [(9, .callS (.nat (y.natAbs * z.natAbs)) []), (10, .callS (.int (signed (!((decide (y < 0)) == (decide (z < 0)))) (y.natAbs * z.natAbs))) [])]]) Tryz.func73 (_ ∧ _ ∧ (((signed (!((decide (y < 0)) == (decide (z < 0)))) (y.natAbs * z.natAbs) : Int) = (y * z))))
  ⟨sMul (x := y.natAbs) (y := z.natAbs) hs, sIntNew (b := ! ((decide (y < 0)) == (decide (z < 0)))) (x := y.natAbs * z.natAbs), (signed_mul2 y z)⟩
theorem sIntMul {y z : Int} (hs : nw y.natAbs + nw z.natAbs ≤ LIM) : CallOK Tryz.prog 73 [.int y, .int z] (.int (y * z)) [] := (sIntMulG hs).args fun _ _ _ => argI2
theorem sIntOf {x : Int} (hl : -9223372036854775808 ≤ x) (hu : x < 9223372036854775808) : CallOK Tryz.prog 82 [.ex (.int .i64 x)] (.int x) [] := by
 exact kP (ch := [.reg 2 [(1, .z (x + 18446744073709551616)), (2, .z ((x.natAbs : Nat) : Int)), (4, .callS (.nat x.natAbs) []), (5, .callS (.int (signed true x.natAbs)) [])], .reg 3 [(1, .z ((x.natAbs : Nat) : Int)), (3, .callS (.nat x.natAbs) []), (4, .callS (.int (signed false x.natAbs)) [])]]) Tryz.func82 ((((decide ((x : Int) < 0)) = true → (IntKind.wrap .u64 (x : Int) = (x + 18446744073709551616)) ∧ (IntKind.wrap .u64 (0 - (x + 18446744073709551616)) = (((x.natAbs : Nat) : Int))) ∧ _ ∧ _ ∧ (((signed true x.natAbs : Int) = x))) ∧ ((decide ((x : Int) < 0)) = false → (IntKind.wrap .u64 (x : Int) = (((x.natAbs : Nat) : Int))) ∧ _ ∧ _ ∧ (((signed false x.natAbs : Int) = x)))))
  ⟨fun hc4 => have hc4 := dT hc4; ⟨(by rw [IntKind.wrap_u64]; omega), (by rw [IntKind.wrap_u64]; omega), sNatOf1 (k := x.natAbs) zo, sIntNew (b := true) (x := x.natAbs), (by unfold signed; rw [if_pos rfl]; omega)⟩, fun hc4 => have hc4 := dF hc4; ⟨(by rw [IntKind.wrap_u64]; omega), sNatOf1 (k := x.natAbs) zo, sIntNew (b := false) (x := x.natAbs), (by unfold signed; rw [if_neg (by decide)]; omega)⟩⟩
theorem sRatDenG {q : Rat}  : CallOK Tryz.prog 76 [.agg (.cn (.int q.num) (.cn (.nat (denW q)) (.nl)))] (.nat q.den) [] := by
 exact kP (ch := [.reg 1 [(2, .callS (.ex (.bool (decide (denW q = 0)))) [])], .reg 2 [(1, .callS (.nat 1) [])]]) Tryz.func76 (_ ∧ (((decide (denW q = 0)) = true → (CallOK Tryz.prog 117 [.sl 1 (fun _ => .ex (.int .u64 1)) 1] (.nat 1) []) ∧ (((1 : Nat) = q.den))) ∧ ((decide (denW q = 0)) = false → (((denW q : Nat) = q.den)))))
  ⟨sNatZero (x := denW q), fun hc5 => have hc5 := dT hc5; ⟨sNatOf1 (k := 1) (by decide), ((denW_zero q).1 hc5).symm⟩, fun hc5 => have hc5 := dF hc5; (denW_ne fun e => hc5 ((denW_zero q).2 e))⟩
theorem sRatDen {q : Rat}  : CallOK Tryz.prog 76 [.rat q] (.nat q.den) [] := (sRatDenG).args fun _ _ _ => argQ1
theorem sRatBelowG {q : Rat}  : CallOK Tryz.prog 106 [.agg (.cn (.int q.num) (.cn (.nat (denW q)) (.nl)))] (.int ((q.den : Nat) : Int)) [] := by
 exact kP (ch := [.reg 1 [(1, .callS (.nat q.den) []), (2, .callS (.int (signed false q.den)) [])]]) Tryz.func106 (_ ∧ _ ∧ (((signed false q.den : Int) = ((q.den : Nat) : Int))))
  ⟨sRatDenG (q := q), sIntNew (b := false) (x := q.den), rfl⟩
theorem sRatNumG {q : Rat}  : CallOK Tryz.prog 88 [.agg (.cn (.int q.num) (.cn (.nat (denW q)) (.nl)))] (.int q.num) [] := by
 exact kP (ch := []) Tryz.func88 ((_))
  (rf (q.num : Int))
theorem sRatNum {q : Rat}  : CallOK Tryz.prog 88 [.rat q] (.int q.num) [] := (sRatNumG).args fun _ _ _ => argQ1
theorem sRatZeroG {q : Rat}  : CallOK Tryz.prog 22 [.agg (.cn (.int q.num) (.cn (.nat (denW q)) (.nl)))] (.ex (.bool (decide (q = 0)))) [] := by
 exact kP (ch := [.reg 1 [(2, .callS (.ex (.int .i64 q.num.sign)) [])]]) Tryz.func22 (_ ∧ (((decide ((q.num.sign : Int) = 0) : Bool) = (decide (q = 0)))))
  ⟨sIntSign (z := q.num), (sign_zero q)⟩
theorem sRatZero {q : Rat}  : CallOK Tryz.prog 22 [.rat q] (.ex (.bool (decide (q = 0)))) [] := (sRatZeroG).args fun _ _ _ => argQ1
theorem sRatIsIntG {q : Rat}  : CallOK Tryz.prog 97 [.agg (.cn (.int q.num) (.cn (.nat (denW q)) (.nl)))] (.ex (.bool (decide (q.den = 1)))) [] := by
 exact kP (ch := [.reg 1 [(2, .callS (.ex (.bool (decide (denW q = 0)))) [])]]) Tryz.func97 (_ ∧ (((decide (denW q = 0) : Bool) = (decide (q.den = 1)))))
  ⟨sNatZero (x := denW q), (decide_eq_decide.2 (denW_zero q))⟩
theorem sRatIsInt {q : Rat}  : CallOK Tryz.prog 97 [.rat q] (.ex (.bool (decide (q.den = 1)))) [] := (sRatIsIntG).args fun _ _ _ => argQ1
theorem sRatBare1 {q : Rat} (hd : q.den = 1) : CallOK Tryz.prog 109 [.int q.num, .nat q.den] (.agg (.cn (.int q.num) (.cn (.ex (.slice none 0 0)) (.nl)))) [] := by
 exact kP (ch := [.reg 1 [(1, .callS (.cn (.ex (.int .u64 (uintV q.den : Int))) (.cn (.ex (.bool (uintOk q.den))) (.nl))) [])], .dec 16 true]) Tryz.func109 (_ ∧ (((uintOk q.den) == true) = true → ((uintOk q.den) == true) = true) ∧ ((uintOk q.den) = true → ((uintOk q.den) == true) = true) ∧ ((bif (uintOk q.den) then (decide (((uintV q.den : Nat) : Int) = 1)) else false) = true) ∧ (_))
  ⟨sNatUint (x := q.den), id, (fun h => by simpa using h), (by rw [uint_one', decide_eq_true hd]), (rf (q.num : Int))⟩
theorem sRatBare2 {q : Rat} (hd : q.den ≠ 1) : CallOK Tryz.prog 109 [.int q.num, .nat q.den] (.agg (.cn (.int q.num) (.cn (.nat (denW q)) (.nl)))) [] := by
 exact kP (ch := [.reg 1 [(1, .callS (.cn (.ex (.int .u64 (uintV q.den : Int))) (.cn (.ex (.bool (uintOk q.den))) (.nl))) [])], .dec 16 false]) Tryz.func109 (_ ∧ (((uintOk q.den) == true) = true → ((uintOk q.den) == true) = true) ∧ ((uintOk q.den) = true → ((uintOk q.den) == true) = true) ∧ ((bif (uintOk q.den) then (decide (((uintV q.den : Nat) : Int) = 1)) else false) = false) ∧ (_ ∧ ((q.den : Nat) = (denW q))))
  ⟨sNatUint (x := q.den), id, (fun h => by simpa using h), (by rw [uint_one', decide_eq_false hd]), (rf (q.num : Int)), (denW_ne hd).symm⟩
theorem sRatBare {q : Rat} : CallOK Tryz.prog 109 [.int q.num, .nat q.den] (.rat q) [] := by
 by_cases hd : q.den = 1
 ·exact (sRatBare1 hd).res fun _ _ _ _ => rat_close1 hd
 ·exact (sRatBare2 hd).res fun _ _ _ _ => rat_close
theorem sRatNew {y z : Int} (hy : nw y.natAbs < 1099511627776) (hz : nw z.natAbs < 1099511627776) : CallOK Tryz.prog 72 [.int y, .int z] (.cn (.rat (Rat.divInt y z)) (.cn (.ex (.bool (!decide (z = 0)))) (.nl))) [] := by
 exact kP (ch := [.reg 1 [(1, .callS (.ex (.int .i64 z.sign)) [])], .reg 3 [(1, .callS (.nat y.natAbs) []), (3, .callS (.nat z.natAbs) []), (4, .callS (.cn (.nat (y.natAbs / Nat.gcd y.natAbs z.natAbs)) (.cn (.nat (z.natAbs / Nat.gcd y.natAbs z.natAbs)) (.nl))) [])], .reg 4 [(1, .callS (.ex (.bool (decide (y < 0)))) []), (3, .callS (.ex (.bool (decide (z < 0)))) []), (6, .callS (.int (signed (!((decide (y < 0)) == (decide (z < 0)))) (y.natAbs / Nat.gcd y.natAbs z.natAbs))) []), (8, .call [.int ((Rat.divInt y z).num), .nat ((Rat.divInt y z).den)] (.rat (Rat.divInt y z)) [])]]) Tryz.func72 (_ ∧ (((decide ((z.sign : Int) = 0)) = true → (((Rat.divInt y z : Rat) = 0) ∧ ((false : Bool) = (!decide (z = 0))))) ∧ ((decide ((z.sign : Int) = 0)) = false → _ ∧ _ ∧ _ ∧ _ ∧ _ ∧ _ ∧ (CallOK Tryz.prog 109 [.int ((Rat.divInt y z).num), .nat ((Rat.divInt y z).den)] (.rat (Rat.divInt y z)) []) ∧ ((signed (!((decide (y < 0)) == (decide (z < 0)))) (y.natAbs / Nat.gcd y.natAbs z.natAbs) : Int) = ((Rat.divInt y z).num)) ∧ ((z.natAbs / Nat.gcd y.natAbs z.natAbs : Nat) = ((Rat.divInt y z).den)) ∧ (_ ∧ ((true : Bool) = (!decide (z = 0)))))))
  ⟨sIntSign (z := z), fun hc10 => have hc10 := dT hc10; have h0 : z = 0 := Int.sign_eq_zero_iff_zero.1 hc10; ⟨(by rw [h0, divInt_zero]), (by rw [h0]; rfl)⟩, fun hc10 => have hc10 := dF hc10; have h0 : z ≠ 0 := fun e => hc10 (by rw [e]; rfl); ⟨sIntAbs (z := y), sIntAbs (z := z), sGcdReduce (x := y.natAbs) (y := z.natAbs) zo zo, sIntBelow (z := y), sIntBelow (z := z), sIntNew (b := ! ((decide (y < 0)) == (decide (z < 0)))) (x := y.natAbs / Nat.gcd y.natAbs z.natAbs), sRatBare, (by rw [new_num2 y z h0]), (by rw [new_den2 y z h0]), (rf (Rat.divInt y z : Rat)), (by simp [h0])⟩⟩
theorem sRatAddG {p q : Rat} (hs : szq p + szq q ≤ 17179869184) : CallOK Tryz.prog 103 [.agg (.cn (.int p.num) (.cn (.nat (denW p)) (.nl))), .agg (.cn (.int q.num) (.cn (.nat (denW q)) (.nl)))] (.rat (p + q)) [] := by
 have hL := LIM_eq
 have n1 := szq_num p; have d1 := szq_den p; have n2 := szq_num q; have d2 := szq_den q
 have e1 : nw ((p.den : Nat) : Int).natAbs ≤ szq p := d1
 have e2 : nw ((q.den : Nat) : Int).natAbs ≤ szq q := d2
 have m := new_add p q hs
 have m2 : nw (signed false (p.den * q.den)).natAbs < 1099511627776 := by rw [natAbs_sg]; exact m.2
 exact kP (ch := [.reg 1 [(3, .callS (.int ((q.den : Nat) : Int)) []), (4, .callS (.int (p.num * ((q.den : Nat) : Int))) []), (8, .callS (.int ((p.den : Nat) : Int)) []), (9, .callS (.int (q.num * ((p.den : Nat) : Int))) []), (10, .callS (.int ((p.num * ((q.den : Nat) : Int)) + (q.num * ((p.den : Nat) : Int)))) [])], .reg 2 [(2, .callS (.nat p.den) []), (4, .callS (.nat q.den) []), (5, .callS (.nat (p.den * q.den)) []), (6, .callS (.int (signed false (p.den * q.den))) []), (7, .callS (.cn (.rat (Rat.divInt ((p.num * ((q.den : Nat) : Int)) + (q.num * ((p.den : Nat) : Int))) (signed false (p.den * q.den)))) (.cn (.ex (.bool (!decide ((signed false (p.den * q.den)) = 0)))) (.nl))) [])]]) Tryz.func103 (_ ∧ _ ∧ (CallOK Tryz.prog 106 [.agg (.cn (.int p.num) (.cn (.nat (denW p)) (.nl)))] (.int ((p.den : Nat) : Int)) []) ∧ _ ∧ _ ∧ (CallOK Tryz.prog 76 [.agg (.cn (.int p.num) (.cn (.nat (denW p)) (.nl)))] (.nat p.den) []) ∧ _ ∧ _ ∧ _ ∧ _ ∧ (((Rat.divInt ((p.num * ((q.den : Nat) : Int)) + (q.num * ((p.den : Nat) : Int))) (signed false (p.den * q.den)) : Rat) = (p + q))))
  ⟨sRatBelowG (q := q), sIntMul (y := p.num) (z := ((q.den : Nat) : Int)) zo, sRatBelowG, sIntMul (y := q.num) (z := ((p.den : Nat) : Int)) zo, sIntAdd (y := (p.num * ((q.den : Nat) : Int))) (z := (q.num * ((p.den : Nat) : Int))) (small_add p q hs), sRatDenG, sRatDenG (q := q), sMul (x := p.den) (y := q.den) zo, sIntNew (b := false) (x := p.den * q.den), sRatNew (y := ((p.num * ((q.den : Nat) : Int)) + (q.num * ((p.den : Nat) : Int)))) (z := signed false (p.den * q.den)) m.1 m2, (by rw [signed_false]; exact (add_as p q).symm)⟩
theorem sRatAdd {p q : Rat} (hs : szq p + szq q ≤ 17179869184) : CallOK Tryz.prog 103 [.rat p, .rat q] (.rat (p + q)) [] := (sRatAddG hs).args fun _ _ _ => argQ2
theorem sRatMulG {p q : Rat} (hs : szq p + szq q ≤ 17179869184) : CallOK Tryz.prog 27 [.agg (.cn (.int p.num) (.cn (.nat (denW p)) (.nl))), .agg (.cn (.int q.num) (.cn (.nat (denW q)) (.nl)))] (.rat (p * q)) [] := by
 have hL := LIM_eq
 have n1 := szq_num p; have d1 := szq_den p; have n2 := szq_num q; have d2 := szq_den q
 have e1 : nw ((p.den : Nat) : Int).natAbs ≤ szq p := d1
 have e2 : nw ((q.den : Nat) : Int).natAbs ≤ szq q := d2
 have m := new_mul p q hs
 have m2 : nw (signed false (p.den * q.den)).natAbs < 1099511627776 := by rw [natAbs_sg]; exact m.2
 exact kP (ch := [.reg 1 [(4, .callS (.int (p.num * q.num)) []), (6, .callS (.nat p.den) []), (8, .callS (.nat q.den) []), (9, .callS (.nat (p.den * q.den)) []), (10, .callS (.int (signed false (p.den * q.den))) []), (11, .callS (.cn (.rat (Rat.divInt (p.num * q.num) (signed false (p.den * q.den)))) (.cn (.ex (.bool (!decide ((signed false (p.den * q.den)) = 0)))) (.nl))) [])]]) Tryz.func27 (_ ∧ (CallOK Tryz.prog 76 [.agg (.cn (.int p.num) (.cn (.nat (denW p)) (.nl)))] (.nat p.den) []) ∧ _ ∧ _ ∧ _ ∧ _ ∧ (((Rat.divInt (p.num * q.num) (signed false (p.den * q.den)) : Rat) = (p * q))))
  ⟨sIntMul (y := p.num) (z := q.num) zo, sRatDenG, sRatDenG (q := q), sMul (x := p.den) (y := q.den) zo, sIntNew (b := false) (x := p.den * q.den), sRatNew (y := p.num * q.num) (z := signed false (p.den * q.den)) m.1 m2, (by rw [signed_false]; exact (mul_as p q).symm)⟩
theorem sRatMul {p q : Rat} (hs : szq p + szq q ≤ 17179869184) : CallOK Tryz.prog 27 [.rat p, .rat q] (.rat (p * q)) [] := (sRatMulG hs).args fun _ _ _ => argQ2
theorem sRatCmpG {p q : Rat} (hs : szq p + szq q ≤ 17179869184) : CallOK Tryz.prog 71 [.agg (.cn (.int p.num) (.cn (.nat (denW p)) (.nl))), .agg (.cn (.int q.num) (.cn (.nat (denW q)) (.nl)))] (.ex (.int .i64 (cmpQ p q))) [] := by
 have hL := LIM_eq
 have n1 := szq_num p; have d1 := szq_den p; have n2 := szq_num q; have d2 := szq_den q
 have e1 : nw ((p.den : Nat) : Int).natAbs ≤ szq p := d1
 have e2 : nw ((q.den : Nat) : Int).natAbs ≤ szq q := d2
 exact kP (ch := [.reg 1 [(3, .callS (.int ((q.den : Nat) : Int)) []), (4, .callS (.int (p.num * ((q.den : Nat) : Int))) []), (8, .callS (.int ((p.den : Nat) : Int)) []), (9, .callS (.int (q.num * ((p.den : Nat) : Int))) []), (10, .callS (.ex (.int .i64 (cmpV (p.num * ((q.den : Nat) : Int)) (q.num * ((p.den : Nat) : Int))))) [])]]) Tryz.func71 (_ ∧ _ ∧ (CallOK Tryz.prog 106 [.agg (.cn (.int p.num) (.cn (.nat (denW p)) (.nl)))] (.int ((p.den : Nat) : Int)) []) ∧ _ ∧ _ ∧ (((cmpV (p.num * ((q.den : Nat) : Int)) (q.num * ((p.den : Nat) : Int)) : Int) = (cmpQ p q))))
  ⟨sRatBelowG (q := q), sIntMul (y := p.num) (z := ((q.den : Nat) : Int)) zo, sRatBelowG, sIntMul (y := q.num) (z := ((p.den : Nat) : Int)) zo, sIntCmp (y := (p.num * ((q.den : Nat) : Int))) (z := (q.num * ((p.den : Nat) : Int))) , (cmpQ_eq p q)⟩
theorem sRatCmp {p q : Rat} (hs : szq p + szq q ≤ 17179869184) : CallOK Tryz.prog 71 [.rat p, .rat q] (.ex (.int .i64 (cmpQ p q))) [] := (sRatCmpG hs).args fun _ _ _ => argQ2
theorem sRatSame {p q : Rat} (hs : szq p + szq q ≤ 17179869184) : CallOK Tryz.prog 26 [.rat p, .rat q] (.ex (.bool (decide (p = q)))) [] := by
 exact kP (ch := [.reg 1 [(2, .callS (.ex (.int .i64 (cmpQ p q))) [])]]) Tryz.func26 (_ ∧ (((decide ((cmpQ p q : Int) = 0) : Bool) = (decide (p = q)))))
  ⟨sRatCmp (p := p) (q := q) (by first | assumption | omega), (cmp_same p q)⟩
theorem sRatInt0 {x : Int} (hl : -9223372036854775808 ≤ x) (hu : x < 9223372036854775808) : CallOK Tryz.prog 32 [.ex (.int .i64 x)] (.agg (.cn (.int x) (.cn (.ex (.slice none 0 0)) (.nl)))) [] := by
 exact kP (ch := [.reg 1 [(1, .callS (.int x) [])]]) Tryz.func32 (_ ∧ (_))
  ⟨sIntOf (x := x) zo zo, (rf (x : Int))⟩
theorem sRatInt {x : Int} (hl : -9223372036854775808 ≤ x) (hu : x < 9223372036854775808) : CallOK Tryz.prog 32 [.ex (.int .i64 x)] (.rat ((x : Int) : Rat)) [] := (sRatInt0 hl hu).res fun _ _ _ _ h => rat_close1 (q := ((x : Int) : Rat)) (Rat.den_intCast x) (by rw [Rat.num_intCast]; exact h)
theorem sRatOf {x y : Int} (hl : -9223372036854775808 ≤ x) (hu : x < 9223372036854775808) (hl2 : -9223372036854775808 ≤ y) (hu2 : y < 9223372036854775808) : CallOK Tryz.prog 86 [.ex (.int .i64 x), .ex (.int .i64 y)] (.cn (.rat (Rat.divInt x y)) (.cn (.ex (.bool (!decide (y = 0)))) (.nl))) [] := by
 exact kP (ch := [.reg 1 [(1, .callS (.int x) []), (3, .callS (.int y) []), (4, .callS (.cn (.rat (Rat.divInt x y)) (.cn (.ex (.bool (!decide (y = 0)))) (.nl))) [])]]) Tryz.func86 (_ ∧ _ ∧ _ ∧ (_ ∧ _))
  ⟨sIntOf (x := x) zo zo, sIntOf (x := y) zo zo, sRatNew (y := x) (z := y) (new_of hl hu) (new_of hl2 hu2), (rf (Rat.divInt x y : Rat)), (rf (!decide (y = 0) : Bool))⟩
theorem sRatBitsG {q : Rat} (h1 : Wd.blen q.num.natAbs ≤ 70368744177664) (h2 : Wd.blen q.den ≤ 70368744177664) : CallOK Tryz.prog 98 [.agg (.cn (.int q.num) (.cn (.nat (denW q)) (.nl)))] (.ex (.int .i64 ((Wd.blen q.num.natAbs + Wd.blen q.den : Nat) : Int))) [] := by
 exact kP (ch := [.reg 1 [(2, .callS (.nat q.num.natAbs) []), (3, .callS (.ex (.int .i64 (Wd.blen q.num.natAbs : Int))) []), (5, .callS (.nat q.den) []), (6, .callS (.ex (.int .i64 (Wd.blen q.den : Int))) []), (7, .z ((Wd.blen q.num.natAbs + Wd.blen q.den : Nat) : Int))]]) Tryz.func98 (_ ∧ _ ∧ _ ∧ _ ∧ (IntKind.wrap .i64 (((Wd.blen q.num.natAbs : Nat) : Int) + (Wd.blen q.den : Int)) = (((Wd.blen q.num.natAbs + Wd.blen q.den : Nat) : Int))) ∧ (_))
  ⟨sIntAbs (z := q.num), sNatBits (x := q.num.natAbs), sRatDenG (q := q), sNatBits (x := q.den), (by rw [IntKind.wrap_i64]; omega), (rf ((Wd.blen q.num.natAbs + Wd.blen q.den : Nat) : Int))⟩
theorem sRatBits {q : Rat} : CallOK Tryz.prog 98 [.rat q] (.ex (.int .i64 ((Wd.blen q.num.natAbs + Wd.blen q.den : Nat) : Int))) [] :=
 CallOK.given (Φ := Wd.blen q.num.natAbs ≤ 70368744177664 ∧ Wd.blen q.den ≤ 70368744177664) (callable_of Tryz.func98 rfl (by kernel_rfl)) (fun _ _ _ vals h => by
  match vals, h with
  | [v], h => have := rat_small h.1.1; exact ⟨this.2.2.1, this.2.2.2⟩) fun h => (sRatBitsG h.1 h.2).args fun _ _ _ => argQ1
def dg (x i : Nat) : Nat := x / 2 ^ (16 * i) % 65536
def nd (x : Nat) : Nat := (Wd.blen x + 15) / 16
theorem nd_le (x k : Nat) : nd x ≤ k ↔ x < 2 ^ (16 * k) := by
 rw [← Wd.blen_le]; unfold nd; omega
theorem lt_nd (x : Nat) : x < 2 ^ (16 * nd x) := (nd_le x _).1 (Nat.le_refl _)
theorem lt_nd_of {x n : Nat} (h : nd x ≤ n) : x < 2 ^ (16 * n) := (nd_le x n).1 h
theorem nd_eq_zero (x : Nat) : nd x = 0 ↔ x = 0 := by
 constructor
 ·intro h
  have := (nd_le x 0).1 zo
  simpa using this
 ·rintro rfl; rfl
theorem nd_nw (x : Nat) : nd x ≤ 4 * nw x := by unfold nd nw; omega
theorem nw_nd (x : Nat) : nw x = (nd x + 3) / 4 := by unfold nd nw; omega
theorem p16 (n : Nat) : 2 ^ (16 * (n + 1)) = 65536 * 2 ^ (16 * n) := by
 rw [show 16 * (n + 1) = 16 + 16 * n by omega, Nat.pow_add]
theorem p16_pos (n : Nat) : 0 < 2 ^ (16 * n) := Nat.pow_pos (by decide)
theorem dg_lt (x i : Nat) : dg x i < 65536 := Nat.mod_lt _ (by decide)
theorem dg_zero {x i : Nat} (h : x < 2 ^ (16 * i)) : dg x i = 0 := by unfold dg; rw [Nat.div_eq_of_lt h]
theorem dg_nd {x i : Nat} (h : nd x ≤ i) : dg x i = 0 := dg_zero (lt_nd_of h)
theorem div16 (x n : Nat) : x / 2 ^ (16 * (n + 1)) = x / 2 ^ (16 * n) / 65536 := by
 rw [Nat.div_div_eq_div_mul, p16, Nat.mul_comm]
theorem dg_split (x n : Nat) : x / 2 ^ (16 * n) = x / 2 ^ (16 * (n + 1)) * 65536 + dg x n := by
 unfold dg; rw [div16]; omega
theorem nd_step {x n : Nat} (h : x < 2 ^ (16 * (n + 1))) (e : dg x n = 0) : x < 2 ^ (16 * n) := by
 have h1 := dg_split x n
 rw [Nat.div_eq_of_lt h, e] at h1
 exact (Nat.div_eq_zero_iff_lt (p16_pos n)).1 zo
theorem nd_top {x n : Nat} (h : x < 2 ^ (16 * (n + 1))) (e : dg x n ≠ 0) : nd x = n + 1 := by
 have h1 := (nd_le x (n + 1)).2 h
 by_cases h2 : nd x ≤ n
 ·exact absurd (dg_nd h2) e
 ·omega
theorem nd_end {x n : Nat} (h : x < 2 ^ (16 * n)) (e : n = 0 ∨ dg x (n - 1) ≠ 0) : nd x = n := by
 cases n with
 | zero => have := (nd_le x 0).2 h; omega
 | succ n => exact nd_top h (by rcases e with e | e; exact absurd e zo; simpa using e)
theorem nd_last {x : Nat} (h : x ≠ 0) : dg x (nd x - 1) ≠ 0 := fun e => by
 have h0 : nd x ≠ 0 := fun e => h ((nd_eq_zero x).1 e)
 have h1 := lt_nd x
 rw [show nd x = nd x - 1 + 1 by omega] at h1
 have := (nd_le x (nd x - 1)).2 (nd_step h1 e)
 omega
def cry (x y g : Nat) : Nat := (x % 2 ^ (16 * g) + y % 2 ^ (16 * g)) / 2 ^ (16 * g)
theorem cry_zero (x y : Nat) : cry x y 0 = 0 := by simp [cry, Nat.mod_one]
theorem add_div (x y g : Nat) : (x + y) / 2 ^ (16 * g) = x / 2 ^ (16 * g) + y / 2 ^ (16 * g) + cry x y g := by
 unfold cry
 have hp := p16_pos g
 generalize 2 ^ (16 * g) = B at *
 have h1 := Nat.div_add_mod x B
 have h2 := Nat.div_add_mod y B
 have : x + y = (x % B + y % B) + (x / B + y / B) * B := by rw [Nat.add_mul]; have := Nat.mul_comm B (x / B); have := Nat.mul_comm B (y / B); omega
 rw [this, Nat.add_mul_div_right _ _ hp]; omega
theorem cry_step (x y g : Nat) : (dg x g + dg y g + cry x y g) / 65536 = cry x y (g + 1) ∧ (dg x g + dg y g + cry x y g) % 65536 = dg (x + y) g := by
 have h1 := add_div x y g
 have h2 := add_div x y (g + 1)
 have h3 := dg_split x g
 have h4 := dg_split y g
 have h5 := dg_split (x + y) g
 have h6 := dg_lt (x + y) g
 omega
theorem cry_le (x y g : Nat) : cry x y g ≤ 1 := by
 unfold cry
 have hp := p16_pos g
 have h1 := Nat.mod_lt x hp
 have h2 := Nat.mod_lt y hp
 generalize 2 ^ (16 * g) = B at *
 have := (Nat.div_lt_iff_lt_mul (k := B) (x := x % B + y % B) (y := 2) hp).2 zo
 omega
theorem cry_top {x y g : Nat} (h1 : nd x ≤ g) (h2 : nd y ≤ g) (h : cry x y g = 0) : x + y < 2 ^ (16 * g) := by
 have := add_div x y g
 rw [Nat.div_eq_of_lt (lt_nd_of h1), Nat.div_eq_of_lt (lt_nd_of h2), h] at this
 exact (Nat.div_eq_zero_iff_lt (p16_pos g)).1 zo
theorem cry_over {x y g : Nat} (h1 : nd x < g) (h2 : nd y < g) : cry x y g = 0 := by
 have h3 : x < 2 ^ (16 * (g - 1)) := lt_nd_of zo
 have h4 : y < 2 ^ (16 * (g - 1)) := lt_nd_of zo
 have h5 := p16 (g - 1)
 rw [show g - 1 + 1 = g by omega] at h5
 unfold cry
 rw [Nat.mod_eq_of_lt zo, Nat.mod_eq_of_lt zo]
 exact Nat.div_eq_of_lt zo
def brw (x y g : Nat) : Nat := if x % 2 ^ (16 * g) < y % 2 ^ (16 * g) then 1 else 0
theorem brw_zero (x y : Nat) : brw x y 0 = 0 := by simp [brw, Nat.mod_one]
theorem sub_div {x y : Nat} (h : y ≤ x) (g : Nat) : (x - y) / 2 ^ (16 * g) + y / 2 ^ (16 * g) + brw x y g = x / 2 ^ (16 * g) := by
 have hp := p16_pos g
 unfold brw
 generalize 2 ^ (16 * g) = B at *
 have h1 := Nat.div_add_mod x B
 have h2 := Nat.div_add_mod y B
 have h3 := Nat.mod_lt x hp
 have h4 := Nat.mod_lt y hp
 have h5 : y / B ≤ x / B := Nat.div_le_div_right h
 have key : ∀ q r, q * B + r = x - y → r < B → (x - y) / B = q := by
  intro q r e hr
  rw [← e, Nat.add_comm, Nat.add_mul_div_right _ _ hp, Nat.div_eq_of_lt hr]; omega
 have e1 : (x / B - y / B) * B = B * (x / B) - B * (y / B) := by rw [Nat.mul_comm, Nat.mul_sub]
 have e2 : B * (y / B) ≤ B * (x / B) := Nat.mul_le_mul_left _ h5
 split
 ·rename_i hlt
  have h6 : y / B < x / B := by
   apply Nat.lt_of_le_of_ne h5
   intro e
   rw [e] at h2
   omega
  have e3 : (x / B - y / B - 1) * B = (x / B - y / B) * B - B := by rw [Nat.sub_mul]; omega
  have e4 : B ≤ (x / B - y / B) * B := Nat.le_mul_of_pos_left _ zo
  have := key (x / B - y / B - 1) (x % B + B - y % B) zo zo
  omega
 ·have := key (x / B - y / B) (x % B - y % B) zo zo
  omega
theorem brw_le (x y g : Nat) : brw x y g ≤ 1 := by unfold brw; split <;> omega
theorem brw_step {x y : Nat} (h : y ≤ x) (g : Nat) : (dg x g < dg y g + brw x y g → brw x y (g + 1) = 1 ∧ dg x g + 65536 = dg (x - y) g + dg y g + brw x y g) ∧ (¬ dg x g < dg y g + brw x y g → brw x y (g + 1) = 0 ∧ dg x g = dg (x - y) g + dg y g + brw x y g) := by
 have h1 := sub_div h g
 have h2 := sub_div h (g + 1)
 have h3 := dg_split x g
 have h4 := dg_split y g
 have h5 := dg_split (x - y) g
 have h6 := dg_lt (x - y) g
 have h7 := dg_lt x g
 have h8 := dg_lt y g
 have h9 := brw_le x y g
 have h10 := brw_le x y (g + 1)
 omega
def cryM (x m a g : Nat) : Nat := (x % 2 ^ (16 * g) * m + a) / 2 ^ (16 * g)
theorem cryM_zero (x m a : Nat) : cryM x m a 0 = a := by simp [cryM, Nat.mod_one]
theorem mul_div' (x m a g : Nat) : (x * m + a) / 2 ^ (16 * g) = x / 2 ^ (16 * g) * m + cryM x m a g := by
 unfold cryM
 have hp := p16_pos g
 generalize 2 ^ (16 * g) = B at *
 have h1 := Nat.div_add_mod x B
 have : x * m + a = (x % B * m + a) + x / B * m * B := by
  conv => lhs; rw [← h1, Nat.add_mul, Nat.mul_comm B, Nat.mul_right_comm]
  omega
 rw [this, Nat.add_mul_div_right _ _ hp]; omega
theorem cryM_step (x m a g : Nat) : (dg x g * m + cryM x m a g) / 65536 = cryM x m a (g + 1) ∧ (dg x g * m + cryM x m a g) % 65536 = dg (x * m + a) g := by
 have h1 := mul_div' x m a g
 have h2 := mul_div' x m a (g + 1)
 have h3 := dg_split x g
 have h5 := dg_split (x * m + a) g
 have h6 := dg_lt (x * m + a) g
 have h7 : x / 2 ^ (16 * g) * m = x / 2 ^ (16 * (g + 1)) * m * 65536 + dg x g * m := by
  conv => lhs; rw [h3, Nat.add_mul, Nat.mul_right_comm]
 generalize x / 2 ^ (16 * g) * m = u at *
 generalize x / 2 ^ (16 * (g + 1)) * m = v at *
 generalize dg x g * m = w at *
 omega
theorem cryM_le {x m a g : Nat} : cryM x m a g ≤ m + a := by
 unfold cryM
 have hp := p16_pos g
 have h1 := Nat.mod_lt x hp
 generalize 2 ^ (16 * g) = B at *
 have h2 : x % B * m ≤ B * m := Nat.mul_le_mul_right _ (Nat.le_of_lt h1)
 have h3 : a ≤ B * a := Nat.le_mul_of_pos_left _ hp
 apply Nat.div_le_of_le_mul
 rw [Nat.mul_add]; omega
theorem dgm_le {x m i : Nat} (hm : m ≤ 65536) : dg x i * m ≤ 4294967296 := by
 have := Nat.mul_le_mul (Nat.le_of_lt (dg_lt x i)) hm
 omega
theorem cryM_top {x m a n : Nat} (h : x < 2 ^ (16 * n)) : (x * m + a) / 2 ^ (16 * n) = cryM x m a n := by
 have := mul_div' x m a n
 rw [Nat.div_eq_of_lt h] at this
 omega
theorem cryM_end {x m a n : Nat} (h : x < 2 ^ (16 * n)) (hm : m + a < 4294967296) : x * m + a < 2 ^ (16 * (n + 2)) ∧ cryM x m a n % 65536 = dg (x * m + a) n ∧ cryM x m a n / 65536 = dg (x * m + a) (n + 1) := by
 have h1 := cryM_top (m := m) (a := a) h
 have h2 := cryM_le (x := x) (m := m) (a := a) (g := n)
 have h3 := div16 (x * m + a) n
 have h4 := div16 (x * m + a) (n + 1)
 refine ⟨(Nat.div_eq_zero_iff_lt (p16_pos _)).1 (by show _ / 2 ^ (16 * (n + 1 + 1)) = 0; omega), by unfold dg; rw [h1], by unfold dg; omega⟩
theorem half_step {x m : Nat} (hm : 0 < m) (g : Nat) : (x / 2 ^ (16 * (g + 1)) % m * 65536 + dg x g) % m = x / 2 ^ (16 * g) % m ∧ (x / 2 ^ (16 * (g + 1)) % m * 65536 + dg x g) / m = dg (x / m) g := by
 have h1 := dg_split x g
 have h2 := dg_lt x g
 have h3 : ∀ n, x / m / 2 ^ (16 * n) = x / 2 ^ (16 * n) / m := fun n => by rw [Nat.div_div_eq_div_mul, Nat.div_div_eq_div_mul, Nat.mul_comm]
 generalize hu : x / 2 ^ (16 * (g + 1)) = u at *
 generalize hd : dg x g = d at *
 have h4 := Nat.div_add_mod u m
 have h5 := Nat.mod_lt u hm
 have e : u * 65536 + d = (u % m * 65536 + d) + u / m * 65536 * m := by
  conv => lhs; rw [← h4, Nat.add_mul, Nat.mul_comm m, Nat.mul_right_comm]
  omega
 refine ⟨by rw [h1, e, Nat.add_mul_mod_self_right], ?_⟩
 unfold dg
 rw [h3, h1, e, Nat.add_mul_div_right _ _ hm]
 have : (u % m * 65536 + d) / m < 65536 := (Nat.div_lt_iff_lt_mul hm).2 (by have := Nat.mul_le_mul_right 65536 (show u % m + 1 ≤ m by omega); rw [Nat.mul_comm 65536]; omega)
 generalize (u % m * 65536 + d) / m = A at *
 omega
theorem dg_mul_pow {x k i : Nat} : dg (x * 2 ^ k) i = if i < k / 16 then 0 else dg (x * 2 ^ (k % 16)) (i - k / 16) := by
 unfold dg
 split
 ·rename_i h
  rw [show k = 16 * i + (16 + (k - 16 * i - 16)) by omega, Nat.pow_add, Nat.mul_comm, Nat.mul_assoc, Nat.mul_div_cancel_left _ (p16_pos i), Nat.pow_add, Nat.mul_assoc]
  exact Nat.mul_mod_right _ _
 ·rename_i h
  have e : x * 2 ^ k = x * 2 ^ (k % 16) * 2 ^ (16 * (k / 16)) := by
   rw [Nat.mul_assoc, ← Nat.pow_add, show k % 16 + 16 * (k / 16) = k by omega]
  rw [e, show 16 * i = 16 * (k / 16) + 16 * (i - k / 16) by omega, Nat.pow_add, ← Nat.div_div_eq_div_mul, Nat.mul_div_cancel _ (p16_pos _)]
theorem mul_pow_lt {x k : Nat} : x * 2 ^ k < 2 ^ (16 * (k / 16 + nd (x * 2 ^ (k % 16)))) := by
 have h := lt_nd (x * 2 ^ (k % 16))
 have e : x * 2 ^ k = x * 2 ^ (k % 16) * 2 ^ (16 * (k / 16)) := by
  rw [Nat.mul_assoc, ← Nat.pow_add, show k % 16 + 16 * (k / 16) = k by omega]
 rw [e, Nat.mul_add, Nat.pow_add, Nat.mul_comm]
 exact Nat.mul_lt_mul_of_pos_left h (p16_pos _)
theorem nd_mul (x y : Nat) : nd (x * y) ≤ nd x + nd y := by
 rw [nd_le, Nat.mul_add, Nat.pow_add]
 exact Nat.mul_lt_mul'' (lt_nd x) (lt_nd y)
theorem nd_mono {x y : Nat} (h : x ≤ y) : nd x ≤ nd y := (nd_le x _).2 (Nat.lt_of_le_of_lt h (lt_nd y))
theorem nd_add (x y : Nat) : nd (x + y) ≤ max (nd x) (nd y) + 1 := by
 rw [nd_le, p16]
 have h1 := lt_nd_of (Nat.le_max_left (nd x) (nd y))
 have h2 := lt_nd_of (Nat.le_max_right (nd x) (nd y))
 omega
theorem nd_pow (k : Nat) : nd (2 ^ k) = k / 16 + 1 := by
 have h : Wd.blen (2 ^ k) = k + 1 := Wd.blen_eq _ _ (Nat.pow_lt_pow_right (by decide) (Nat.lt_succ_self k)) (Nat.le_refl _)
 unfold nd; rw [h]; omega
def cmpN (x y : Nat) : Int := if x < y then -1 else if x = y then 0 else 1
theorem cmpN_len {x y : Nat} (h : nd x < nd y) : cmpN x y = -1 := by
 unfold cmpN
 rw [if_pos]
 by_cases e : x < y
 ·exact e
 ·have := nd_mono (Nat.le_of_not_lt e); omega
theorem cmpN_len' {x y : Nat} (h : nd y < nd x) : cmpN x y = 1 := by
 unfold cmpN
 have : ¬ x < y := fun e => by have := nd_mono (Nat.le_of_lt e); omega
 rw [if_neg this, if_neg (fun e => by subst e; omega)]
theorem lt_of_dg {x y g : Nat} (e : x / 2 ^ (16 * (g + 1)) = y / 2 ^ (16 * (g + 1))) (h : dg x g < dg y g) : x < y := by
 have h1 := dg_split x g
 have h2 := dg_split y g
 by_cases c : x < y
 ·exact c
 ·have := Nat.div_le_div_right (c := 2 ^ (16 * g)) (Nat.le_of_not_lt c)
  omega
theorem cmpN_lt {x y g : Nat} (e : x / 2 ^ (16 * (g + 1)) = y / 2 ^ (16 * (g + 1))) (h : dg x g < dg y g) : cmpN x y = -1 := if_pos (lt_of_dg e h)
theorem cmpN_gt {x y g : Nat} (e : x / 2 ^ (16 * (g + 1)) = y / 2 ^ (16 * (g + 1))) (h : dg y g < dg x g) : cmpN x y = 1 := by
 have := lt_of_dg e.symm h
 unfold cmpN
 rw [if_neg zo, if_neg zo]
theorem eq_step16 {x y g : Nat} (e : x / 2 ^ (16 * (g + 1)) = y / 2 ^ (16 * (g + 1))) (h1 : ¬ dg x g < dg y g) (h2 : ¬ dg y g < dg x g) : x / 2 ^ (16 * g) = y / 2 ^ (16 * g) := by
 rw [dg_split x g, dg_split y g, e, show dg x g = dg y g by omega]
theorem cmpN_self {x y : Nat} (e : x / 2 ^ (16 * 0) = y / 2 ^ (16 * 0)) : cmpN x y = 0 := by
 simp at e; subst e; unfold cmpN; rw [if_neg zo, if_pos rfl]
theorem cmpN_ge {x y : Nat} : (0 ≤ cmpN x y) ↔ y ≤ x := by
 unfold cmpN
 split
 ·omega
 ·split <;> omega
theorem cmpN_neg {x y : Nat} : (cmpN x y < 0) ↔ x < y := by
 unfold cmpN
 split
 ·omega
 ·split <;> omega
theorem cmpN_zero {x y : Nat} : (cmpN x y = 0) ↔ x = y := by
 unfold cmpN
 split
 ·omega
 ·split <;> omega
theorem bits_step (x g : Nat) : x / 2 ^ g = x / 2 ^ (g + 1) * 2 + x / 2 ^ g % 2 := by
 rw [Nat.pow_succ, ← Nat.div_div_eq_div_mul]; omega
theorem div_bit {n d r q b : Nat} (hd : 0 < d) (hq : q = n / d) (hr : r = n % d) (hb : b ≤ 1) : (r * 2 + b < d → (n * 2 + b) / d = q * 2 ∧ (n * 2 + b) % d = r * 2 + b) ∧ (d ≤ r * 2 + b → (n * 2 + b) / d = q * 2 + 1 ∧ (n * 2 + b) % d = r * 2 + b - d) := by
 have h1 := Nat.div_add_mod n d
 have h2 := Nat.mod_lt n hd
 rw [← hq, ← hr] at h1
 rw [← hr] at h2
 have key : ∀ q' r', q' * d + r' = n * 2 + b → r' < d → (n * 2 + b) / d = q' ∧ (n * 2 + b) % d = r' := by
  intro q' r' e hr'
  rw [← e, Nat.add_comm]
  exact ⟨by rw [Nat.add_mul_div_right _ _ hd, Nat.div_eq_of_lt hr']; omega, by rw [Nat.add_mul_mod_self_right, Nat.mod_eq_of_lt hr']⟩
 have e1 : q * 2 * d = d * q * 2 := by rw [Nat.mul_right_comm, Nat.mul_comm q d]
 have e2 : (q * 2 + 1) * d = d * q * 2 + d := by rw [Nat.add_mul, e1]; omega
 exact ⟨fun h => key _ _ zo h, fun h => key _ _ zo zo⟩
theorem bit_dg (x k : Nat) : dg x (k / 16) / 2 ^ (k % 16) % 2 = x / 2 ^ k % 2 := by
 unfold dg
 rw [show (65536 : Nat) = 2 ^ (k % 16) * 2 ^ (16 - k % 16) by rw [← Nat.pow_add, show k % 16 + (16 - k % 16) = 16 by omega], Nat.mod_mul_right_div_self, Nat.div_div_eq_div_mul, ← Nat.pow_add, show 16 * (k / 16) + k % 16 = k by omega]
 have : 2 ^ (16 - k % 16) = 2 * 2 ^ (16 - k % 16 - 1) := by rw [Nat.mul_comm, ← Nat.pow_succ, show (16 - k % 16 - 1).succ = 16 - k % 16 by omega]
 rw [this, Nat.mod_mul_right_mod]
theorem blen_dg {x : Nat} (h : x ≠ 0) : Wd.blen x = 16 * (nd x - 1) + Wd.blen (dg x (nd x - 1)) := by
 have h1 := Wd.blen_pos x h
 have h2 : nd x = (Wd.blen x + 15) / 16 := rfl
 have h3 : dg x (nd x - 1) = x / 2 ^ (16 * (nd x - 1)) := by
  have := div16 x (nd x - 1)
  rw [show nd x - 1 + 1 = nd x by omega, Nat.div_eq_of_lt (lt_nd x)] at this
  unfold dg; omega
 rw [h3]
 refine Wd.blen_shift x _ ?_
 rw [← h3]; exact nd_last h
theorem blen_half {x : Nat} (h : x ≠ 0) : Wd.blen x = Wd.blen (x / 2) + 1 := by
 by_cases h2 : x / 2 = 0
 ·rw [h2]
  have : x = 1 := by omega
  subst this; decide
 ·have := Wd.blen_shift x 1 (by simpa using h2)
  simp at this
  omega
theorem gcd_2_2 {a b : Nat} (ha : a % 2 = 0) (hb : b % 2 = 0) : Nat.gcd a b = Nat.gcd (a / 2) (b / 2) * 2 := by
 conv => lhs; rw [show a = 2 * (a / 2) by omega, show b = 2 * (b / 2) by omega]
 rw [Nat.gcd_mul_left, Nat.mul_comm]
theorem gcd_2_odd {a b : Nat} (ha : a % 2 = 0) (hb : b % 2 = 1) : Nat.gcd (a / 2) b = Nat.gcd a b := by
 conv => rhs; rw [show a = 2 * (a / 2) by omega]
 have : Nat.Coprime b 2 := by
  show Nat.gcd b 2 = 1
  rw [Nat.gcd_comm, Nat.gcd_rec, hb]; rfl
 rw [Nat.gcd_comm, Nat.gcd_comm (2 * (a / 2)), Nat.Coprime.gcd_mul_left_cancel_right (m := b) (a / 2) this.symm]
theorem gcd_sub_left' {a b : Nat} (h : b ≤ a) : Nat.gcd (a - b) b = Nat.gcd a b := by
 conv => rhs; rw [show a = a - b + b by omega]
 rw [Nat.gcd_add_self_left]
open Go.RowKit
def SV.dgs (x n : Nat) : SV := .sl 1 (fun i => .ex (.int .i64 (dg x i : Int))) n
theorem bifT {P Q : Prop} [Decidable P] [Decidable Q] (h : (bif decide P then decide Q else false) = true) : P ∧ Q := by
 by_cases p : P
 ·exact ⟨p, by simpa [p] using h⟩
 ·simp [p] at h
theorem bifF {P Q : Prop} [Decidable P] [Decidable Q] (h : (bif decide P then decide Q else false) = false) : ¬ (P ∧ Q) := fun ⟨p, q⟩ => by simp [p, q] at h
theorem orT {P Q : Prop} [Decidable P] [Decidable Q] (h : (bif decide P then true else decide Q) = true) : P ∨ Q := by
 by_cases p : P
 ·exact .inl p
 ·exact .inr (by simpa [p] using h)
theorem orF {P Q : Prop} [Decidable P] [Decidable Q] (h : (bif decide P then true else decide Q) = false) : ¬ P ∧ ¬ Q := by
 by_cases p : P
 ·simp [p] at h
 ·exact ⟨p, by simpa [p] using h⟩
theorem quo_u64 {a h : Nat} (ha : a < 18446744073709551616) : IntKind.wrap .u64 ((((a / 65536 ^ h : Nat) : Int)).tdiv 65536) = ((a / 65536 ^ (h + 1) : Nat) : Int) := by
 have e : (((a / 65536 ^ h : Nat) : Int)).tdiv 65536 = ((a / 65536 ^ h / 65536 : Nat) : Int) := rfl
 have h1 := Nat.div_le_self a (65536 ^ h)
 rw [e, Nat.pow_succ, ← Nat.div_div_eq_div_mul, IntKind.wrap_u64]
 generalize a / 65536 ^ h = v at *
 omega
theorem quo_i64 {a b : Nat} (ha : a < 9223372036854775808) : IntKind.wrap .i64 ((a : Int).tdiv (b : Int)) = ((a / b : Nat) : Int) := by
 have e : ((a : Int)).tdiv (b : Int) = ((a / b : Nat) : Int) := rfl
 have h1 := Nat.div_le_self a b
 rw [e, IntKind.wrap_i64]
 generalize a / b = v at *
 omega
theorem dg_val {w : Nat → Nat} {n g k : Nat} (hw : Wf w n) (hg : g < n) (hk : k < 4) : dg (val w n) (4 * g + k) = w g / 65536 ^ k % 65536 := by
 have h := wd_val w n g hw hg
 unfold wd at h
 unfold dg
 rw [show 16 * (4 * g + k) = 64 * g + 16 * k by omega, Nat.pow_add, ← Nat.div_div_eq_div_mul, ← h]
 generalize val w n / 2 ^ (64 * g) = v
 match k, hk with
 | 0, _ => omega
 | 1, _ => show v / 65536 % 65536 = v % 18446744073709551616 / 65536 % 65536; omega
 | 2, _ => show v / 4294967296 % 65536 = v % 18446744073709551616 / 4294967296 % 65536; omega
 | 3, _ => show v / 281474976710656 % 65536 = v % 18446744073709551616 / 281474976710656 % 65536; omega
theorem val_dg {w : Nat → Nat} {n : Nat} (hw : Wf w n) : val w n < 2 ^ (16 * (4 * n)) := by
 rw [show 16 * (4 * n) = 64 * n by omega]; exact val_lt w n hw
theorem or3T {P Q R : Prop} [Decidable P] [Decidable Q] [Decidable R] (h : (bif (bif decide P then true else decide Q) then true else decide R) = true) : P ∨ Q ∨ R := by
 by_cases p : P
 ·exact .inl p
 ·by_cases q : Q
  ·exact .inr (.inl q)
  ·exact .inr (.inr (by simpa [p, q] using h))
theorem or3F {P Q R : Prop} [Decidable P] [Decidable Q] [Decidable R] (h : (bif (bif decide P then true else decide Q) then true else decide R) = false) : ¬ P ∧ ¬ Q ∧ ¬ R := by
 by_cases p : P
 ·simp [p] at h
 ·by_cases q : Q
  ·simp [p, q] at h
  ·exact ⟨p, q, by simpa [p, q] using h⟩
theorem mul_i64 {a b : Nat} (h : a * b < 9223372036854775808) : IntKind.wrap .i64 ((a : Int) * (b : Int)) = ((a * b : Nat) : Int) := by
 rw [← Int.natCast_mul, IntKind.wrap_i64]; omega
theorem pow_i64 {g : Nat} (h : g < 62) : IntKind.wrap .i64 ((2 : Int) * ((2 ^ g : Nat) : Int)) = ((2 ^ (g + 1) : Nat) : Int) := by
 have h1 : 2 ^ g ≤ 2 ^ 61 := Nat.pow_le_pow_right (by decide) zo
 have h2 : (2 : Nat) ^ 61 = 2305843009213693952 := by decide
 rw [Nat.pow_succ, IntKind.wrap_i64]; omega
theorem dg_shl {x k g j : Nat} (h : g = k / 16) : dg (x * 2 ^ (k % 16)) j = dg (x * 2 ^ k) (g + j) := by
 rw [dg_mul_pow (x := x) (k := k) (i := g + j), if_neg zo, show g + j - k / 16 = j by omega]
theorem dg_shl0 {x k g : Nat} (h : g < k / 16) : dg (x * 2 ^ k) g = 0 := by rw [dg_mul_pow, if_pos h]
theorem pow16_le {k : Nat} : 2 ^ (k % 16) ≤ 32768 := Nat.pow_le_pow_right (by decide) (show k % 16 ≤ 15 by omega)
def dn (g y i : Nat) : Nat := if g ≤ i then dg y i else 0
theorem dn_lo {g y i : Nat} (h : i < g) : dn g y i = 0 := if_neg zo
theorem dn_hi {g y i : Nat} (h : g ≤ i) : dn g y i = dg y i := if_pos h
theorem dn_ne {g y t : Nat} (h : t ≠ g - 1) : dn (g - 1) y t = dn g y t := by
 unfold dn
 by_cases e : g ≤ t
 ·rw [if_pos e, if_pos zo]
 ·rw [if_neg e, if_neg zo]
theorem half_at {x m g : Nat} (hm : 0 < m) (hg : 0 < g) : (x / 2 ^ (16 * g) % m * 65536 + dg x (g - 1)) % m = x / 2 ^ (16 * (g - 1)) % m ∧ (x / 2 ^ (16 * g) % m * 65536 + dg x (g - 1)) / m = dg (x / m) (g - 1) := by
 have h := half_step (x := x) hm (g - 1)
 rw [show g - 1 + 1 = g by omega] at h
 exact h
theorem nd_zero_div {y : Nat} : y / 2 ^ (16 * nd y) = 0 := Nat.div_eq_of_lt (lt_nd y)
theorem even_dg (x : Nat) : x % 2 = dg x 0 % 2 := by
 unfold dg
 simp only [Nat.mul_zero, Nat.pow_zero, Nat.div_one]
 omega
theorem nd_div (x y : Nat) : nd (x / y) ≤ nd x := nd_mono (Nat.div_le_self x y)
theorem nd_mod (x y : Nat) : nd (x % y) ≤ nd x := nd_mono (Nat.mod_le x y)
theorem nd_one : nd 1 = 1 := rfl
theorem nd_x2 (x : Nat) : nd (x * 2) ≤ nd x + 1 := by
 have := nd_mul x 2
 have : nd 2 = 1 := rfl
 omega
theorem sTrim {x n : Nat} (hn : n ≤ 68719476736) (hx : x < 2 ^ (16 * n)) : CallOK Tryz.prog 148 [.dgs x n] (.dgs x (nd x)) [] := by
 exact kP (ch := [.loop 2 (Nat) (fun g => g ≤ n ∧ x < 2 ^ (16 * g)) (fun g => g) (fun g => ⟨[(0, .dgs x n), (3, .ex (.int .i64 (g : Int)))], [], 0⟩) [] (fun _ => []) (fun g => [.reg 2 [(6, .k (g - 1))], .reg 5 [(3, .kk 0 g), (4, .row 0 (fun i0 => .ex (.int .i64 (dg x i0 : Int))))]])]) Tryz.func148 ((∀ j0, j0 < n → True) ∧ (((fun X1 X2 : Prop => ∃ g0 : Nat, X1 ∧ X2 ∧ ((n : Int) = (g0 : Int)) ∧ (g0 ≤ n ∧ x < 2 ^ (16 * g0))) _ _) ∧ ∀ g : Nat, (g ≤ n ∧ x < 2 ^ (16 * g)) → (((decide ((0 : Int) < (g : Int))) == true) = true → ((decide ((0 : Int) < (g : Int))) == true) = true) ∧ (((decide ((0 : Int) < (g : Int))) == true) = true → IntKind.wrap .i64 ((g : Int) - 1) = ((g : Int) - 1)) ∧ (((decide ((0 : Int) < (g : Int))) == true) = true → ((decide ((0 : Int) < (g : Int))) == true) = true) ∧ (((decide ((0 : Int) < (g : Int))) == true) = true → ((decide ((0 : Int) < (g : Int))) == true) = true) ∧ (((decide ((0 : Int) < (g : Int))) == true) = true → ((g : Int) - 1 : Int) = ((g - 1 : Nat) : Int)) ∧ (((decide ((0 : Int) < (g : Int))) == true) = true → (g - 1) < n) ∧ (((decide ((0 : Int) < (g : Int))) == true) = true → ((decide ((0 : Int) < (g : Int))) == true) = true) ∧ (((decide ((0 : Int) < (g : Int))) == true) = true → ((decide ((0 : Int) < (g : Int))) == true) = true) ∧ ((decide ((0 : Int) < (g : Int))) = true → ((decide ((0 : Int) < (g : Int))) == true) = true) ∧ (((bif (decide ((0 : Int) < (g : Int))) then (decide (((dg x (g - 1) : Nat) : Int) = 0)) else false) = true → (IntKind.wrap .i64 ((g : Int) - 1) = ((g : Int) - 1)) ∧ ((fun X1 X2 : Prop => ∃ g1 : Nat, X1 ∧ X2 ∧ (((g : Int) - 1 : Int) = (g1 : Int)) ∧ (g1 ≤ n ∧ x < 2 ^ (16 * g1)) ∧ (g1 < g)) _ _)) ∧ ((bif (decide ((0 : Int) < (g : Int))) then (decide (((dg x (g - 1) : Nat) : Int) = 0)) else false) = false → _ ∧ (g ≤ n) ∧ (g ≤ 68719476736) ∧ _ ∧ (((g : Nat) = (nd x)) ∧ _)))))
  ⟨(fun _ _ => trivial), ⟨n, (rf n), (leS (fun i0 => .ex (.int .i64 (dg x i0 : Int))) n), zo, Nat.le_refl _, hx⟩, fun g hg => have hg1 := hg.1; ⟨id, (fun hg => (by rw [IntKind.wrap_i64]; omega)), id, id, (fun hg => (by simp at hg; omega)), (fun hg => (by simp at hg; omega)), id, id, (by first | (simp; done) | (simp; omega)), fun hc16 => have hc := bifT hc16; ⟨(by rw [IntKind.wrap_i64]; omega), g - 1, (rf n), (leS (fun i0 => .ex (.int .i64 (dg x i0 : Int))) n), zo, ⟨by omega, nd_step (by rw [show g - 1 + 1 = g by omega]; exact hg.2) zo⟩, zo⟩, fun hc16 => have hc := bifF hc16; have hnd := nd_end hg.2 zo; ⟨(rf (g : Int)), zo, zo, (leS (fun i0 => .ex (.int .i64 (dg x i0 : Int))) g), hnd.symm, (leS (fun i0 => .ex (.int .i64 (dg x i0 : Int))) g)⟩⟩⟩
theorem sRefOf {w : Nat → Nat} {n : Nat} (hn : n ≤ 1073741824) (hw : Wf w n) : CallOK Tryz.prog 140 [.sl 1 (fun i0 => .ex (.int .u64 (w i0 : Int))) n] (.dgs (val w n) (nd (val w n))) [] := by
 exact kP (ch := [.loop 3 (Nat) (fun g => g ≤ n) (fun g => n - g) (fun g => ⟨[(0, .sl 1 (fun i0 => .ex (.int .u64 (w i0 : Int))) n), (3, .own 0 0), (4, .ex (.int .i64 (g : Int)))], [(0, .one (.row 3 1 (fun i0 => .ex (.int .i64 (dg (val w n) i0 : Int))) (4 * g)))], 1⟩) [(0, .nil)] (fun _ => [(0, .id 0)]) (fun g => [.reg 5 [(2, .k g)], .loop 7 (Nat) (fun h => h ≤ 4) (fun h => 4 - h) (fun h => ⟨[(0, .sl 1 (fun i0 => .ex (.int .u64 (w i0 : Int))) n), (3, .own 0 0), (4, .ex (.int .i64 (g : Int))), (5, .ex (.int .u64 ((w g / 65536 ^ h : Nat) : Int))), (6, .ex (.int .i64 (h : Int)))], [(0, .one (.row 3 1 (fun i0 => .ex (.int .i64 (dg (val w n) i0 : Int))) (4 * g + h)))], 1⟩) [(0, .id 0)] (fun _ => [(0, .id 1)]) (fun h => [.reg 9 [(2, .z (dg (val w n) (4 * g + h) : Int)), (3, .z (dg (val w n) (4 * g + h) : Int)), (5, .row 0 (fun i0 => .ex (.int .i64 (dg (val w n) i0 : Int))))], .reg 10 [(1, .z ((w g / 65536 ^ (h + 1) : Nat) : Int))], .reg 8 [(1, .z ((h + 1 : Nat) : Int))], .reg 4 [(1, .z ((g + 1 : Nat) : Int))]]), .conv 11 [] ⟨[(3, .dgs (val w n) (4 * g))], [], 1⟩, .reg 11 [(1, .callS (.dgs (val w n) (nd (val w n))) [])]])]) Tryz.func140 ((∀ j0, j0 < n → True) ∧ (((fun X1 X2 X3 : Prop => ∃ g0 : Nat, X1 ∧ X2 ∧ X3 ∧ ((0 : Int) = (g0 : Int)) ∧ ((4 * g0 : Nat) = 0) ∧ (g0 ≤ n)) _ _ _) ∧ ∀ g : Nat, (g ≤ n) → (((decide ((g : Int) < (n : Int))) = true → _ ∧ (g < n) ∧ (((fun X1 X2 X3 X4 X5 : Prop => ∃ h0 : Nat, X1 ∧ X2 ∧ X3 ∧ X4 ∧ (((w g : Nat) : Int) = ((w g / 65536 ^ h0 : Nat) : Int)) ∧ ((0 : Int) = (h0 : Int)) ∧ ((4 * g : Nat) = (4 * g + h0)) ∧ X5 ∧ (h0 ≤ 4)) _ _ _ _ _) ∧ ∀ h : Nat, (h ≤ 4) → (((decide ((h : Int) < 4)) = true → ((65536 : Int) ≠ 0) ∧ (((w g / 65536 ^ h : Nat) : Int).tmod 65536 = (((dg (val w n) (4 * g + h) : Nat) : Int))) ∧ (IntKind.wrap .i64 (dg (val w n) (4 * g + h) : Int) = (((dg (val w n) (4 * g + h) : Nat) : Int))) ∧ ((4 * g + h) + 1 ≤ 68719476736) ∧ _ ∧ _ ∧ ((65536 : Int) ≠ 0) ∧ (IntKind.wrap .u64 (((w g / 65536 ^ h : Nat) : Int).tdiv 65536) = (((w g / 65536 ^ (h + 1) : Nat) : Int))) ∧ _ ∧ ((fun X1 X2 X3 X4 X5 : Prop => ∃ h1 : Nat, X1 ∧ X2 ∧ X3 ∧ X4 ∧ (((w g / 65536 ^ (h + 1) : Nat) : Int) = ((w g / 65536 ^ h1 : Nat) : Int)) ∧ (((h + 1 : Nat) : Int) = (h1 : Int)) ∧ (((4 * g + h) + 1 : Nat) = (4 * g + h1)) ∧ X5 ∧ (h1 ≤ 4) ∧ (4 - h1 < 4 - h)) _ _ _ _ _)) ∧ ((decide ((h : Int) < 4)) = false → _ ∧ ((fun X1 X2 X3 X4 : Prop => ∃ g1 : Nat, X1 ∧ X2 ∧ X3 ∧ (((g + 1 : Nat) : Int) = (g1 : Int)) ∧ ((4 * g + h : Nat) = (4 * g1)) ∧ X4 ∧ (g1 ≤ n) ∧ (n - g1 < n - g)) _ _ _ _))))) ∧ ((decide ((g : Int) < (n : Int))) = false → _ ∧ _ ∧ _ ∧ (_ ∧ _)))))
  ⟨(fun _ _ => trivial), ⟨0, (rf n), (leS (fun i0 => .ex (.int .u64 (w i0 : Int))) n), (rf 0), zo, zo, zo⟩, fun g hg => ⟨fun hc10 => have hc10 := dT hc10; have hgn : g < n := zo; ⟨(rf (g : Int)), zo, ⟨0, (rf n), (leS (fun i0 => .ex (.int .u64 (w i0 : Int))) n), (rf 0), (rf (g : Int)), (by simp), zo, zo, (leS (fun i0 => .ex (.int .i64 (dg (val w n) i0 : Int))) (4 * g)), zo⟩, fun h hh => ⟨fun hc18 => have hc18 := dT hc18; have hwd := dg_val hw hgn (k := h) zo; have hd := dg_lt (val w n) (4 * g + h); ⟨(by decide), (by rw [hwd]; rfl), (by rw [IntKind.wrap_i64]; omega), zo, (oldS (fun i0 => .ex (.int .i64 (dg (val w n) i0 : Int))) (4 * g + h)), (newS (fun i0 => .ex (.int .i64 (dg (val w n) i0 : Int))) (4 * g + h)), (by decide), (quo_u64 (hw g hgn)), (wI (g := h) zo), h + 1, (rf n), (leS (fun i0 => .ex (.int .u64 (w i0 : Int))) n), (rf 0), (rf (g : Int)), zo, zo, zo, (leS (fun i0 => .ex (.int .i64 (dg (val w n) i0 : Int))) ((4 * g + h) + 1)), zo, zo⟩, fun hc18 => have hc18 := dF hc18; have hi3 : h = 4 := zo; ⟨(wI (g := g) zo), g + 1, (rf n), (leS (fun i0 => .ex (.int .u64 (w i0 : Int))) n), (rf 0), zo, zo, (leS (fun i0 => .ex (.int .i64 (dg (val w n) i0 : Int))) (4 * g + h)), zo, zo⟩⟩⟩, fun hc10 => have hc10 := dF hc10; have hi2 : g = n := zo; ⟨(rf (4 * g : Nat)), (leS (fun i0 => .ex (.int .i64 (dg (val w n) i0 : Int))) (4 * g)), sTrim (x := val w n) (n := 4 * g) zo (by subst hi2; exact val_dg hw), (rf (nd (val w n) : Nat)), (leS (fun i0 => .ex (.int .i64 (dg (val w n) i0 : Int))) (nd (val w n)))⟩⟩⟩
theorem sDigit {x k : Nat}  : CallOK Tryz.prog 143 [.dgs x (nd x), .ex (.int .i64 (k : Int))] (.ex (.int .i64 (dg x k : Int))) [] := by
 exact kP (ch := [.reg 3 [(2, .k k)]]) Tryz.func143 ((∀ j0, j0 < (nd x) → True) ∧ (((decide ((k : Int) < 0)) == false) = true → ((decide ((k : Int) < 0)) == false) = true) ∧ (((decide ((k : Int) < 0)) == false) = true → ((decide ((k : Int) < 0)) == false) = true) ∧ (((decide ((k : Int) < 0)) == false) = true → ((decide ((k : Int) < 0)) == false) = true) ∧ ((!(decide ((k : Int) < 0))) = true → ((decide ((k : Int) < 0)) == false) = true) ∧ (((bif (decide ((k : Int) < 0)) then true else (decide (((nd x : Nat) : Int) ≤ (k : Int)))) = true → (((0 : Int) = (dg x k : Int)))) ∧ ((bif (decide ((k : Int) < 0)) then true else (decide (((nd x : Nat) : Int) ≤ (k : Int)))) = false → _ ∧ (k < (nd x)) ∧ (_))))
  ⟨(fun _ _ => trivial), id, id, id, (by first | (simp; done) | (simp; omega)), fun hc12 => have hc := orT hc12; have hz := dg_nd (x := x) (i := k) zo; zo, fun hc12 => have hc := orF hc12; ⟨(rf (k : Int)), zo, (rf (dg x k : Int))⟩⟩
theorem sRefAdd {x y : Nat} (hx : nd x ≤ 17179869184) (hy : nd y ≤ 17179869184) : CallOK Tryz.prog 155 [.dgs x (nd x), .dgs y (nd y)] (.dgs (x + y) (nd (x + y))) [] := by
 exact kP (ch := [.loop 4 (Nat) (fun g => g ≤ max (nd x) (nd y) + 1) (fun g => max (nd x) (nd y) + 1 - g) (fun g => ⟨[(0, .dgs x (nd x)), (1, .dgs y (nd y)), (5, .own 0 0), (6, .ex (.int .i64 (cry x y g : Int))), (7, .ex (.int .i64 (g : Int)))], [(0, .one (.row 3 1 (fun i0 => .ex (.int .i64 (dg (x + y) i0 : Int))) g))], 1⟩) [(0, .nil)] (fun _ => [(0, .id 1)]) (fun g => [.reg 6 [(2, .callS (.ex (.int .i64 (dg x g : Int))) []), (5, .callS (.ex (.int .i64 (dg y g : Int))) []), (6, .z ((dg x g + dg y g : Nat) : Int)), (8, .z ((dg x g + dg y g + cry x y g : Nat) : Int))], .reg 7 [(2, .z (dg (x + y) g : Int)), (4, .row 0 (fun i0 => .ex (.int .i64 (dg (x + y) i0 : Int))))], .reg 8 [(1, .z (cry x y (g + 1) : Int))], .reg 5 [(1, .z ((g + 1 : Nat) : Int))], .conv 9 [] ⟨[(5, .dgs (x + y) g)], [], 1⟩, .reg 9 [(1, .callS (.dgs (x + y) (nd (x + y))) [])]])]) Tryz.func155 ((∀ j0, j0 < (nd x) → True) ∧ (∀ j0, j0 < (nd y) → True) ∧ (((fun X1 X2 X3 X4 X5 : Prop => ∃ g0 : Nat, X1 ∧ X2 ∧ X3 ∧ X4 ∧ X5 ∧ ((0 : Int) = (cry x y g0 : Int)) ∧ ((0 : Int) = (g0 : Int)) ∧ ((g0 : Nat) = 0) ∧ (g0 ≤ max (nd x) (nd y) + 1)) _ _ _ _ _) ∧ ∀ g : Nat, (g ≤ max (nd x) (nd y) + 1) → (((decide ((g : Int) < (nd x : Int))) == false) = true → ((decide ((g : Int) < (nd x : Int))) == false) = true) ∧ (((decide ((g : Int) < (nd x : Int))) == false) = true → ((decide ((g : Int) < (nd x : Int))) == false) = true) ∧ (((decide ((g : Int) < (nd x : Int))) == false) = true → ((decide ((g : Int) < (nd x : Int))) == false) = true) ∧ ((!(decide ((g : Int) < (nd x : Int)))) = true → ((decide ((g : Int) < (nd x : Int))) == false) = true) ∧ (((bif (decide ((g : Int) < (nd x : Int))) then true else (decide ((g : Int) < (nd y : Int)))) == false) = true → ((bif (decide ((g : Int) < (nd x : Int))) then true else (decide ((g : Int) < (nd y : Int)))) == false) = true) ∧ ((!(bif (decide ((g : Int) < (nd x : Int))) then true else (decide ((g : Int) < (nd y : Int))))) = true → ((bif (decide ((g : Int) < (nd x : Int))) then true else (decide ((g : Int) < (nd y : Int)))) == false) = true) ∧ (((bif (bif (decide ((g : Int) < (nd x : Int))) then true else (decide ((g : Int) < (nd y : Int)))) then true else (decide ((0 : Int) < (cry x y g : Int)))) = true → _ ∧ _ ∧ (IntKind.wrap .i64 (((dg x g : Nat) : Int) + (dg y g : Int)) = (((dg x g + dg y g : Nat) : Int))) ∧ (IntKind.wrap .i64 (((dg x g + dg y g : Nat) : Int) + (cry x y g : Int)) = (((dg x g + dg y g + cry x y g : Nat) : Int))) ∧ ((65536 : Int) ≠ 0) ∧ (((dg x g + dg y g + cry x y g : Nat) : Int).tmod 65536 = (((dg (x + y) g : Nat) : Int))) ∧ (g + 1 ≤ 68719476736) ∧ _ ∧ _ ∧ ((65536 : Int) ≠ 0) ∧ (IntKind.wrap .i64 (((dg x g + dg y g + cry x y g : Nat) : Int).tdiv 65536) = (((cry x y (g + 1) : Nat) : Int))) ∧ _ ∧ ((fun X1 X2 X3 X4 X5 X6 : Prop => ∃ g1 : Nat, X1 ∧ X2 ∧ X3 ∧ X4 ∧ X5 ∧ (((cry x y (g + 1) : Nat) : Int) = (cry x y g1 : Int)) ∧ (((g + 1 : Nat) : Int) = (g1 : Int)) ∧ ((g + 1 : Nat) = g1) ∧ X6 ∧ (g1 ≤ max (nd x) (nd y) + 1) ∧ (max (nd x) (nd y) + 1 - g1 < max (nd x) (nd y) + 1 - g)) _ _ _ _ _ _)) ∧ ((bif (bif (decide ((g : Int) < (nd x : Int))) then true else (decide ((g : Int) < (nd y : Int)))) then true else (decide ((0 : Int) < (cry x y g : Int)))) = false → _ ∧ _ ∧ _ ∧ (_ ∧ _)))))
  ⟨(fun _ _ => trivial), (fun _ _ => trivial), ⟨0, (rf (nd x : Nat)), (leS (fun i0 => .ex (.int .i64 (dg x i0 : Int))) (nd x)), (rf (nd y : Nat)), (leS (fun i0 => .ex (.int .i64 (dg y i0 : Int))) (nd y)), (rf 0), (by rw [cry_zero]; rfl), zo, zo, zo⟩, fun g hg => ⟨id, id, id, (by simp; done), id, (by simp; done), fun hc22 => have hc := or3T hc22; have ho : max (nd x) (nd y) < g → cry x y g = 0 := (fun h => cry_over zo zo); have h1 := dg_lt x g; have h2 := dg_lt y g; have h3 := cry_le x y g; ⟨sDigit (x := x) (k := g), sDigit (x := y) (k := g), (by rw [IntKind.wrap_i64]; omega), (by rw [IntKind.wrap_i64]; omega), (by decide), (by rw [← (cry_step x y g).2]; rfl), zo, (oldS (fun i0 => .ex (.int .i64 (dg (x + y) i0 : Int))) g), (newS (fun i0 => .ex (.int .i64 (dg (x + y) i0 : Int))) g), (by decide), (by rw [← (cry_step x y g).1]; exact quo_i64 zo), (wI (g := g) zo), g + 1, (rf (nd x : Nat)), (leS (fun i0 => .ex (.int .i64 (dg x i0 : Int))) (nd x)), (rf (nd y : Nat)), (leS (fun i0 => .ex (.int .i64 (dg y i0 : Int))) (nd y)), (rf 0), zo, zo, zo, (leS (fun i0 => .ex (.int .i64 (dg (x + y) i0 : Int))) (g + 1)), zo, zo⟩, fun hc22 => have hc := or3F hc22; ⟨(rf g), (leS (fun i0 => .ex (.int .i64 (dg (x + y) i0 : Int))) g), sTrim (x := x + y) (n := g) zo (cry_top zo zo zo), (rf (nd (x + y) : Nat)), (leS (fun i0 => .ex (.int .i64 (dg (x + y) i0 : Int))) (nd (x + y)))⟩⟩⟩
theorem sRefSub {x y : Nat} (hx : nd x ≤ 17179869184) (hyx : y ≤ x) : CallOK Tryz.prog 151 [.dgs x (nd x), .dgs y (nd y)] (.dgs (x - y) (nd (x - y))) [] := by
 have hy := nd_mono hyx
 exact kP (ch := [.loop 4 (Nat) (fun g => g ≤ nd x) (fun g => (nd x) - g) (fun g => ⟨[(0, .dgs x (nd x)), (1, .dgs y (nd y)), (5, .own 0 0), (6, .ex (.int .i64 (brw x y g : Int))), (7, .ex (.int .i64 (g : Int)))], [(0, .one (.row 3 1 (fun i0 => .ex (.int .i64 (dg (x - y) i0 : Int))) g))], 1⟩) [(0, .nil)] (fun _ => [(0, .id 1)]) (fun g => [.reg 6 [(2, .k g), (6, .callS (.ex (.int .i64 (dg y g : Int))) [])], .reg 9 [(1, .z (dg (x - y) g : Int))], .reg 11 [(3, .row 0 (fun i0 => .ex (.int .i64 (dg (x - y) i0 : Int))))], .reg 5 [(1, .z ((g + 1 : Nat) : Int))], .reg 11 [(3, .row 0 (fun i0 => .ex (.int .i64 (dg (x - y) i0 : Int))))], .reg 5 [(1, .z ((g + 1 : Nat) : Int))], .conv 12 [] ⟨[(5, .dgs (x - y) g)], [], 1⟩, .reg 12 [(1, .callS (.dgs (x - y) (nd (x - y))) [])]])]) Tryz.func151 ((∀ j0, j0 < (nd x) → True) ∧ (∀ j0, j0 < (nd y) → True) ∧ (((fun X1 X2 X3 X4 X5 : Prop => ∃ g0 : Nat, X1 ∧ X2 ∧ X3 ∧ X4 ∧ X5 ∧ ((0 : Int) = (brw x y g0 : Int)) ∧ ((0 : Int) = (g0 : Int)) ∧ ((g0 : Nat) = 0) ∧ (g0 ≤ nd x)) _ _ _ _ _) ∧ ∀ g : Nat, (g ≤ nd x) → (((decide ((g : Int) < (nd x : Int))) = true → _ ∧ (g < (nd x)) ∧ _ ∧ (IntKind.wrap .i64 (((dg x g : Nat) : Int) - (dg y g : Int)) = (((dg x g : Nat) : Int) - (dg y g : Int))) ∧ (IntKind.wrap .i64 (((dg x g : Int) - (dg y g : Int) : Int) - (brw x y g : Int)) = (((dg x g : Int) - (dg y g : Int) : Int) - (brw x y g : Int))) ∧ (((decide (((((dg x g : Nat) : Int) - (dg y g : Int) : Int) - (brw x y g : Int) : Int) < 0)) = true → (IntKind.wrap .i64 (((((dg x g : Nat) : Int) - (dg y g : Int) : Int) - (brw x y g : Int) : Int) + 65536) = (((dg (x - y) g : Nat) : Int))) ∧ (g + 1 ≤ 68719476736) ∧ _ ∧ (∀ j0, j0 < 1 → (((dg (x - y) g : Nat) : Int) = (dg (x - y) (g + j0) : Int))) ∧ _ ∧ ((fun X1 X2 X3 X4 X5 X6 : Prop => ∃ g1 : Nat, X1 ∧ X2 ∧ X3 ∧ X4 ∧ X5 ∧ ((1 : Int) = (brw x y g1 : Int)) ∧ (((g + 1 : Nat) : Int) = (g1 : Int)) ∧ ((g + 1 : Nat) = g1) ∧ X6 ∧ (g1 ≤ nd x) ∧ ((nd x) - g1 < (nd x) - g)) _ _ _ _ _ _)) ∧ ((decide (((((dg x g : Nat) : Int) - (dg y g : Int) : Int) - (brw x y g : Int) : Int) < 0)) = false → (g + 1 ≤ 68719476736) ∧ _ ∧ (∀ j0, j0 < 1 → (((((dg x g : Nat) : Int) - (dg y g : Int) : Int) - (brw x y g : Int) : Int) = (dg (x - y) (g + j0) : Int))) ∧ _ ∧ ((fun X1 X2 X3 X4 X5 X6 : Prop => ∃ g1 : Nat, X1 ∧ X2 ∧ X3 ∧ X4 ∧ X5 ∧ ((0 : Int) = (brw x y g1 : Int)) ∧ (((g + 1 : Nat) : Int) = (g1 : Int)) ∧ ((g + 1 : Nat) = g1) ∧ X6 ∧ (g1 ≤ nd x) ∧ ((nd x) - g1 < (nd x) - g)) _ _ _ _ _ _)))) ∧ ((decide ((g : Int) < (nd x : Int))) = false → _ ∧ _ ∧ _ ∧ (_ ∧ _)))))
  ⟨(fun _ _ => trivial), (fun _ _ => trivial), ⟨0, (rf (nd x : Nat)), (leS (fun i0 => .ex (.int .i64 (dg x i0 : Int))) (nd x)), (rf (nd y : Nat)), (leS (fun i0 => .ex (.int .i64 (dg y i0 : Int))) (nd y)), (rf 0), (by rw [brw_zero]; rfl), zo, zo, zo⟩, fun g hg => ⟨fun hc12 => have hc12 := dT hc12; have h1 := dg_lt x g; have h2 := dg_lt y g; have h3 := brw_le x y g; have h4 := brw_step hyx g; ⟨(rf (g : Int)), zo, sDigit (x := y) (k := g), (by rw [IntKind.wrap_i64]; omega), (by rw [IntKind.wrap_i64]; omega), fun hc26 => have hc26 := dT hc26; have hb := h4.1 zo; ⟨(by rw [IntKind.wrap_i64]; omega), zo, (oldS (fun i0 => .ex (.int .i64 (dg (x - y) i0 : Int))) g), (fun j0 hj0 => (by obtain rfl : j0 = 0 := zo; show _ = (dg (x - y) g : Int); omega)), (wI (g := g) zo), g + 1, (rf (nd x : Nat)), (leS (fun i0 => .ex (.int .i64 (dg x i0 : Int))) (nd x)), (rf (nd y : Nat)), (leS (fun i0 => .ex (.int .i64 (dg y i0 : Int))) (nd y)), (rf 0), zo, zo, zo, (leS (fun i0 => .ex (.int .i64 (dg (x - y) i0 : Int))) (g + 1)), zo, zo⟩, fun hc26 => have hc26 := dF hc26; have hb := h4.2 zo; ⟨zo, (oldS (fun i0 => .ex (.int .i64 (dg (x - y) i0 : Int))) g), (fun j0 hj0 => (by obtain rfl : j0 = 0 := zo; show _ = (dg (x - y) g : Int); omega)), (wI (g := g) zo), g + 1, (rf (nd x : Nat)), (leS (fun i0 => .ex (.int .i64 (dg x i0 : Int))) (nd x)), (rf (nd y : Nat)), (leS (fun i0 => .ex (.int .i64 (dg y i0 : Int))) (nd y)), (rf 0), zo, zo, zo, (leS (fun i0 => .ex (.int .i64 (dg (x - y) i0 : Int))) (g + 1)), zo, zo⟩⟩, fun hc12 => have hc12 := dF hc12; have hi2 : g = nd x := zo; ⟨(rf g), (leS (fun i0 => .ex (.int .i64 (dg (x - y) i0 : Int))) g), sTrim (x := x - y) (n := g) zo (lt_nd_of (by have := nd_mono (Nat.sub_le x y); omega)), (rf (nd (x - y) : Nat)), (leS (fun i0 => .ex (.int .i64 (dg (x - y) i0 : Int))) (nd (x - y)))⟩⟩⟩
theorem sSmall {x m a : Nat} (hx : nd x ≤ 17179869184) (hm : m ≤ 65536) (ha : a ≤ 65536) : CallOK Tryz.prog 153 [.dgs x (nd x), .ex (.int .i64 (m : Int)), .ex (.int .i64 (a : Int))] (.dgs (x * m + a) (nd (x * m + a))) [] := by
 have hce := cryM_end (m := m) (a := a) (lt_nd x) zo
 exact kP (ch := [.loop 4 (Nat) (fun g => g ≤ nd x) (fun g => (nd x) - g) (fun g => ⟨[(0, .dgs x (nd x)), (1, .ex (.int .i64 (m : Int))), (7, .own 0 0), (8, .ex (.int .i64 (cryM x m a g : Int))), (9, .ex (.int .i64 (g : Int)))], [(0, .one (.row 3 1 (fun i0 => .ex (.int .i64 (dg (x * m + a) i0 : Int))) g))], 1⟩) [(0, .nil)] (fun _ => [(0, .id 1)]) (fun g => [.reg 6 [(2, .k g), (5, .z ((dg x g * m : Nat) : Int)), (7, .z ((dg x g * m + cryM x m a g : Nat) : Int))], .reg 7 [(2, .z (dg (x * m + a) g : Int)), (4, .row 0 (fun i0 => .ex (.int .i64 (dg (x * m + a) i0 : Int))))], .reg 8 [(1, .z (cryM x m a (g + 1) : Int))], .reg 5 [(1, .z ((g + 1 : Nat) : Int))], .reg 9 [(2, .z (dg (x * m + a) g : Int)), (4, .z (dg (x * m + a) (g + 1) : Int)), (5, .row 0 (fun i0 => .ex (.int .i64 (dg (x * m + a) (g + i0) : Int)))), (6, .row 0 (fun i0 => .ex (.int .i64 (dg (x * m + a) i0 : Int))))], .conv 10 [] ⟨[(7, .dgs (x * m + a) (g + 2))], [], 3⟩, .reg 10 [(1, .callS (.dgs (x * m + a) (nd (x * m + a))) [])]])]) Tryz.func153 ((∀ j0, j0 < (nd x) → True) ∧ (((fun X1 X2 X3 X4 : Prop => ∃ g0 : Nat, X1 ∧ X2 ∧ X3 ∧ X4 ∧ ((a : Int) = (cryM x m a g0 : Int)) ∧ ((0 : Int) = (g0 : Int)) ∧ ((g0 : Nat) = 0) ∧ (g0 ≤ nd x)) _ _ _ _) ∧ ∀ g : Nat, (g ≤ nd x) → (((decide ((g : Int) < (nd x : Int))) = true → _ ∧ (g < (nd x)) ∧ (IntKind.wrap .i64 (((dg x g : Nat) : Int) * (m : Int)) = (((dg x g * m : Nat) : Int))) ∧ (IntKind.wrap .i64 (((dg x g * m : Nat) : Int) + (cryM x m a g : Int)) = (((dg x g * m + cryM x m a g : Nat) : Int))) ∧ ((65536 : Int) ≠ 0) ∧ (((dg x g * m + cryM x m a g : Nat) : Int).tmod 65536 = (((dg (x * m + a) g : Nat) : Int))) ∧ (g + 1 ≤ 68719476736) ∧ _ ∧ _ ∧ ((65536 : Int) ≠ 0) ∧ (IntKind.wrap .i64 (((dg x g * m + cryM x m a g : Nat) : Int).tdiv 65536) = (((cryM x m a (g + 1) : Nat) : Int))) ∧ _ ∧ ((fun X1 X2 X3 X4 X5 : Prop => ∃ g1 : Nat, X1 ∧ X2 ∧ X3 ∧ X4 ∧ (((cryM x m a (g + 1) : Nat) : Int) = (cryM x m a g1 : Int)) ∧ (((g + 1 : Nat) : Int) = (g1 : Int)) ∧ ((g + 1 : Nat) = g1) ∧ X5 ∧ (g1 ≤ nd x) ∧ ((nd x) - g1 < (nd x) - g)) _ _ _ _ _)) ∧ ((decide ((g : Int) < (nd x : Int))) = false → ((65536 : Int) ≠ 0) ∧ (((cryM x m a g : Nat) : Int).tmod 65536 = (((dg (x * m + a) g : Nat) : Int))) ∧ ((65536 : Int) ≠ 0) ∧ (IntKind.wrap .i64 (((cryM x m a g : Nat) : Int).tdiv 65536) = (((dg (x * m + a) (g + 1) : Nat) : Int))) ∧ (((dg (x * m + a) g : Nat) : Int) = (dg (x * m + a) (g + 0) : Int)) ∧ _ ∧ (g + 2 ≤ 68719476736) ∧ _ ∧ (∀ j0, j0 < 2 → (((dg (x * m + a) (g + j0) : Nat) : Int) = (dg (x * m + a) (g + j0) : Int))) ∧ _ ∧ _ ∧ _ ∧ (_ ∧ _)))))
  ⟨(fun _ _ => trivial), ⟨0, (rf (nd x : Nat)), (leS (fun i0 => .ex (.int .i64 (dg x i0 : Int))) (nd x)), (rf (m : Int)), (rf 0), (by rw [cryM_zero]), zo, zo, zo⟩, fun g hg => have h3 := cryM_le (x := x) (m := m) (a := a) (g := g); ⟨fun hc15 => have hc15 := dT hc15; have h1 := dgm_le (x := x) (i := g) hm; ⟨(rf (g : Int)), zo, (mul_i64 zo), (by rw [IntKind.wrap_i64]; omega), (by decide), (by rw [← (cryM_step x m a g).2]; rfl), zo, (oldS (fun i0 => .ex (.int .i64 (dg (x * m + a) i0 : Int))) g), (newS (fun i0 => .ex (.int .i64 (dg (x * m + a) i0 : Int))) g), (by decide), (by rw [← (cryM_step x m a g).1]; exact quo_i64 zo), (wI (g := g) zo), g + 1, (rf (nd x : Nat)), (leS (fun i0 => .ex (.int .i64 (dg x i0 : Int))) (nd x)), (rf (m : Int)), (rf 0), zo, zo, zo, (leS (fun i0 => .ex (.int .i64 (dg (x * m + a) i0 : Int))) (g + 1)), zo, zo⟩, fun hc15 => have hc15 := dF hc15; have hi2 : g = nd x := zo; ⟨(by decide), (by subst hi2; rw [← hce.2.1]; rfl), (by decide), (by subst hi2; rw [← hce.2.2]; exact quo_i64 zo), rfl, (rf (dg (x * m + a) (g + 1) : Int)), zo, (oldS (fun i0 => .ex (.int .i64 (dg (x * m + a) i0 : Int))) g), (fun j0 hj0 => rfl), (rf (g + 2 : Nat)), (leS (fun i0 => .ex (.int .i64 (dg (x * m + a) i0 : Int))) (g + 2)), sTrim (x := x * m + a) (n := g + 2) zo (by subst hi2; exact hce.1), (rf (nd (x * m + a) : Nat)), (leS (fun i0 => .ex (.int .i64 (dg (x * m + a) i0 : Int))) (nd (x * m + a)))⟩⟩⟩
theorem sSmall0 {x m : Nat} (hx : nd x ≤ 17179869184) (hm : m ≤ 65536) : CallOK Tryz.prog 153 [.dgs x (nd x), .ex (.int .i64 (m : Int)), .ex (.int .i64 0)] (.dgs (x * m) (nd (x * m))) [] := sSmall (a := 0) hx hm zo
theorem sPower {k : Nat} (hk : k ≤ 60) : CallOK Tryz.prog 164 [.ex (.int .i64 (k : Int))] (.ex (.int .i64 ((2 ^ k : Nat) : Int))) [] := by
 exact kP (ch := [.loop 3 (Nat) (fun g => g ≤ k) (fun g => k - g) (fun g => ⟨[(0, .ex (.int .i64 (k : Int))), (3, .ex (.int .i64 ((2 ^ g : Nat) : Int))), (4, .ex (.int .i64 (g : Int)))], [], 0⟩) [] (fun _ => []) (fun g => [.reg 5 [(1, .z ((2 ^ (g + 1) : Nat) : Int))], .reg 4 [(1, .z ((g + 1 : Nat) : Int))]])]) Tryz.func164 ((((fun X1 : Prop => ∃ g0 : Nat, X1 ∧ ((1 : Int) = ((2 ^ g0 : Nat) : Int)) ∧ ((0 : Int) = (g0 : Int)) ∧ (g0 ≤ k)) _) ∧ ∀ g : Nat, (g ≤ k) → (((decide ((g : Int) < (k : Int))) = true → (IntKind.wrap .i64 ((2 : Int) * ((2 ^ g : Nat) : Int)) = (((2 ^ (g + 1) : Nat) : Int))) ∧ _ ∧ ((fun X1 : Prop => ∃ g1 : Nat, X1 ∧ (((2 ^ (g + 1) : Nat) : Int) = ((2 ^ g1 : Nat) : Int)) ∧ (((g + 1 : Nat) : Int) = (g1 : Int)) ∧ (g1 ≤ k) ∧ (k - g1 < k - g)) _)) ∧ ((decide ((g : Int) < (k : Int))) = false → ((((2 ^ g : Nat) : Int) = ((2 ^ k : Nat) : Int)))))))
  ⟨⟨0, (rf (k : Int)), rfl, zo, zo⟩, fun g hg => ⟨fun hc7 => have hc7 := dT hc7; ⟨(pow_i64 zo), (wI (g := g) zo), g + 1, (rf (k : Int)), zo, zo, zo, zo⟩, fun hc7 => have hc7 := dF hc7; have hi2 : g = k := zo; (by rw [hi2])⟩⟩
theorem sRefShl {x k : Nat} (hx : nd x ≤ 8589934592) (hk : k ≤ 34359738368) : CallOK Tryz.prog 152 [.dgs x (nd x), .ex (.int .i64 (k : Int))] (.dgs (x * 2 ^ k) (nd (x * 2 ^ k))) [] := by
 have hp := pow16_le (k := k)
 have hq := nd_mul x (2 ^ (k % 16))
 rw [nd_pow] at hq
 exact kP (ch := [.loop 3 (Nat) (fun g => g ≤ k / 16) (fun g => (k / 16) - g) (fun g => ⟨[(0, .dgs x (nd x)), (1, .ex (.int .i64 (k : Int))), (5, .own 0 0), (6, .ex (.int .i64 (g : Int)))], [(0, .one (.row 3 1 (fun i0 => .ex (.int .i64 (dg (x * 2 ^ k) i0 : Int))) g))], 1⟩) [(0, .nil)] (fun _ => [(0, .id 1)]) (fun g => [.reg 3 [(2, .z ((k / 16 : Nat) : Int))], .reg 5 [(2, .row 0 (fun i0 => .ex (.int .i64 (dg (x * 2 ^ k) i0 : Int))))], .reg 4 [(1, .z ((g + 1 : Nat) : Int))], .reg 6 [(3, .z ((k % 16 : Nat) : Int)), (4, .callS (.ex (.int .i64 ((2 ^ (k % 16) : Nat) : Int))) []), (5, .callS (.dgs (x * (2 ^ (k % 16))) (nd (x * (2 ^ (k % 16))))) []), (6, .row 0 (fun i0 => .ex (.int .i64 (dg (x * 2 ^ k) i0 : Int))))], .conv 7 [] ⟨[(5, .dgs (x * 2 ^ k) (g + nd (x * 2 ^ (k % 16))))], [], 3⟩, .reg 7 [(1, .callS (.dgs (x * 2 ^ k) (nd (x * 2 ^ k))) [])]])]) Tryz.func152 ((∀ j0, j0 < (nd x) → True) ∧ (((fun X1 X2 X3 X4 : Prop => ∃ g0 : Nat, X1 ∧ X2 ∧ X3 ∧ X4 ∧ ((0 : Int) = (g0 : Int)) ∧ ((g0 : Nat) = 0) ∧ (g0 ≤ k / 16)) _ _ _ _) ∧ ∀ g : Nat, (g ≤ k / 16) → ((16 : Int) ≠ 0) ∧ (IntKind.wrap .i64 ((k : Int).tdiv 16) = (((k / 16 : Nat) : Int))) ∧ (((decide ((g : Int) < ((k / 16 : Nat) : Int))) = true → (g + 1 ≤ 68719476736) ∧ _ ∧ (∀ j0, j0 < 1 → ((0 : Int) = (dg (x * 2 ^ k) (g + j0) : Int))) ∧ _ ∧ ((fun X1 X2 X3 X4 X5 : Prop => ∃ g1 : Nat, X1 ∧ X2 ∧ X3 ∧ X4 ∧ (((g + 1 : Nat) : Int) = (g1 : Int)) ∧ ((g + 1 : Nat) = g1) ∧ X5 ∧ (g1 ≤ k / 16) ∧ ((k / 16) - g1 < (k / 16) - g)) _ _ _ _ _)) ∧ ((decide ((g : Int) < ((k / 16 : Nat) : Int))) = false → ((16 : Int) ≠ 0) ∧ ((k : Int).tmod 16 = (((k % 16 : Nat) : Int))) ∧ _ ∧ _ ∧ (g + (nd (x * (2 ^ (k % 16)))) ≤ 68719476736) ∧ _ ∧ (∀ j0, j0 < (nd (x * (2 ^ (k % 16)))) → (((dg (x * (2 ^ (k % 16))) j0 : Nat) : Int) = (dg (x * 2 ^ k) (g + j0) : Int))) ∧ ((g + (nd (x * (2 ^ (k % 16)))) : Nat) = (g + nd (x * 2 ^ (k % 16)))) ∧ _ ∧ _ ∧ (_ ∧ _)))))
  ⟨(fun _ _ => trivial), ⟨0, (rf (nd x : Nat)), (leS (fun i0 => .ex (.int .i64 (dg x i0 : Int))) (nd x)), (rf (k : Int)), (rf 0), zo, zo, zo⟩, fun g hg => ⟨(by decide), (quo_i64 zo), fun hc10 => have hc10 := dT hc10; ⟨zo, (oldS (fun i0 => .ex (.int .i64 (dg (x * 2 ^ k) i0 : Int))) g), (fun j0 hj0 => (by rw [show j0 = 0 by omega, Nat.add_zero, dg_shl0 zo]; rfl)), (wI (g := g) zo), g + 1, (rf (nd x : Nat)), (leS (fun i0 => .ex (.int .i64 (dg x i0 : Int))) (nd x)), (rf (k : Int)), (rf 0), zo, zo, (leS (fun i0 => .ex (.int .i64 (dg (x * 2 ^ k) i0 : Int))) (g + 1)), zo, zo⟩, fun hc10 => have hc10 := dF hc10; have hi2 : g = k / 16 := zo; ⟨(by decide), rfl, sPower (k := k % 16) zo, sSmall0 (x := x) (m := 2 ^ (k % 16)) zo zo, zo, (oldS (fun i0 => .ex (.int .i64 (dg (x * 2 ^ k) i0 : Int))) g), (fun j0 hj0 => (by rw [dg_shl hi2])), zo, (leS (fun i0 => .ex (.int .i64 (dg (x * 2 ^ k) i0 : Int))) (g + (nd (x * (2 ^ (k % 16)))))), sTrim (x := x * 2 ^ k) (n := g + nd (x * 2 ^ (k % 16))) zo (by subst hi2; exact mul_pow_lt), (rf (nd (x * 2 ^ k) : Nat)), (leS (fun i0 => .ex (.int .i64 (dg (x * 2 ^ k) i0 : Int))) (nd (x * 2 ^ k)))⟩⟩⟩
theorem sHalf {x m : Nat} (hx : nd x ≤ 17179869184) (hm0 : 0 < m) (hm : m ≤ 65536) : CallOK Tryz.prog 163 [.dgs x (nd x), .ex (.int .i64 (m : Int))] (.cn (.dgs (x / m) (nd (x / m))) (.cn (.ex (.int .i64 ((x % m : Nat) : Int))) (.nl))) [] := by
 exact kP (ch := [.reg 1 [(2, .row (nd x) (fun _ => .ex (.int .i64 0)))], .loop 4 (Nat) (fun g => g ≤ nd x) (fun g => g) (fun g => ⟨[(0, .dgs x (nd x)), (1, .ex (.int .i64 (m : Int))), (6, .own 0 0), (7, .ex (.int .i64 ((x / 2 ^ (16 * g) % m : Nat) : Int))), (8, .ex (.int .i64 ((g : Int) - 1)))], [(0, .one (.row 3 1 (fun i0 => .ex (.int .i64 (dn g (x / m) i0 : Int))) (nd x)))], 1⟩) [(0, .id 0)] (fun _ => [(0, .id 0)]) (fun g => [.reg 6 [(1, .z ((x / 2 ^ (16 * g) % m * 65536 : Nat) : Int)), (4, .k (g - 1)), (6, .z ((x / 2 ^ (16 * g) % m * 65536 + dg x (g - 1) : Nat) : Int))], .reg 7 [(4, .z (dg (x / m) (g - 1) : Int)), (5, .k (g - 1)), (6, .row 0 (fun i0 => .ex (.int .i64 (dn (g - 1) (x / m) i0 : Int))))], .reg 8 [(2, .z ((x / 2 ^ (16 * (g - 1)) % m : Nat) : Int))], .conv 9 [] ⟨[(6, .dgs (x / m) (nd x)), (7, .ex (.int .i64 ((x % m : Nat) : Int)))], [], 1⟩, .reg 9 [(1, .callS (.dgs (x / m) (nd (x / m))) [])]])]) Tryz.func163 ((∀ j0, j0 < (nd x) → True) ∧ _ ∧ _ ∧ ((nd x) ≤ 68719476736) ∧ (∀ j0, j0 < (nd x) → ((0 : Int) = 0)) ∧ (IntKind.wrap .i64 (((nd x : Nat) : Int) - 1) = (((nd x : Nat) : Int) - 1)) ∧ (((fun X1 X2 X3 X4 X5 : Prop => ∃ g0 : Nat, X1 ∧ X2 ∧ X3 ∧ X4 ∧ ((0 : Int) = ((x / 2 ^ (16 * g0) % m : Nat) : Int)) ∧ (((nd x : Int) - 1 : Int) = ((g0 : Int) - 1)) ∧ X5 ∧ (∀ j0, j0 < (nd x) → ((0 : Int) = (dn g0 (x / m) j0 : Int))) ∧ (g0 ≤ nd x)) _ _ _ _ _) ∧ ∀ g : Nat, (g ≤ nd x) → (((decide ((0 : Int) ≤ ((g : Int) - 1))) = true → (IntKind.wrap .i64 (((x / 2 ^ (16 * g) % m : Nat) : Int) * 65536) = (((x / 2 ^ (16 * g) % m * 65536 : Nat) : Int))) ∧ (((g : Int) - 1 : Int) = ((g - 1 : Nat) : Int)) ∧ ((g - 1) < (nd x)) ∧ (IntKind.wrap .i64 (((x / 2 ^ (16 * g) % m * 65536 : Nat) : Int) + (dg x (g - 1) : Int)) = (((x / 2 ^ (16 * g) % m * 65536 + dg x (g - 1) : Nat) : Int))) ∧ ((m : Int) ≠ 0) ∧ (IntKind.wrap .i64 (((x / 2 ^ (16 * g) % m * 65536 + dg x (g - 1) : Nat) : Int).tdiv (m : Int)) = (((dg (x / m) (g - 1) : Nat) : Int))) ∧ (((g : Int) - 1 : Int) = ((g - 1 : Nat) : Int)) ∧ ((g - 1) < (nd x)) ∧ ((g - 1) < (nd x)) ∧ (((dg (x / m) (g - 1) : Int) = (dn (g - 1) (x / m) (g - 1) : Int))) ∧ (∀ t, t < (nd x) → t ≠ (g - 1) → (.ex (.int .i64 (dn (g - 1) (x / m) t : Int)) : SV) = .ex (.int .i64 (dn g (x / m) t : Int))) ∧ ((m : Int) ≠ 0) ∧ (((x / 2 ^ (16 * g) % m * 65536 + dg x (g - 1) : Nat) : Int).tmod (m : Int) = (((x / 2 ^ (16 * (g - 1)) % m : Nat) : Int))) ∧ (IntKind.wrap .i64 (((g : Int) - 1 : Int) - 1) = (((g : Int) - 1 : Int) - 1)) ∧ ((fun X1 X2 X3 X4 X5 : Prop => ∃ g1 : Nat, X1 ∧ X2 ∧ X3 ∧ X4 ∧ (((x / 2 ^ (16 * (g - 1)) % m : Nat) : Int) = ((x / 2 ^ (16 * g1) % m : Nat) : Int)) ∧ ((((g : Int) - 1 : Int) - 1 : Int) = ((g1 : Int) - 1)) ∧ X5 ∧ (∀ j0, j0 < (nd x) → (((dn (g - 1) (x / m) j0 : Nat) : Int) = (dn g1 (x / m) j0 : Int))) ∧ (g1 ≤ nd x) ∧ (g1 < g)) _ _ _ _ _)) ∧ ((decide ((0 : Int) ≤ ((g : Int) - 1))) = false → _ ∧ (∀ j0, j0 < (nd x) → (((dn g (x / m) j0 : Nat) : Int) = (dg (x / m) j0 : Int))) ∧ (((x / 2 ^ (16 * g) % m : Nat) : Int) = ((x % m : Nat) : Int)) ∧ _ ∧ (_ ∧ _ ∧ _)))))
  ⟨(fun _ _ => trivial), (rf (nd x : Int)), (rf (nd x : Int)), zo, (fun j0 hj0 => rfl), (by rw [IntKind.wrap_i64]; omega), ⟨nd x, (rf (nd x : Nat)), (leS (fun i0 => .ex (.int .i64 (dg x i0 : Int))) (nd x)), (rf (m : Int)), (rf 0), (by rw [nd_zero_div, Nat.zero_mod]; rfl), zo, (rf (nd x : Nat)), (fun j0 hj0 => (by rw [dn_lo zo]; rfl)), zo⟩, fun g hg => ⟨fun hc17 => have hc17 := dT hc17; have hA := Nat.mod_lt (x / 2 ^ (16 * g)) hm0; have hD := dg_lt x (g - 1); have hst := half_at (x := x) hm0 (g := g) zo; ⟨(by rw [IntKind.wrap_i64]; omega), zo, zo, (by rw [IntKind.wrap_i64]; omega), zo, (by rw [← hst.2]; exact quo_i64 zo), zo, zo, zo, (by rw [dn_hi (Nat.le_refl _)]), (fun t ht hne => by rw [dn_ne hne]), zo, (by rw [← hst.1]; rfl), (by rw [IntKind.wrap_i64]; omega), g - 1, (rf (nd x : Nat)), (leS (fun i0 => .ex (.int .i64 (dg x i0 : Int))) (nd x)), (rf (m : Int)), (rf 0), zo, zo, (rf (nd x : Nat)), (fun j0 hj0 => zo), zo, zo⟩, fun hc17 => have hc17 := dF hc17; have hi2 : g = 0 := zo; ⟨(rf (nd x : Nat)), (fun j0 hj0 => (by rw [dn_hi zo])), (by rw [hi2]; simp), sTrim (x := x / m) (n := nd x) zo (lt_nd_of (nd_div x m)), (rf (nd (x / m) : Nat)), (leS (fun i0 => .ex (.int .i64 (dg (x / m) i0 : Int))) (nd (x / m))), (rf ((x % m : Nat) : Int))⟩⟩⟩
theorem sRefBits {x : Nat} (hx : nd x ≤ 17179869184) : CallOK Tryz.prog 99 [.dgs x (nd x)] (.ex (.int .i64 (Wd.blen x : Int))) [] := by
 have hbn : Wd.blen x ≤ 16 * nd x := by unfold nd; omega
 exact kP (ch := [.reg 3 [(2, .z ((nd x - 1 : Nat) : Int)), (3, .z ((16 * (nd x - 1) : Nat) : Int))], .reg 4 [(3, .z ((nd x - 1 : Nat) : Int)), (4, .k (nd x - 1))], .loop 5 (Nat) (fun g => g < 65536 ∧ Wd.blen g ≤ Wd.blen x) (fun g => g) (fun g => ⟨[(3, .ex (.int .i64 ((Wd.blen x - Wd.blen g : Nat) : Int))), (4, .ex (.int .i64 (g : Int)))], [], 0⟩) [] (fun _ => []) (fun g => [.reg 7 [(1, .z ((Wd.blen x - Wd.blen g + 1 : Nat) : Int))], .reg 6 [(1, .z ((g / 2 : Nat) : Int))]])]) Tryz.func99 ((∀ j0, j0 < (nd x) → True) ∧ (((decide (((nd x : Nat) : Int) = 0)) = true → (((0 : Int) = (Wd.blen x : Int)))) ∧ ((decide (((nd x : Nat) : Int) = 0)) = false → (IntKind.wrap .i64 (((nd x : Nat) : Int) - 1) = (((nd x - 1 : Nat) : Int))) ∧ (IntKind.wrap .i64 ((16 : Int) * ((nd x - 1 : Nat) : Int)) = (((16 * (nd x - 1) : Nat) : Int))) ∧ (IntKind.wrap .i64 (((nd x : Nat) : Int) - 1) = (((nd x - 1 : Nat) : Int))) ∧ _ ∧ ((nd x - 1) < (nd x)) ∧ ((∃ g0 : Nat, (((16 * (nd x - 1) : Nat) : Int) = ((Wd.blen x - Wd.blen g0 : Nat) : Int)) ∧ (((dg x (nd x - 1) : Nat) : Int) = (g0 : Int)) ∧ (g0 < 65536 ∧ Wd.blen g0 ≤ Wd.blen x)) ∧ ∀ g : Nat, (g < 65536 ∧ Wd.blen g ≤ Wd.blen x) → (((decide ((0 : Int) < (g : Int))) = true → (IntKind.wrap .i64 (((Wd.blen x - Wd.blen g : Nat) : Int) + 1) = (((Wd.blen x - Wd.blen g + 1 : Nat) : Int))) ∧ ((2 : Int) ≠ 0) ∧ (IntKind.wrap .i64 ((g : Int).tdiv 2) = (((g / 2 : Nat) : Int))) ∧ (∃ g1 : Nat, (((Wd.blen x - Wd.blen g + 1 : Nat) : Int) = ((Wd.blen x - Wd.blen g1 : Nat) : Int)) ∧ (((g / 2 : Nat) : Int) = (g1 : Int)) ∧ (g1 < 65536 ∧ Wd.blen g1 ≤ Wd.blen x) ∧ (g1 < g))) ∧ ((decide ((0 : Int) < (g : Int))) = false → ((((Wd.blen x - Wd.blen g : Nat) : Int) = (Wd.blen x : Int)))))))))
  ⟨(fun _ _ => trivial), fun hc7 => have hc7 := dT hc7; have hx0 := (nd_eq_zero x).1 zo; (by rw [hx0]; rfl), fun hc7 => have hc7 := dF hc7; have hn0 : nd x ≠ 0 := zo; have hb := blen_dg (x := x) (fun e => hn0 ((nd_eq_zero x).2 e)); ⟨(by rw [IntKind.wrap_i64]; omega), (by rw [IntKind.wrap_i64]; omega), (by rw [IntKind.wrap_i64]; omega), (rf ((nd x - 1 : Nat) : Int)), zo, ⟨dg x (nd x - 1), zo, zo, dg_lt _ _, by omega⟩, fun g hg => have hg1 := hg.1; have hg2 := hg.2; ⟨fun hc19 => have hc19 := dT hc19; have hv := blen_half (x := g) zo; ⟨(by rw [IntKind.wrap_i64]; omega), (by decide), (quo_i64 zo), g / 2, zo, zo, ⟨by omega, by omega⟩, zo⟩, fun hc19 => have hc19 := dF hc19; have hv : g = 0 := zo; (by rw [hv]; rfl)⟩⟩⟩
theorem sRefBit {x k : Nat} (hk : k ≤ 1099511627776) : CallOK Tryz.prog 154 [.dgs x (nd x), .ex (.int .i64 (k : Int))] (.ex (.int .i64 ((x / 2 ^ k % 2 : Nat) : Int))) [] := by
 have h1 := dg_lt x (k / 16)
 have h2 := Nat.pow_pos (n := k % 16) (show 0 < 2 by decide)
 exact kP (ch := [.dec 6 false, .reg 3 [(2, .z ((k / 16 : Nat) : Int)), (3, .callS (.ex (.int .i64 (dg x (k / 16) : Int))) []), (5, .z ((k % 16 : Nat) : Int)), (6, .callS (.ex (.int .i64 ((2 ^ (k % 16) : Nat) : Int))) []), (7, .z ((dg x (k / 16) / 2 ^ (k % 16) : Nat) : Int)), (8, .z ((x / 2 ^ k % 2 : Nat) : Int))]]) Tryz.func154 ((∀ j0, j0 < (nd x) → True) ∧ ((decide ((k : Int) < 0)) = false) ∧ ((16 : Int) ≠ 0) ∧ (IntKind.wrap .i64 ((k : Int).tdiv 16) = (((k / 16 : Nat) : Int))) ∧ _ ∧ ((16 : Int) ≠ 0) ∧ ((k : Int).tmod 16 = (((k % 16 : Nat) : Int))) ∧ _ ∧ (((2 ^ (k % 16) : Nat) : Int) ≠ 0) ∧ (IntKind.wrap .i64 (((dg x (k / 16) : Nat) : Int).tdiv ((2 ^ (k % 16) : Nat) : Int)) = (((dg x (k / 16) / 2 ^ (k % 16) : Nat) : Int))) ∧ ((2 : Int) ≠ 0) ∧ (((dg x (k / 16) / 2 ^ (k % 16) : Nat) : Int).tmod 2 = (((x / 2 ^ k % 2 : Nat) : Int))) ∧ (_))
  ⟨(fun _ _ => trivial), (decide_eq_false zo), (by decide), (quo_i64 zo), sDigit (x := x) (k := k / 16), (by decide), rfl, sPower (k := k % 16) zo, zo, (quo_i64 zo), (by decide), (by rw [← bit_dg]; rfl), (rf ((x / 2 ^ k % 2 : Nat) : Int))⟩
theorem sRefCmp {x y : Nat} (hx : nd x ≤ 17179869184) : CallOK Tryz.prog 94 [.dgs x (nd x), .dgs y (nd y)] (.ex (.int .i64 (cmpN x y))) [] := by
 exact kP (ch := [.loop 6 (Nat) (fun g => g ≤ nd x ∧ x / 2 ^ (16 * g) = y / 2 ^ (16 * g)) (fun g => g) (fun g => ⟨[(0, .dgs x (nd x)), (1, .dgs y (nd y)), (5, .ex (.int .i64 ((g : Int) - 1)))], [], 0⟩) [] (fun _ => []) (fun g => [.reg 8 [(2, .k (g - 1)), (6, .k (g - 1))], .reg 10 [(2, .k (g - 1)), (6, .k (g - 1))]])]) Tryz.func94 ((∀ j0, j0 < (nd x) → True) ∧ (∀ j0, j0 < (nd y) → True) ∧ (((!decide (((nd x : Nat) : Int) = (nd y : Int))) = true → (((decide (((nd x : Nat) : Int) < (nd y : Int))) = true → (((-1 : Int) = (cmpN x y)))) ∧ ((decide (((nd x : Nat) : Int) < (nd y : Int))) = false → (((1 : Int) = (cmpN x y)))))) ∧ ((!decide (((nd x : Nat) : Int) = (nd y : Int))) = false → (IntKind.wrap .i64 (((nd x : Nat) : Int) - 1) = (((nd x : Nat) : Int) - 1)) ∧ (((fun X1 X2 X3 X4 : Prop => ∃ g0 : Nat, X1 ∧ X2 ∧ X3 ∧ X4 ∧ (((nd x : Int) - 1 : Int) = ((g0 : Int) - 1)) ∧ (g0 ≤ nd x ∧ x / 2 ^ (16 * g0) = y / 2 ^ (16 * g0))) _ _ _ _) ∧ ∀ g : Nat, (g ≤ nd x ∧ x / 2 ^ (16 * g) = y / 2 ^ (16 * g)) → (((decide ((0 : Int) ≤ ((g : Int) - 1))) = true → (((g : Int) - 1 : Int) = ((g - 1 : Nat) : Int)) ∧ ((g - 1) < (nd x)) ∧ (((g : Int) - 1 : Int) = ((g - 1 : Nat) : Int)) ∧ ((g - 1) < (nd y)) ∧ (((decide (((dg x (g - 1) : Nat) : Int) < (dg y (g - 1) : Int))) = true → (((-1 : Int) = (cmpN x y)))) ∧ ((decide (((dg x (g - 1) : Nat) : Int) < (dg y (g - 1) : Int))) = false → (((g : Int) - 1 : Int) = ((g - 1 : Nat) : Int)) ∧ ((g - 1) < (nd x)) ∧ (((g : Int) - 1 : Int) = ((g - 1 : Nat) : Int)) ∧ ((g - 1) < (nd y)) ∧ (((decide (((dg y (g - 1) : Nat) : Int) < (dg x (g - 1) : Int))) = true → (((1 : Int) = (cmpN x y)))) ∧ ((decide (((dg y (g - 1) : Nat) : Int) < (dg x (g - 1) : Int))) = false → (IntKind.wrap .i64 (((g : Int) - 1 : Int) - 1) = (((g : Int) - 1 : Int) - 1)) ∧ ((fun X1 X2 X3 X4 : Prop => ∃ g1 : Nat, X1 ∧ X2 ∧ X3 ∧ X4 ∧ ((((g : Int) - 1 : Int) - 1 : Int) = ((g1 : Int) - 1)) ∧ (g1 ≤ nd x ∧ x / 2 ^ (16 * g1) = y / 2 ^ (16 * g1)) ∧ (g1 < g)) _ _ _ _)))))) ∧ ((decide ((0 : Int) ≤ ((g : Int) - 1))) = false → (((0 : Int) = (cmpN x y)))))))))
  ⟨(fun _ _ => trivial), (fun _ _ => trivial), fun hc10 => have hn : nd x ≠ nd y := (by have h := hc10; simp at h; omega); ⟨fun hc15 => have hc15 := dT hc15; (cmpN_len zo).symm, fun hc15 => have hc15 := dF hc15; (cmpN_len' zo).symm⟩, fun hc10 => have hn : nd x = nd y := (by have h := hc10; simp at h; omega); ⟨(by rw [IntKind.wrap_i64]; omega), ⟨nd x, (rf (nd x : Nat)), (leS (fun i0 => .ex (.int .i64 (dg x i0 : Int))) (nd x)), (rf (nd y : Nat)), (leS (fun i0 => .ex (.int .i64 (dg y i0 : Int))) (nd y)), zo, Nat.le_refl _, by rw [nd_zero_div, Nat.div_eq_of_lt (lt_nd_of zo)]⟩, fun g hg => have hg1 := hg.1; ⟨fun hc20 => have hc20 := dT hc20; have he : x / 2 ^ (16 * (g - 1 + 1)) = y / 2 ^ (16 * (g - 1 + 1)) := (by rw [show g - 1 + 1 = g by omega]; exact hg.2); ⟨zo, zo, zo, zo, fun hc31 => have hc31 := dT hc31; (cmpN_lt he zo).symm, fun hc31 => have hc31 := dF hc31; ⟨zo, zo, zo, zo, fun hc40 => have hc40 := dT hc40; (cmpN_gt he zo).symm, fun hc40 => have hc40 := dF hc40; ⟨(by rw [IntKind.wrap_i64]; omega), g - 1, (rf (nd x : Nat)), (leS (fun i0 => .ex (.int .i64 (dg x i0 : Int))) (nd x)), (rf (nd y : Nat)), (leS (fun i0 => .ex (.int .i64 (dg y i0 : Int))) (nd y)), zo, ⟨by omega, eq_step16 he zo zo⟩, zo⟩⟩⟩, fun hc20 => have hc20 := dF hc20; (cmpN_self (by rw [show 0 = g by omega]; exact hg.2)).symm⟩⟩⟩
theorem div_step {n d g : Nat} (hd : 0 < d) (hg : 0 < g) : (n / 2 ^ g % d * 2 + n / 2 ^ (g - 1) % 2 < d → n / 2 ^ g / d * 2 = n / 2 ^ (g - 1) / d ∧ n / 2 ^ g % d * 2 + n / 2 ^ (g - 1) % 2 = n / 2 ^ (g - 1) % d) ∧ (d ≤ n / 2 ^ g % d * 2 + n / 2 ^ (g - 1) % 2 → n / 2 ^ g / d * 2 + 1 = n / 2 ^ (g - 1) / d ∧ n / 2 ^ g % d * 2 + n / 2 ^ (g - 1) % 2 - d = n / 2 ^ (g - 1) % d) := by
 have h := bits_step n (g - 1)
 rw [show g - 1 + 1 = g by omega] at h
 have hb : n / 2 ^ (g - 1) % 2 ≤ 1 := by omega
 have k := div_bit (n := n / 2 ^ g) (b := n / 2 ^ (g - 1) % 2) hd rfl rfl hb
 rw [← h] at k
 exact ⟨fun e => ⟨(k.1 e).1.symm, (k.1 e).2.symm⟩, fun e => ⟨(k.2 e).1.symm, (k.2 e).2.symm⟩⟩
theorem sRefDivMod {n d : Nat} (hn : nd n ≤ 4294967296) (hd0 : 0 < d) : CallOK Tryz.prog 142 [.dgs n (nd n), .dgs d (nd d)] (.cn (.dgs (n / d) (nd (n / d))) (.cn (.dgs (n % d) (nd (n % d))) (.nl))) [] := by
 have hz : n / 2 ^ Wd.blen n = 0 := Nat.div_eq_of_lt (Wd.lt_two_pow_blen n)
 have hbn : Wd.blen n ≤ 16 * nd n := by unfold nd; omega
 exact kP (ch := [.reg 2 [(1, .callS (.ex (.int .i64 (Wd.blen n : Int))) [])], .loop 3 (Nat) (fun g => g ≤ Wd.blen n) (fun g => g) (fun g => ⟨[(0, .dgs n (nd n)), (1, .dgs d (nd d)), (6, .dgs (n / 2 ^ g / d) (nd (n / 2 ^ g / d))), (7, .dgs (n / 2 ^ g % d) (nd (n / 2 ^ g % d))), (8, .ex (.int .i64 ((g : Int) - 1)))], [], 0⟩) [] (fun _ => []) (fun g => [.reg 5 [(3, .call [.dgs n (nd n), .ex (.int .i64 ((g - 1 : Nat) : Int))] (.ex (.int .i64 ((n / 2 ^ (g - 1) % 2 : Nat) : Int))) []), (4, .call [.dgs (n / 2 ^ g % d) (nd (n / 2 ^ g % d)), .ex (.int .i64 ((2 : Nat) : Int)), .ex (.int .i64 ((n / 2 ^ (g - 1) % 2 : Nat) : Int))] (.dgs ((n / 2 ^ g % d) * 2 + (n / 2 ^ (g - 1) % 2)) (nd ((n / 2 ^ g % d) * 2 + (n / 2 ^ (g - 1) % 2)))) [])], .reg 6 [(1, .call [.dgs (n / 2 ^ g / d) (nd (n / 2 ^ g / d)), .ex (.int .i64 ((2 : Nat) : Int)), .ex (.int .i64 0)] (.dgs ((n / 2 ^ g / d) * 2) (nd ((n / 2 ^ g / d) * 2))) [])], .reg 7 [(2, .callS (.ex (.int .i64 (cmpN ((n / 2 ^ g % d) * 2 + (n / 2 ^ (g - 1) % 2)) d))) [])], .reg 8 [(2, .callS (.dgs (((n / 2 ^ g % d) * 2 + (n / 2 ^ (g - 1) % 2)) - d) (nd (((n / 2 ^ g % d) * 2 + (n / 2 ^ (g - 1) % 2)) - d))) [])], .reg 9 [(2, .call [.dgs ((n / 2 ^ g / d) * 2) (nd ((n / 2 ^ g / d) * 2)), .dgs 1 (nd 1)] (.dgs (((n / 2 ^ g / d) * 2) + 1) (nd (((n / 2 ^ g / d) * 2) + 1))) [])]])]) Tryz.func142 ((∀ j0, j0 < (nd n) → True) ∧ (∀ j0, j0 < (nd d) → True) ∧ _ ∧ (IntKind.wrap .i64 (((Wd.blen n : Nat) : Int) - 1) = (((Wd.blen n : Nat) : Int) - 1)) ∧ (((fun X1 X2 X3 X4 : Prop => ∃ g0 : Nat, X1 ∧ X2 ∧ X3 ∧ X4 ∧ ((nd (n / 2 ^ g0 / d) : Nat) = 0) ∧ ((nd (n / 2 ^ g0 % d) : Nat) = 0) ∧ (((Wd.blen n : Int) - 1 : Int) = ((g0 : Int) - 1)) ∧ (g0 ≤ Wd.blen n)) _ _ _ _) ∧ ∀ g : Nat, (g ≤ Wd.blen n) → (((decide ((0 : Int) ≤ ((g : Int) - 1))) = true → _ ∧ _ ∧ _ ∧ (((g : Int) - 1 : Int) = ((g - 1 : Nat) : Int)) ∧ _ ∧ _ ∧ _ ∧ ((2 : Int) = ((2 : Nat) : Int)) ∧ _ ∧ _ ∧ _ ∧ _ ∧ ((2 : Int) = ((2 : Nat) : Int)) ∧ _ ∧ _ ∧ (((decide ((0 : Int) ≤ (cmpN ((n / 2 ^ g % d) * 2 + (n / 2 ^ (g - 1) % 2)) d))) = true → _ ∧ _ ∧ _ ∧ _ ∧ ((1 : Nat) = (nd 1)) ∧ (∀ j0, j0 < 1 → ((1 : Int) = (dg 1 j0 : Int))) ∧ (IntKind.wrap .i64 (((g : Int) - 1 : Int) - 1) = (((g : Int) - 1 : Int) - 1)) ∧ ((fun X1 X2 X3 X4 : Prop => ∃ g1 : Nat, X1 ∧ X2 ∧ X3 ∧ X4 ∧ ((nd (((n / 2 ^ g / d) * 2) + 1) : Nat) = (nd (n / 2 ^ g1 / d))) ∧ (∀ j0, j0 < (nd (((n / 2 ^ g / d) * 2) + 1)) → (((dg (((n / 2 ^ g / d) * 2) + 1) j0 : Nat) : Int) = (dg (n / 2 ^ g1 / d) j0 : Int))) ∧ ((nd (((n / 2 ^ g % d) * 2 + (n / 2 ^ (g - 1) % 2)) - d) : Nat) = (nd (n / 2 ^ g1 % d))) ∧ (∀ j0, j0 < (nd (((n / 2 ^ g % d) * 2 + (n / 2 ^ (g - 1) % 2)) - d)) → (((dg (((n / 2 ^ g % d) * 2 + (n / 2 ^ (g - 1) % 2)) - d) j0 : Nat) : Int) = (dg (n / 2 ^ g1 % d) j0 : Int))) ∧ ((((g : Int) - 1 : Int) - 1 : Int) = ((g1 : Int) - 1)) ∧ (g1 ≤ Wd.blen n) ∧ (g1 < g)) _ _ _ _)) ∧ ((decide ((0 : Int) ≤ (cmpN ((n / 2 ^ g % d) * 2 + (n / 2 ^ (g - 1) % 2)) d))) = false → (IntKind.wrap .i64 (((g : Int) - 1 : Int) - 1) = (((g : Int) - 1 : Int) - 1)) ∧ ((fun X1 X2 X3 X4 : Prop => ∃ g1 : Nat, X1 ∧ X2 ∧ X3 ∧ X4 ∧ ((nd ((n / 2 ^ g / d) * 2) : Nat) = (nd (n / 2 ^ g1 / d))) ∧ (∀ j0, j0 < (nd ((n / 2 ^ g / d) * 2)) → (((dg ((n / 2 ^ g / d) * 2) j0 : Nat) : Int) = (dg (n / 2 ^ g1 / d) j0 : Int))) ∧ ((nd ((n / 2 ^ g % d) * 2 + (n / 2 ^ (g - 1) % 2)) : Nat) = (nd (n / 2 ^ g1 % d))) ∧ (∀ j0, j0 < (nd ((n / 2 ^ g % d) * 2 + (n / 2 ^ (g - 1) % 2))) → (((dg ((n / 2 ^ g % d) * 2 + (n / 2 ^ (g - 1) % 2)) j0 : Nat) : Int) = (dg (n / 2 ^ g1 % d) j0 : Int))) ∧ ((((g : Int) - 1 : Int) - 1 : Int) = ((g1 : Int) - 1)) ∧ (g1 ≤ Wd.blen n) ∧ (g1 < g)) _ _ _ _)))) ∧ ((decide ((0 : Int) ≤ ((g : Int) - 1))) = false → (((nd (n / 2 ^ g / d) : Nat) = (nd (n / d))) ∧ (∀ j0, j0 < (nd (n / 2 ^ g / d)) → (((dg (n / 2 ^ g / d) j0 : Nat) : Int) = (dg (n / d) j0 : Int))) ∧ ((nd (n / 2 ^ g % d) : Nat) = (nd (n % d))) ∧ (∀ j0, j0 < (nd (n / 2 ^ g % d)) → (((dg (n / 2 ^ g % d) j0 : Nat) : Int) = (dg (n % d) j0 : Int))))))))
  ⟨(fun _ _ => trivial), (fun _ _ => trivial), sRefBits (x := n) zo, (by rw [IntKind.wrap_i64]; omega), ⟨Wd.blen n, (rf (nd n : Nat)), (leS (fun i0 => .ex (.int .i64 (dg n i0 : Int))) (nd n)), (rf (nd d : Nat)), (leS (fun i0 => .ex (.int .i64 (dg d i0 : Int))) (nd d)), (by rw [hz, Nat.zero_div]; rfl), (by rw [hz, Nat.zero_mod]; rfl), zo, zo⟩, fun g hg => ⟨fun hc13 => have hc13 := dT hc13; have hb := div_step hd0 (n := n) (g := g) zo; have h1 := nd_mod (n / 2 ^ g) d; have h2 := nd_div n (2 ^ g); have h3 := nd_div (n / 2 ^ g) d; have h4 := nd_x2 (n / 2 ^ g / d); have h5 := nd_x2 (n / 2 ^ g % d); have h6 := nd_add (n / 2 ^ g % d * 2) (n / 2 ^ (g - 1) % 2); have h7 : nd (n / 2 ^ (g - 1) % 2) ≤ 1 := ((nd_le _ 1).2 (by have := Nat.mod_lt (n / 2 ^ (g - 1)) (show 0 < 2 by decide); omega)); ⟨sRefBit (x := n) (k := g - 1) zo, (rf (nd n : Nat)), (leS (fun i0 => .ex (.int .i64 (dg n i0 : Int))) (nd n)), zo, sSmall (x := n / 2 ^ g % d) (m := 2) (a := n / 2 ^ (g - 1) % 2) zo zo zo, (rf (nd (n / 2 ^ g % d) : Nat)), (leS (fun i0 => .ex (.int .i64 (dg (n / 2 ^ g % d) i0 : Int))) (nd (n / 2 ^ g % d))), rfl, (rf ((n / 2 ^ (g - 1) % 2 : Nat) : Int)), sSmall0 (x := n / 2 ^ g / d) (m := 2) zo zo, (rf (nd (n / 2 ^ g / d) : Nat)), (leS (fun i0 => .ex (.int .i64 (dg (n / 2 ^ g / d) i0 : Int))) (nd (n / 2 ^ g / d))), rfl, (rf (0 : Int)), sRefCmp (x := (n / 2 ^ g % d) * 2 + (n / 2 ^ (g - 1) % 2)) (y := d) zo, fun hc26 => have hc26 := dT hc26; have hge := cmpN_ge.1 hc26; have hq := (hb.2 hge).1; have hr := (hb.2 hge).2; ⟨sRefSub (x := (n / 2 ^ g % d) * 2 + (n / 2 ^ (g - 1) % 2)) (y := d) zo zo, sRefAdd (x := (n / 2 ^ g / d) * 2) (y := 1) zo (by rw [nd_one]; omega), (rf (nd ((n / 2 ^ g / d) * 2) : Nat)), (leS (fun i0 => .ex (.int .i64 (dg ((n / 2 ^ g / d) * 2) i0 : Int))) (nd ((n / 2 ^ g / d) * 2))), rfl, (fun j0 hj0 => (by rw [show j0 = 0 by omega]; rfl)), (by rw [IntKind.wrap_i64]; omega), g - 1, (rf (nd n : Nat)), (leS (fun i0 => .ex (.int .i64 (dg n i0 : Int))) (nd n)), (rf (nd d : Nat)), (leS (fun i0 => .ex (.int .i64 (dg d i0 : Int))) (nd d)), (by rw [hq]), (fun j0 hj0 => (by rw [hq])), (by rw [hr]), (fun j0 hj0 => (by rw [hr])), zo, zo, zo⟩, fun hc26 => have hc26 := dF hc26; have hlt := Nat.lt_of_not_le (fun e => hc26 (cmpN_ge.2 e)); have hq := (hb.1 hlt).1; have hr := (hb.1 hlt).2; ⟨(by rw [IntKind.wrap_i64]; omega), g - 1, (rf (nd n : Nat)), (leS (fun i0 => .ex (.int .i64 (dg n i0 : Int))) (nd n)), (rf (nd d : Nat)), (leS (fun i0 => .ex (.int .i64 (dg d i0 : Int))) (nd d)), (by rw [hq]), (fun j0 hj0 => (by rw [hq])), (by rw [hr]), (fun j0 hj0 => (by rw [hr])), zo, zo, zo⟩⟩, fun hc13 => have hc13 := dF hc13; have hi2 : g = 0 := zo; ⟨(by rw [hi2]; simp), (fun j0 hj0 => (by rw [hi2]; simp)), (by rw [hi2]; simp), (fun j0 hj0 => (by rw [hi2]; simp))⟩⟩⟩
open Go.RowKit
def SV.wds (x n : Nat) : SV := .sl 1 (fun i => .ex (.int .u64 (wd x i : Int))) n
theorem wd_top {x g : Nat} : (0 : Int) = ((wd x g / 65536 ^ 4 : Nat) : Int) := by
 have := wd_lt x g
 rw [Nat.div_eq_of_lt zo]; rfl
theorem wd_dg {x g k : Nat} (hk : k < 4) : dg x (4 * g + k) = wd x g / 65536 ^ k % 65536 := by
 unfold wd dg
 rw [show 16 * (4 * g + k) = 64 * g + 16 * k by omega, Nat.pow_add, ← Nat.div_div_eq_div_mul]
 generalize x / 2 ^ (64 * g) = v
 match k, hk with
 | 0, _ => omega
 | 1, _ => show v / 65536 % 65536 = v % 18446744073709551616 / 65536 % 65536; omega
 | 2, _ => show v / 4294967296 % 65536 = v % 18446744073709551616 / 4294967296 % 65536; omega
 | 3, _ => show v / 281474976710656 % 65536 = v % 18446744073709551616 / 281474976710656 % 65536; omega
theorem wd_step {x g h : Nat} (h0 : 0 < h) (h4 : h ≤ 4) : wd x g / 65536 ^ h * 65536 + dg x (4 * g + (h - 1)) = wd x g / 65536 ^ (h - 1) ∧ wd x g / 65536 ^ (h - 1) ≤ wd x g := by
 refine ⟨?_, Nat.div_le_self _ _⟩
 rw [wd_dg zo]
 have e : wd x g / 65536 ^ h = wd x g / 65536 ^ (h - 1) / 65536 := by rw [Nat.div_div_eq_div_mul, ← Nat.pow_succ, show (h - 1).succ = h by omega]
 rw [e]; omega
theorem gcd_odd_2 {a b : Nat} (ha : a % 2 = 1) (hb : b % 2 = 0) : Nat.gcd a (b / 2) = Nat.gcd a b := by
 rw [Nat.gcd_comm, gcd_2_odd hb ha, Nat.gcd_comm]
theorem gcd_stp {q b : Nat} (hq : 0 < q) (hb : 0 < b) (ho : q % 2 = 1) (hb2 : b % 2 = 1) : Nat.gcd q b = Nat.gcd (max q b - min q b) (min q b) ∧ 0 < min q b ∧ min q b % 2 = 1 ∧ (max q b - min q b) + min q b < q + b ∧ max q b - min q b ≤ max q b ∧ min q b ≤ max q b := by
 by_cases h : q < b
 ·rw [Nat.max_eq_right (Nat.le_of_lt h), Nat.min_eq_left (Nat.le_of_lt h)]
  exact ⟨by rw [gcd_sub_left' (Nat.le_of_lt h), Nat.gcd_comm], hq, ho, by omega, by omega, by omega⟩
 ·rw [Nat.max_eq_left (Nat.le_of_not_lt h), Nat.min_eq_right (Nat.le_of_not_lt h)]
  exact ⟨by rw [gcd_sub_left' (Nat.le_of_not_lt h)], hb, hb2, by omega, by omega, by omega⟩
theorem pow_lt_nd {a t x : Nat} (h : a * 2 ^ t = x) (ha : 0 < a) : t < 16 * nd x := by
 have h1 : 2 ^ t ≤ x := by rw [← h]; exact Nat.le_mul_of_pos_left _ ha
 exact (Nat.pow_lt_pow_iff_right (a := 2) (by decide)).1 (Nat.lt_of_le_of_lt h1 (lt_nd x))
theorem halve_inv {x y a b t : Nat} (h : Nat.gcd x y = Nat.gcd a b * 2 ^ t ∧ a * 2 ^ t = x ∧ 0 < a ∧ 0 < b ∧ nd b ≤ nd y ∧ nd a ≤ nd x) (ha : a % 2 = 0) (hb : b % 2 = 0) :
  Nat.gcd x y = Nat.gcd (a / 2) (b / 2) * 2 ^ (t + 1) ∧ a / 2 * 2 ^ (t + 1) = x ∧ 0 < a / 2 ∧ 0 < b / 2 ∧ nd (b / 2) ≤ nd y ∧ nd (a / 2) ≤ nd x := by
 obtain ⟨h1, h2, h3, h4, h5, h6⟩ := h
 have := nd_div b 2
 have := nd_div a 2
 refine ⟨by rw [h1, gcd_2_2 ha hb, Nat.pow_succ, Nat.mul_assoc, Nat.mul_comm 2], ?_, by omega, by omega, by omega, by omega⟩
 rw [Nat.pow_succ, Nat.mul_comm (2 ^ t), ← Nat.mul_assoc, show a / 2 * 2 = a by omega, h2]
instance fzF : Fz := ⟨false⟩
theorem sDigit0 {x k : Nat} : CallOK Tryz.prog 143 [.dgs x (nd x), .ex (.int .i64 (k : Int))] (.ex (.int .i64 (dg x k : Int))) [] := by
 exact kP (ch := [.reg 3 [(2, .k k)]]) Tryz.func143 ((∀ j0, j0 < (nd x) → True) ∧ (((decide ((k : Int) < 0)) == false) = true → ((decide ((k : Int) < 0)) == false) = true) ∧ (((decide ((k : Int) < 0)) == false) = true → ((decide ((k : Int) < 0)) == false) = true) ∧ (((decide ((k : Int) < 0)) == false) = true → ((decide ((k : Int) < 0)) == false) = true) ∧ ((!(decide ((k : Int) < 0))) = true → ((decide ((k : Int) < 0)) == false) = true) ∧ (((bif (decide ((k : Int) < 0)) then true else (decide (((nd x : Nat) : Int) ≤ (k : Int)))) = true → (((0 : Int) = (dg x k : Int)))) ∧ ((bif (decide ((k : Int) < 0)) then true else (decide (((nd x : Nat) : Int) ≤ (k : Int)))) = false → _ ∧ (k < (nd x)) ∧ (_))))
  ⟨(fun _ _ => trivial), id, id, id, (by first | (simp; done) | (simp; omega)), fun hc12 => have hc := orT hc12; have hz := dg_nd (x := x) (i := k) zo; zo, fun hc12 => have hc := orF hc12; ⟨(rf (k : Int)), zo, (rf (dg x k : Int))⟩⟩
theorem sRefWords0 {x : Nat} (hx : nd x ≤ 17179869184) : CallOK Tryz.prog 125 [.dgs x (nd x)] (.wds x (nw x)) [] := by
 have hnw := nw_nd x
 exact kP (ch := [.loop 3 (Nat) (fun g => g ≤ nw x) (fun g => (nw x) - g) (fun g => ⟨[(0, .dgs x (nd x)), (3, .own 0 0), (4, .ex (.int .i64 ((4 * g : Nat) : Int)))], [(0, .one (.row 146 1 (fun i0 => .ex (.int .u64 (wd x i0 : Int))) g))], 1⟩) [(0, .nil)] (fun _ => [(0, .id 1)]) (fun g => [.loop 7 (Nat) (fun h => h ≤ 4) (fun h => h) (fun h => ⟨[(0, .dgs x (nd x)), (3, .own 0 0), (4, .ex (.int .i64 ((4 * g : Nat) : Int))), (5, .ex (.int .u64 ((wd x g / 65536 ^ h : Nat) : Int))), (6, .ex (.int .i64 ((h : Int) - 1)))], [(0, .one (.row 146 1 (fun i0 => .ex (.int .u64 (wd x i0 : Int))) g))], 1⟩) [(0, .id 0)] (fun _ => [(0, .id 0)]) (fun h => [.reg 9 [(1, .z ((wd x g / 65536 ^ h * 65536 : Nat) : Int)), (5, .z ((4 * g + (h - 1) : Nat) : Int)), (6, .callS (.ex (.int .i64 (dg x (4 * g + (h - 1)) : Int))) []), (7, .z (dg x (4 * g + (h - 1)) : Int)), (8, .z ((wd x g / 65536 ^ h * 65536 + dg x (4 * g + (h - 1)) : Nat) : Int))], .reg 10 [(3, .row 0 (fun i0 => .ex (.int .u64 (wd x i0 : Int))))], .reg 4 [(1, .z ((4 * g + 4 : Nat) : Int))]])])]) Tryz.func125 ((∀ j0, j0 < (nd x) → True) ∧ (((fun X1 X2 X3 : Prop => ∃ g0 : Nat, X1 ∧ X2 ∧ X3 ∧ ((0 : Int) = ((4 * g0 : Nat) : Int)) ∧ ((g0 : Nat) = 0) ∧ (g0 ≤ nw x)) _ _ _) ∧ ∀ g : Nat, (g ≤ nw x) → (((decide (((4 * g : Nat) : Int) < (nd x : Int))) = true → (((fun X1 X2 X3 X4 X5 X6 : Prop => ∃ h0 : Nat, X1 ∧ X2 ∧ X3 ∧ X4 ∧ ((0 : Int) = ((wd x g / 65536 ^ h0 : Nat) : Int)) ∧ ((3 : Int) = ((h0 : Int) - 1)) ∧ X5 ∧ X6 ∧ (h0 ≤ 4)) _ _ _ _ _ _) ∧ ∀ h : Nat, (h ≤ 4) → (((decide ((0 : Int) ≤ ((h : Int) - 1))) = true → (IntKind.wrap .u64 (((wd x g / 65536 ^ h : Nat) : Int) * 65536) = (((wd x g / 65536 ^ h * 65536 : Nat) : Int))) ∧ (IntKind.wrap .i64 (((4 * g : Nat) : Int) + ((h : Int) - 1)) = (((4 * g + (h - 1) : Nat) : Int))) ∧ _ ∧ (IntKind.wrap .u64 (dg x (4 * g + (h - 1)) : Int) = (((dg x (4 * g + (h - 1)) : Nat) : Int))) ∧ (IntKind.wrap .u64 (((wd x g / 65536 ^ h * 65536 : Nat) : Int) + (dg x (4 * g + (h - 1)) : Int)) = (((wd x g / 65536 ^ h * 65536 + dg x (4 * g + (h - 1)) : Nat) : Int))) ∧ (IntKind.wrap .i64 (((h : Int) - 1 : Int) - 1) = (((h : Int) - 1 : Int) - 1)) ∧ ((fun X1 X2 X3 X4 X5 X6 : Prop => ∃ h1 : Nat, X1 ∧ X2 ∧ X3 ∧ X4 ∧ (((wd x g / 65536 ^ h * 65536 + dg x (4 * g + (h - 1)) : Nat) : Int) = ((wd x g / 65536 ^ h1 : Nat) : Int)) ∧ ((((h : Int) - 1 : Int) - 1 : Int) = ((h1 : Int) - 1)) ∧ X5 ∧ X6 ∧ (h1 ≤ 4) ∧ (h1 < h)) _ _ _ _ _ _)) ∧ ((decide ((0 : Int) ≤ ((h : Int) - 1))) = false → (g + 1 ≤ 68719476736) ∧ _ ∧ (∀ j0, j0 < 1 → (((wd x g / 65536 ^ h : Nat) : Int) = (wd x (g + j0) : Int))) ∧ (IntKind.wrap .i64 (((4 * g : Nat) : Int) + 4) = (((4 * g + 4 : Nat) : Int))) ∧ ((fun X1 X2 X3 X4 : Prop => ∃ g1 : Nat, X1 ∧ X2 ∧ X3 ∧ (((4 * g + 4 : Nat) : Int) = ((4 * g1 : Nat) : Int)) ∧ ((g + 1 : Nat) = g1) ∧ X4 ∧ (g1 ≤ nw x) ∧ ((nw x) - g1 < (nw x) - g)) _ _ _ _))))) ∧ ((decide (((4 * g : Nat) : Int) < (nd x : Int))) = false → (((g : Nat) = (nw x)) ∧ _)))))
  ⟨(fun _ _ => trivial), ⟨0, (rf (nd x : Nat)), (leS (fun i0 => .ex (.int .i64 (dg x i0 : Int))) (nd x)), (rf 0), zo, zo, zo⟩, fun g hg => ⟨fun hc10 => have hc10 := dT hc10; have hgn : g < nw x := zo; have hwl := wd_lt x g; ⟨⟨4, (rf (nd x : Nat)), (leS (fun i0 => .ex (.int .i64 (dg x i0 : Int))) (nd x)), (rf 0), (rf ((4 * g : Nat) : Int)), (by rw [wd_top]), zo, (rf g), (leS (fun i0 => .ex (.int .u64 (wd x i0 : Int))) g), zo⟩, fun h hh => ⟨fun hc14 => have hc14 := dT hc14; have hst := wd_step (x := x) (g := g) (h := h) zo zo; have hd := dg_lt x (4 * g + (h - 1)); ⟨(by rw [IntKind.wrap_u64]; omega), (by rw [IntKind.wrap_i64]; omega), sDigit0 (x := x) (k := 4 * g + (h - 1)), (by rw [IntKind.wrap_u64]; omega), (by rw [IntKind.wrap_u64]; omega), (by rw [IntKind.wrap_i64]; omega), h - 1, (rf (nd x : Nat)), (leS (fun i0 => .ex (.int .i64 (dg x i0 : Int))) (nd x)), (rf 0), (rf ((4 * g : Nat) : Int)), (by rw [hst.1]), zo, (rf g), (leS (fun i0 => .ex (.int .u64 (wd x i0 : Int))) g), zo, zo⟩, fun hc14 => have hc14 := dF hc14; have hi3 : h = 0 := zo; ⟨zo, (oldS (fun i0 => .ex (.int .u64 (wd x i0 : Int))) g), (fun j0 hj0 => (by rw [show j0 = 0 by omega, hi3, Nat.pow_zero, Nat.div_one]; rfl)), (by rw [IntKind.wrap_i64]; omega), g + 1, (rf (nd x : Nat)), (leS (fun i0 => .ex (.int .i64 (dg x i0 : Int))) (nd x)), (rf 0), zo, zo, (leS (fun i0 => .ex (.int .u64 (wd x i0 : Int))) (g + 1)), zo, zo⟩⟩⟩, fun hc10 => have hc10 := dF hc10; have hi2 : g = nw x := zo; ⟨hi2, (leS (fun i0 => .ex (.int .u64 (wd x i0 : Int))) g)⟩⟩⟩
instance fzT2 : Fz := ⟨true⟩
theorem sRefWords {x : Nat} (hx : nd x ≤ 17179869184) : CallOK Tryz.prog 125 [.dgs x (nd x)] (.wds x (nw x)) [] := (sRefWords0 hx).off ⟨fun _ => trivial, trivial⟩ fun _ => trivial
theorem sNatWords {x : Nat} : CallOK Tryz.prog 124 [.nat x] (.wds x (nw x)) [] :=
 ⟨callable_of Tryz.func124 rfl (by kernel_rfl), fun η0 F w vals hF hA => by
  match vals, hA with
  | [v0], hA =>
   refine (nWords (fun _ => False) v0 x w hA.1.1).mono fun e w' ⟨v, e1, ⟨A, c, e2, h1, h2, h3, h4, _⟩, hb⟩ => ⟨v, fun _ _ => none, e1, ⟨.of_grow hb, (fun k i o hk => by rw [ownsOf_nil] at hk; cases hk), (fun k i o _ _ hk => by rw [ownsOf_nil] at hk; cases hk), (fun k i o _ _ _ _ _ _ hk => by rw [ownsOf_nil] at hk; cases hk), fun _ _ _ => rfl, hF⟩, ?_⟩
   rw [av_nil]
   refine ⟨A, c, e2, h4, h2, h3, fun i hi => ?_⟩
   obtain ⟨g, o, ea, hg, hl, hc⟩ := h1 F hF i hi
   refine ⟨g, o, ea, hg, hl, .int .u64 (wd x i : Int), ⟨rfl, fun u hu => ?_⟩, rfl, fun j u hj => ?_⟩
   ·simp [Value.cells] at hu; subst hu; rfl
   ·cases j with
    | zero => simp [Value.cells] at hj; subst hj; rw [show o + 1 * i + 0 = o + i by omega]; exact hc
    | succ j => simp [Value.cells] at hj⟩
theorem eq_of_wds {x y : Nat} (hn : nw x = nw y) (h : ∀ i, i < nw x → wd x i = wd y i) : x = y := by
 rw [← val_all x (nw x) (Nat.le_refl _), ← val_all y (nw x) zo]
 exact val_congr _ _ _ h
theorem sRefIs {x y : Nat} (hx : nd x ≤ 17179869184) : CallOK Tryz.prog 123 [.dgs x (nd x), .wds y (nw y)] (.ex (.bool (decide (x = y)))) [] := by
 have hnw := nw_nd x
 exact kP (ch := [.reg 1 [(1, .callS (.wds x (nw x)) [])], .loop 5 (Nat) (fun g => g ≤ nw x ∧ ∀ i, i < g → wd x i = wd y i) (fun g => nw x - g) (fun g => ⟨[(1, .wds y (nw y)), (5, .wds x (nw x)), (6, .ex (.int .i64 (g : Int)))], [], 0⟩) [] (fun _ => []) (fun g => [.reg 7 [(2, .k g), (6, .k g)], .reg 6 [(1, .z ((g + 1 : Nat) : Int))]])]) Tryz.func123 ((∀ j0, j0 < (nd x) → True) ∧ (∀ j0, j0 < (nw y) → True) ∧ _ ∧ (((!decide (((nw x : Nat) : Int) = (nw y : Int))) = true → (((false : Bool) = (decide (x = y))))) ∧ ((!decide (((nw x : Nat) : Int) = (nw y : Int))) = false → (((fun X1 X2 X3 X4 : Prop => ∃ g0 : Nat, X1 ∧ X2 ∧ X3 ∧ X4 ∧ ((0 : Int) = (g0 : Int)) ∧ (g0 ≤ nw x ∧ ∀ i, i < g0 → wd x i = wd y i)) _ _ _ _) ∧ ∀ g : Nat, (g ≤ nw x ∧ ∀ i, i < g → wd x i = wd y i) → (((decide ((g : Int) < (nw x : Int))) = true → _ ∧ (g < (nw x)) ∧ _ ∧ (g < (nw y)) ∧ (((!decide (((wd x g : Nat) : Int) = (wd y g : Int))) = true → (((false : Bool) = (decide (x = y))))) ∧ ((!decide (((wd x g : Nat) : Int) = (wd y g : Int))) = false → _ ∧ ((fun X1 X2 X3 X4 : Prop => ∃ g1 : Nat, X1 ∧ X2 ∧ X3 ∧ X4 ∧ (((g + 1 : Nat) : Int) = (g1 : Int)) ∧ (g1 ≤ nw x ∧ ∀ i, i < g1 → wd x i = wd y i) ∧ (nw x - g1 < nw x - g)) _ _ _ _)))) ∧ ((decide ((g : Int) < (nw x : Int))) = false → (((true : Bool) = (decide (x = y))))))))))
  ⟨(fun _ _ => trivial), (fun _ _ => trivial), sRefWords (x := x) zo, fun hc13 => have hn : nw x ≠ nw y := (by have h := hc13; simp at h; omega); (decide_eq_false (fun e => hn (by rw [e]))).symm, fun hc13 => have hn : nw x = nw y := (by have h := hc13; simp at h; omega); ⟨⟨0, (rf (nw y : Nat)), (leS (fun i0 => .ex (.int .u64 (wd y i0 : Int))) (nw y)), (rf (nw x : Nat)), (leS (fun i0 => .ex (.int .u64 (wd x i0 : Int))) (nw x)), zo, by omega, fun i hi => by omega⟩, fun g hg => have hg1 := hg.1; ⟨fun hc17 => have hc17 := dT hc17; ⟨(rf (g : Int)), zo, (rf (g : Int)), zo, fun hc28 => have he : wd x g ≠ wd y g := (by have h := hc28; simp at h; omega); (decide_eq_false (fun e => he (by rw [e]))).symm, fun hc28 => have he : wd x g = wd y g := (by have h := hc28; simp at h; omega); ⟨(wI (g := g) zo), g + 1, (rf (nw y : Nat)), (leS (fun i0 => .ex (.int .u64 (wd y i0 : Int))) (nw y)), (rf (nw x : Nat)), (leS (fun i0 => .ex (.int .u64 (wd x i0 : Int))) (nw x)), zo, ⟨by omega, fun i hi => by by_cases e : i = g; (subst e; exact he); exact hg.2 i zo⟩, zo⟩⟩, fun hc17 => have hc17 := dF hc17; (decide_eq_true (eq_of_wds hn (fun i hi => hg.2 i zo))).symm⟩⟩⟩
theorem sEven {x : Nat}  : CallOK Tryz.prog 149 [.dgs x (nd x)] (.ex (.bool (decide (((x % 2 : Nat) : Int) = 0)))) [] := by
 exact kP (ch := [.reg 1 [(1, .call [.dgs x (nd x), .ex (.int .i64 ((0 : Nat) : Int))] (.ex (.int .i64 (dg x 0 : Int))) []), (2, .z ((x % 2 : Nat) : Int))]]) Tryz.func149 ((∀ j0, j0 < (nd x) → True) ∧ _ ∧ _ ∧ _ ∧ ((0 : Int) = ((0 : Nat) : Int)) ∧ ((2 : Int) ≠ 0) ∧ (((dg x 0 : Nat) : Int).tmod 2 = (((x % 2 : Nat) : Int))) ∧ (_))
  ⟨(fun _ _ => trivial), sDigit (x := x) (k := 0), (rf (nd x : Nat)), (leS (fun i0 => .ex (.int .i64 (dg x i0 : Int))) (nd x)), rfl, (by decide), (by rw [even_dg]; rfl), (rf (decide (((x % 2 : Nat) : Int) = 0) : Bool))⟩
theorem sHalved {x : Nat} (hx : nd x ≤ 17179869184) : CallOK Tryz.prog 150 [.dgs x (nd x)] (.dgs (x / 2) (nd (x / 2))) [] := by
 exact kP (ch := [.reg 1 [(1, .call [.dgs x (nd x), .ex (.int .i64 ((2 : Nat) : Int))] (.cn (.dgs (x / 2) (nd (x / 2))) (.cn (.ex (.int .i64 ((x % 2 : Nat) : Int))) (.nl))) [])]]) Tryz.func150 ((∀ j0, j0 < (nd x) → True) ∧ _ ∧ _ ∧ _ ∧ ((2 : Int) = ((2 : Nat) : Int)) ∧ (_ ∧ _))
  ⟨(fun _ _ => trivial), sHalf (x := x) (m := 2) zo zo zo, (rf (nd x : Nat)), (leS (fun i0 => .ex (.int .i64 (dg x i0 : Int))) (nd x)), rfl, (rf (nd (x / 2) : Nat)), (leS (fun i0 => .ex (.int .i64 (dg (x / 2) i0 : Int))) (nd (x / 2)))⟩
theorem sRefGcd {x y : Nat} (hx : nd x ≤ 1073741824) (hy : nd y ≤ 1073741824) : CallOK Tryz.prog 141 [.dgs x (nd x), .dgs y (nd y)] (.dgs (Nat.gcd x y) (nd (Nat.gcd x y))) [] := by
 exact kP (ch := [.loop 6 (Nat × Nat × Nat) (fun g => Nat.gcd x y = Nat.gcd g.1 g.2.1 * 2 ^ g.2.2 ∧ g.1 * 2 ^ g.2.2 = x ∧ 0 < g.1 ∧ 0 < g.2.1 ∧ nd g.2.1 ≤ nd y ∧ nd g.1 ≤ nd x) (fun g => g.1) (fun g => ⟨[(0, .dgs g.1 (nd g.1)), (1, .dgs g.2.1 (nd g.2.1)), (5, .ex (.int .i64 ((g.2.2 : Nat) : Int)))], [], 0⟩) [] (fun _ => []) (fun g => [.reg 6 [(1, .callS (.ex (.bool (decide (((g.1 % 2 : Nat) : Int) = 0)))) []), (4, .callS (.ex (.bool (decide (((g.2.1 % 2 : Nat) : Int) = 0)))) [])], .reg 7 [(1, .callS (.dgs (g.1 / 2) (nd (g.1 / 2))) [])], .reg 8 [(1, .callS (.dgs (g.2.1 / 2) (nd (g.2.1 / 2))) [])], .reg 9 [(1, .z ((g.2.2 + 1 : Nat) : Int))], .loop 10 (Nat) (fun h => Nat.gcd g.1 g.2.1 = Nat.gcd g.1 h ∧ 0 < h ∧ (g.1 % 2 = 1 ∨ h % 2 = 1) ∧ nd h ≤ nd y) (fun h => h) (fun h => ⟨[(0, .dgs g.1 (nd g.1)), (1, .dgs h (nd h)), (5, .ex (.int .i64 ((g.2.2 : Nat) : Int)))], [], 0⟩) [] (fun _ => []) (fun h => [.reg 10 [(1, .callS (.ex (.bool (decide (((h % 2 : Nat) : Int) = 0)))) [])], .reg 11 [(1, .callS (.dgs (h / 2) (nd (h / 2))) [])], .loop 12 (Nat × Nat) (fun p => Nat.gcd g.1 g.2.1 = Nat.gcd p.1 p.2 ∧ 0 < p.2 ∧ p.2 % 2 = 1 ∧ nd p.1 ≤ max (nd x) (nd y) ∧ nd p.2 ≤ max (nd x) (nd y)) (fun p => p.1 + p.2) (fun p => ⟨[(0, .dgs p.1 (nd p.1)), (1, .dgs p.2 (nd p.2)), (5, .ex (.int .i64 ((g.2.2 : Nat) : Int)))], [], 0⟩) [] (fun _ => []) (fun p => [.loop 13 (Nat) (fun q => Nat.gcd p.1 p.2 = Nat.gcd q p.2 ∧ 0 < q ∧ q ≤ p.1) (fun q => q) (fun q => ⟨[(0, .dgs q (nd q)), (1, .dgs p.2 (nd p.2)), (5, .ex (.int .i64 ((g.2.2 : Nat) : Int)))], [], 0⟩) [] (fun _ => []) (fun q => [.reg 13 [(1, .callS (.ex (.bool (decide (((q % 2 : Nat) : Int) = 0)))) [])], .reg 14 [(1, .callS (.dgs (q / 2) (nd (q / 2))) [])], .reg 15 [(2, .callS (.ex (.int .i64 (cmpN q p.2))) [])], .conv 19 [] ⟨[(0, .dgs (max q p.2) (nd (max q p.2))), (1, .dgs (min q p.2) (nd (min q p.2))), (5, .ex (.int .i64 ((g.2.2 : Nat) : Int)))], [], 0⟩, .reg 19 [(2, .callS (.dgs ((max q p.2) - (min q p.2)) (nd ((max q p.2) - (min q p.2)))) [])], .conv 19 [] ⟨[(0, .dgs (max q p.2) (nd (max q p.2))), (1, .dgs (min q p.2) (nd (min q p.2))), (5, .ex (.int .i64 ((g.2.2 : Nat) : Int)))], [], 0⟩, .reg 19 [(2, .callS (.dgs ((max q p.2) - (min q p.2)) (nd ((max q p.2) - (min q p.2)))) [])]]), .reg 20 [(2, .callS (.dgs (p.2 * 2 ^ g.2.2) (nd (p.2 * 2 ^ g.2.2))) [])]])])])]) Tryz.func141 ((∀ j0, j0 < (nd x) → True) ∧ (∀ j0, j0 < (nd y) → True) ∧ (((decide (((nd x : Nat) : Int) = 0)) = true → (((nd y : Nat) = (nd (Nat.gcd x y))) ∧ (∀ j0, j0 < (nd y) → (((dg y j0 : Nat) : Int) = (dg (Nat.gcd x y) j0 : Int))))) ∧ ((decide (((nd x : Nat) : Int) = 0)) = false → (((decide (((nd y : Nat) : Int) = 0)) = true → (((nd x : Nat) = (nd (Nat.gcd x y))) ∧ (∀ j0, j0 < (nd x) → (((dg x j0 : Nat) : Int) = (dg (Nat.gcd x y) j0 : Int))))) ∧ ((decide (((nd y : Nat) : Int) = 0)) = false → ((∃ g0 : Nat × Nat × Nat, ((nd x : Nat) = (nd g0.1)) ∧ (∀ j0, j0 < (nd x) → (((dg x j0 : Nat) : Int) = (dg g0.1 j0 : Int))) ∧ ((nd y : Nat) = (nd g0.2.1)) ∧ (∀ j0, j0 < (nd y) → (((dg y j0 : Nat) : Int) = (dg g0.2.1 j0 : Int))) ∧ ((0 : Int) = ((g0.2.2 : Nat) : Int)) ∧ (Nat.gcd x y = Nat.gcd g0.1 g0.2.1 * 2 ^ g0.2.2 ∧ g0.1 * 2 ^ g0.2.2 = x ∧ 0 < g0.1 ∧ 0 < g0.2.1 ∧ nd g0.2.1 ≤ nd y ∧ nd g0.1 ≤ nd x)) ∧ ∀ g : Nat × Nat × Nat, (Nat.gcd x y = Nat.gcd g.1 g.2.1 * 2 ^ g.2.2 ∧ g.1 * 2 ^ g.2.2 = x ∧ 0 < g.1 ∧ 0 < g.2.1 ∧ nd g.2.1 ≤ nd y ∧ nd g.1 ≤ nd x) → _ ∧ (((decide (((g.1 % 2 : Nat) : Int) = 0)) == true) = true → ((decide (((g.1 % 2 : Nat) : Int) = 0)) == true) = true) ∧ (((decide (((g.1 % 2 : Nat) : Int) = 0)) == true) = true → _) ∧ ((decide (((g.1 % 2 : Nat) : Int) = 0)) = true → ((decide (((g.1 % 2 : Nat) : Int) = 0)) == true) = true) ∧ (((bif (decide (((g.1 % 2 : Nat) : Int) = 0)) then (decide (((g.2.1 % 2 : Nat) : Int) = 0)) else false) = true → _ ∧ _ ∧ _ ∧ (∃ g1 : Nat × Nat × Nat, ((nd (g.1 / 2) : Nat) = (nd g1.1)) ∧ (∀ j0, j0 < (nd (g.1 / 2)) → (((dg (g.1 / 2) j0 : Nat) : Int) = (dg g1.1 j0 : Int))) ∧ ((nd (g.2.1 / 2) : Nat) = (nd g1.2.1)) ∧ (∀ j0, j0 < (nd (g.2.1 / 2)) → (((dg (g.2.1 / 2) j0 : Nat) : Int) = (dg g1.2.1 j0 : Int))) ∧ (((g.2.2 + 1 : Nat) : Int) = ((g1.2.2 : Nat) : Int)) ∧ (Nat.gcd x y = Nat.gcd g1.1 g1.2.1 * 2 ^ g1.2.2 ∧ g1.1 * 2 ^ g1.2.2 = x ∧ 0 < g1.1 ∧ 0 < g1.2.1 ∧ nd g1.2.1 ≤ nd y ∧ nd g1.1 ≤ nd x) ∧ (g1.1 < g.1))) ∧ ((bif (decide (((g.1 % 2 : Nat) : Int) = 0)) then (decide (((g.2.1 % 2 : Nat) : Int) = 0)) else false) = false → (((fun X1 X2 X3 : Prop => ∃ h0 : Nat, X1 ∧ X2 ∧ ((nd g.2.1 : Nat) = (nd h0)) ∧ (∀ j0, j0 < (nd g.2.1) → (((dg g.2.1 j0 : Nat) : Int) = (dg h0 j0 : Int))) ∧ X3 ∧ (Nat.gcd g.1 g.2.1 = Nat.gcd g.1 h0 ∧ 0 < h0 ∧ (g.1 % 2 = 1 ∨ h0 % 2 = 1) ∧ nd h0 ≤ nd y)) _ _ _) ∧ ∀ h : Nat, (Nat.gcd g.1 g.2.1 = Nat.gcd g.1 h ∧ 0 < h ∧ (g.1 % 2 = 1 ∨ h % 2 = 1) ∧ nd h ≤ nd y) → _ ∧ (((decide (((h % 2 : Nat) : Int) = 0)) = true → _ ∧ ((fun X1 X2 X3 : Prop => ∃ h1 : Nat, X1 ∧ X2 ∧ ((nd (h / 2) : Nat) = (nd h1)) ∧ (∀ j0, j0 < (nd (h / 2)) → (((dg (h / 2) j0 : Nat) : Int) = (dg h1 j0 : Int))) ∧ X3 ∧ (Nat.gcd g.1 g.2.1 = Nat.gcd g.1 h1 ∧ 0 < h1 ∧ (g.1 % 2 = 1 ∨ h1 % 2 = 1) ∧ nd h1 ≤ nd y) ∧ (h1 < h)) _ _ _)) ∧ ((decide (((h % 2 : Nat) : Int) = 0)) = false → (((fun X1 : Prop => ∃ p0 : Nat × Nat, ((nd g.1 : Nat) = (nd p0.1)) ∧ (∀ j0, j0 < (nd g.1) → (((dg g.1 j0 : Nat) : Int) = (dg p0.1 j0 : Int))) ∧ ((nd h : Nat) = (nd p0.2)) ∧ (∀ j0, j0 < (nd h) → (((dg h j0 : Nat) : Int) = (dg p0.2 j0 : Int))) ∧ X1 ∧ (Nat.gcd g.1 g.2.1 = Nat.gcd p0.1 p0.2 ∧ 0 < p0.2 ∧ p0.2 % 2 = 1 ∧ nd p0.1 ≤ max (nd x) (nd y) ∧ nd p0.2 ≤ max (nd x) (nd y))) _) ∧ ∀ p : Nat × Nat, (Nat.gcd g.1 g.2.1 = Nat.gcd p.1 p.2 ∧ 0 < p.2 ∧ p.2 % 2 = 1 ∧ nd p.1 ≤ max (nd x) (nd y) ∧ nd p.2 ≤ max (nd x) (nd y)) → (((decide ((0 : Int) < (nd p.1 : Int))) = true → (((fun X1 X2 X3 : Prop => ∃ q0 : Nat, ((nd p.1 : Nat) = (nd q0)) ∧ (∀ j0, j0 < (nd p.1) → (((dg p.1 j0 : Nat) : Int) = (dg q0 j0 : Int))) ∧ X1 ∧ X2 ∧ X3 ∧ (Nat.gcd p.1 p.2 = Nat.gcd q0 p.2 ∧ 0 < q0 ∧ q0 ≤ p.1)) _ _ _) ∧ ∀ q : Nat, (Nat.gcd p.1 p.2 = Nat.gcd q p.2 ∧ 0 < q ∧ q ≤ p.1) → _ ∧ (((decide (((q % 2 : Nat) : Int) = 0)) = true → _ ∧ ((fun X1 X2 X3 : Prop => ∃ q1 : Nat, ((nd (q / 2) : Nat) = (nd q1)) ∧ (∀ j0, j0 < (nd (q / 2)) → (((dg (q / 2) j0 : Nat) : Int) = (dg q1 j0 : Int))) ∧ X1 ∧ X2 ∧ X3 ∧ (Nat.gcd p.1 p.2 = Nat.gcd q1 p.2 ∧ 0 < q1 ∧ q1 ≤ p.1) ∧ (q1 < q)) _ _ _)) ∧ ((decide (((q % 2 : Nat) : Int) = 0)) = false → _ ∧ (((decide ((cmpN q p.2 : Int) < 0)) = true → ((nd p.2 : Nat) = (nd (max q p.2))) ∧ (∀ j0, j0 < (nd p.2) → (((dg p.2 j0 : Nat) : Int) = (dg (max q p.2) j0 : Int))) ∧ ((nd q : Nat) = (nd (min q p.2))) ∧ (∀ j0, j0 < (nd q) → (((dg q j0 : Nat) : Int) = (dg (min q p.2) j0 : Int))) ∧ _ ∧ _ ∧ ((fun X1 : Prop => ∃ p1 : Nat × Nat, ((nd ((max q p.2) - (min q p.2)) : Nat) = (nd p1.1)) ∧ (∀ j0, j0 < (nd ((max q p.2) - (min q p.2))) → (((dg ((max q p.2) - (min q p.2)) j0 : Nat) : Int) = (dg p1.1 j0 : Int))) ∧ ((nd (min q p.2) : Nat) = (nd p1.2)) ∧ (∀ j0, j0 < (nd (min q p.2)) → (((dg (min q p.2) j0 : Nat) : Int) = (dg p1.2 j0 : Int))) ∧ X1 ∧ (Nat.gcd g.1 g.2.1 = Nat.gcd p1.1 p1.2 ∧ 0 < p1.2 ∧ p1.2 % 2 = 1 ∧ nd p1.1 ≤ max (nd x) (nd y) ∧ nd p1.2 ≤ max (nd x) (nd y)) ∧ (p1.1 + p1.2 < p.1 + p.2)) _)) ∧ ((decide ((cmpN q p.2 : Int) < 0)) = false → ((nd q : Nat) = (nd (max q p.2))) ∧ (∀ j0, j0 < (nd q) → (((dg q j0 : Nat) : Int) = (dg (max q p.2) j0 : Int))) ∧ ((nd p.2 : Nat) = (nd (min q p.2))) ∧ (∀ j0, j0 < (nd p.2) → (((dg p.2 j0 : Nat) : Int) = (dg (min q p.2) j0 : Int))) ∧ _ ∧ _ ∧ ((fun X1 : Prop => ∃ p1 : Nat × Nat, ((nd ((max q p.2) - (min q p.2)) : Nat) = (nd p1.1)) ∧ (∀ j0, j0 < (nd ((max q p.2) - (min q p.2))) → (((dg ((max q p.2) - (min q p.2)) j0 : Nat) : Int) = (dg p1.1 j0 : Int))) ∧ ((nd (min q p.2) : Nat) = (nd p1.2)) ∧ (∀ j0, j0 < (nd (min q p.2)) → (((dg (min q p.2) j0 : Nat) : Int) = (dg p1.2 j0 : Int))) ∧ X1 ∧ (Nat.gcd g.1 g.2.1 = Nat.gcd p1.1 p1.2 ∧ 0 < p1.2 ∧ p1.2 % 2 = 1 ∧ nd p1.1 ≤ max (nd x) (nd y) ∧ nd p1.2 ≤ max (nd x) (nd y)) ∧ (p1.1 + p1.2 < p.1 + p.2)) _))))))) ∧ ((decide ((0 : Int) < (nd p.1 : Int))) = false → _ ∧ (((nd (p.2 * 2 ^ g.2.2) : Nat) = (nd (Nat.gcd x y))) ∧ (∀ j0, j0 < (nd (p.2 * 2 ^ g.2.2)) → (((dg (p.2 * 2 ^ g.2.2) j0 : Nat) : Int) = (dg (Nat.gcd x y) j0 : Int))))))))))))))))))
  ⟨(fun _ _ => trivial), (fun _ _ => trivial), fun hc9 => have hc9 := dT hc9; have hz := (nd_eq_zero x).1 zo; have he : Nat.gcd x y = y := (by rw [hz]; exact Nat.gcd_zero_left y); ⟨(by rw [he]), (fun j0 hj0 => (by rw [he]))⟩, fun hc9 => have hc9 := dF hc9; have hx1 : x ≠ 0 := (fun e => by rw [e] at hc9; exact hc9 rfl); ⟨fun hc13 => have hc13 := dT hc13; have hz := (nd_eq_zero y).1 zo; have he : Nat.gcd x y = x := (by rw [hz]; exact Nat.gcd_zero_right x); ⟨(by rw [he]), (fun j0 hj0 => (by rw [he]))⟩, fun hc13 => have hc13 := dF hc13; have hy1 : y ≠ 0 := (fun e => by rw [e] at hc13; exact hc13 rfl); ⟨⟨(x, y, 0), rfl, (fun j0 hj0 => rfl), rfl, (fun j0 hj0 => rfl), rfl, (Nat.mul_one _).symm, Nat.mul_one _, Nat.pos_of_ne_zero hx1, Nat.pos_of_ne_zero hy1, Nat.le_refl _, Nat.le_refl _⟩, fun g hg => have hg1 := hg.2.2.1; have hg2 := hg.2.2.2.1; have hg3 := hg.2.2.2.2.1; have hg4 := hg.2.2.2.2.2; have ht := pow_lt_nd hg.2.1 hg1; ⟨sEven (x := g.1), id, (fun hg => sEven (x := g.2.1)), (by first | (simp; done) | (simp; omega)), fun hc20 => have hc := bifT hc20; ⟨sHalved (x := g.1) zo, sHalved (x := g.2.1) zo, (wI (g := g.2.2) zo), (g.1 / 2, g.2.1 / 2, g.2.2 + 1), rfl, (fun j0 hj0 => rfl), rfl, (fun j0 hj0 => rfl), rfl, (halve_inv hg zo zo), (by show g.1 / 2 < g.1; omega)⟩, fun hc20 => have hc := bifF hc20; ⟨⟨g.2.1, (rf (nd g.1 : Nat)), (leS (fun i0 => .ex (.int .i64 (dg g.1 i0 : Int))) (nd g.1)), zo, (fun j0 hj0 => zo), (rf ((g.2.2 : Nat) : Int)), rfl, hg2, by omega, hg3⟩, fun h hh => have hh1 := hh.2.1; have hh2 := hh.2.2.1; have hh3 := hh.2.2.2; ⟨sEven (x := h), fun hc28 => have hc28 := dT hc28; ⟨sHalved (x := h) zo, h / 2, (rf (nd g.1 : Nat)), (leS (fun i0 => .ex (.int .i64 (dg g.1 i0 : Int))) (nd g.1)), zo, (fun j0 hj0 => zo), (rf ((g.2.2 : Nat) : Int)), ⟨by rw [hh.1, gcd_odd_2 zo zo], by omega, by omega, by have := nd_div h 2; omega⟩, zo⟩, fun hc28 => have hc28 := dF hc28; ⟨⟨(g.1, h), rfl, (fun j0 hj0 => rfl), rfl, (fun j0 hj0 => rfl), (rf ((g.2.2 : Nat) : Int)), hh.1, hh1, by show h % 2 = 1; omega, by show nd g.1 ≤ _; omega, by show nd h ≤ _; omega⟩, fun p hp => have hp1 := hp.2.1; have hp2 := hp.2.2.1; have hp3 := hp.2.2.2.1; have hp4 := hp.2.2.2.2; ⟨fun hc33 => have hc33 := dT hc33; have hpn : p.1 ≠ 0 := (fun e => by rw [e] at hc33; exact absurd hc33 (by decide)); ⟨⟨p.1, zo, (fun j0 hj0 => zo), (rf (nd p.2 : Nat)), (leS (fun i0 => .ex (.int .i64 (dg p.2 i0 : Int))) (nd p.2)), (rf ((g.2.2 : Nat) : Int)), rfl, by omega, Nat.le_refl _⟩, fun q hq => have hq1 := hq.2.1; have hq2 := hq.2.2; have hq3 := nd_mono hq2; ⟨sEven (x := q), fun hc35 => have hc35 := dT hc35; ⟨sHalved (x := q) zo, q / 2, zo, (fun j0 hj0 => zo), (rf (nd p.2 : Nat)), (leS (fun i0 => .ex (.int .i64 (dg p.2 i0 : Int))) (nd p.2)), (rf ((g.2.2 : Nat) : Int)), ⟨by rw [hq.1, gcd_2_odd zo hp2], by omega, by omega⟩, zo⟩, fun hc35 => have hc35 := dF hc35; ⟨sRefCmp (x := q) (y := p.2) zo, fun hc41 => have hc41 := dT hc41; have hlt := cmpN_neg.1 hc41; have hmx := Nat.max_eq_right (Nat.le_of_lt hlt); have hmn := Nat.min_eq_left (Nat.le_of_lt hlt); have hmb : nd (max q p.2) ≤ max (nd x) (nd y) := (by rw [hmx]; omega); ⟨(by rw [hmx]), (fun j0 hj0 => (by rw [hmx])), (by rw [hmn]), (fun j0 hj0 => (by rw [hmn])), (rf ((g.2.2 : Nat) : Int)), sRefSub (x := max q p.2) (y := min q p.2) zo zo, (max q p.2 - min q p.2, min q p.2), rfl, (fun j0 hj0 => rfl), rfl, (fun j0 hj0 => rfl), (rf ((g.2.2 : Nat) : Int)), (by have k := gcd_stp hq1 hp1 zo hp2; have b1 := nd_mono k.2.2.2.2.1; have b2 := nd_mono k.2.2.2.2.2; have b3 : nd (max q p.2) ≤ max (nd x) (nd y) := (by rcases Nat.le_total q p.2 with e | e; (rw [Nat.max_eq_right e]; omega); (rw [Nat.max_eq_left e]; omega)); exact ⟨hp.1.trans (hq.1.trans k.1), k.2.1, k.2.2.1, by show nd (max q p.2 - min q p.2) ≤ _; omega, by show nd (min q p.2) ≤ _; omega⟩), (Nat.lt_of_lt_of_le (gcd_stp hq1 hp1 zo hp2).2.2.2.1 zo)⟩, fun hc41 => have hc41 := dF hc41; have hlt := Nat.le_of_not_lt (fun e => hc41 (cmpN_neg.2 e)); have hmx := Nat.max_eq_left hlt; have hmn := Nat.min_eq_right hlt; have hmb : nd (max q p.2) ≤ max (nd x) (nd y) := (by rw [hmx]; omega); ⟨(by rw [hmx]), (fun j0 hj0 => (by rw [hmx])), (by rw [hmn]), (fun j0 hj0 => (by rw [hmn])), (rf ((g.2.2 : Nat) : Int)), sRefSub (x := max q p.2) (y := min q p.2) zo zo, (max q p.2 - min q p.2, min q p.2), rfl, (fun j0 hj0 => rfl), rfl, (fun j0 hj0 => rfl), (rf ((g.2.2 : Nat) : Int)), (by have k := gcd_stp hq1 hp1 zo hp2; have b1 := nd_mono k.2.2.2.2.1; have b2 := nd_mono k.2.2.2.2.2; have b3 : nd (max q p.2) ≤ max (nd x) (nd y) := (by rcases Nat.le_total q p.2 with e | e; (rw [Nat.max_eq_right e]; omega); (rw [Nat.max_eq_left e]; omega)); exact ⟨hp.1.trans (hq.1.trans k.1), k.2.1, k.2.2.1, by show nd (max q p.2 - min q p.2) ≤ _; omega, by show nd (min q p.2) ≤ _; omega⟩), (Nat.lt_of_lt_of_le (gcd_stp hq1 hp1 zo hp2).2.2.2.1 zo)⟩⟩⟩⟩, fun hc33 => have hc33 := dF hc33; have hpz := (nd_eq_zero p.1).1 zo; have he : Nat.gcd x y = p.2 * 2 ^ g.2.2 := (by rw [hg.1, hp.1, hpz, Nat.gcd_zero_left]); ⟨sRefShl (x := p.2) (k := g.2.2) zo zo, (by rw [he]), (fun j0 hj0 => (by rw [he]))⟩⟩⟩⟩⟩⟩⟩⟩⟩
open Go.RowKit
def SV.zt (z : Int) : SV := .agg (.cn (.ex (.bool (decide (z < 0)))) (.cn (.dgs z.natAbs (nd z.natAbs)) .nl))
def SV.qt (q : Rat) : SV := .agg (.cn (.zt q.num) (.cn (.dgs q.den (nd q.den)) .nl))
theorem sgn_lt {b : Bool} {x : Nat} : (bif b then decide ((0 : Int) < (nd x : Int)) else false) = decide (signed b x < 0) := by
 have := nd_eq_zero x
 cases b
 ·simp [signed]
 ·simp only [signed, if_true, cond_true, decide_eq_decide]; omega
theorem nd_num (q : Rat) : nd q.num.natAbs ≤ 4 * szq q := Nat.le_trans (nd_nw _) (Nat.mul_le_mul_left 4 (szq_num q))
theorem nd_den (q : Rat) : nd q.den ≤ 4 * szq q := Nat.le_trans (nd_nw _) (Nat.mul_le_mul_left 4 (szq_den q))
theorem like02 {x y : Nat} : (bif decide (x = y) then decide (((nw y : Nat) : Int) = (nw x : Int)) else false) = decide (x = y) := by
 by_cases h : x = y
 ·subst h; simp
 ·simp [h]
theorem like07 {y z s : Int} (hs : s = z.sign) : (bif (bif ((decide (y < 0)) == (decide (z < 0))) then decide (y.sign = s) else false) then decide (z.natAbs = y.natAbs) else false) = decide (z = y) := by
 subst hs
 by_cases h : z = y
 ·subst h; simp
 ·rw [decide_eq_false h]
  by_cases k : y.sign = z.sign
  ·have : ¬ z.natAbs = y.natAbs := fun e => h (by rw [← Int.sign_mul_natAbs z, ← Int.sign_mul_natAbs y, k, e])
   simp [this]
  ·simp [k]
theorem like5 {A B C D E R : Bool} (h1 : R = true → A = true ∧ B = true ∧ C = true ∧ D = true ∧ E = true) (h2 : R = false → A = false ∨ B = false) : (bif (bif (bif (bif A then B else false) then C else false) then D else false) then E else false) = R := by
 cases R
 ·rcases h2 rfl with h | h <;> subst h <;> simp
 ·obtain ⟨rfl, rfl, rfl, rfl, rfl⟩ := h1 rfl; rfl
theorem like08 {p q : Rat} : (bif (bif (bif (bif decide (p.num = q.num) then decide (p.den = q.den) else false) then (decide (q.den = 1)) == (decide (cmpN p.den 1 = 0)) else false) then (decide (q = 0)) == (decide (((nd p.num.natAbs : Nat) : Int) = 0)) else false) then decide (((Wd.blen q.num.natAbs + Wd.blen q.den : Nat) : Int) = ((Wd.blen p.num.natAbs + Wd.blen p.den : Nat) : Int)) else false) = decide (p = q) := by
 refine like5 (fun h => ?_) (fun h => ?_)
 ·have h := of_decide_eq_true h
  subst h
  refine ⟨decide_eq_true rfl, decide_eq_true rfl, beq_iff_eq.2 (decide_eq_decide.2 cmpN_zero.symm), beq_iff_eq.2 (decide_eq_decide.2 ?_), decide_eq_true rfl⟩
  have := nd_eq_zero p.num.natAbs
  rw [← Rat.num_eq_zero]; omega
 ·have h := of_decide_eq_false h
  by_cases k : p.num = q.num
  ·exact .inr (decide_eq_false fun e => h (Rat.ext k e))
  ·exact .inl (decide_eq_false k)
theorem sZNew {b : Bool} {x : Nat}  : CallOK Tryz.prog 139 [.ex (.bool b), .dgs x (nd x)] (.zt (signed b x)) [] := by
 exact kP (ch := []) Tryz.func139 ((∀ j0, j0 < (nd x) → True) ∧ ((b == true) = true → (b == true) = true) ∧ ((b == true) = true → (b == true) = true) ∧ (b = true → (b == true) = true) ∧ (((bif b then (decide ((0 : Int) < (nd x : Int))) else false : Bool) = (decide ((signed b x) < 0))) ∧ ((nd x : Nat) = (nd ((signed b x).natAbs))) ∧ (∀ j0, j0 < (nd x) → (((dg x j0 : Nat) : Int) = (dg ((signed b x).natAbs) j0 : Int)))))
  ⟨(fun _ _ => trivial), id, id, (by first | (simp; done) | (simp; omega)), sgn_lt, (by rw [natAbs_sg]), (fun j0 hj0 => (by rw [natAbs_sg]))⟩
theorem sQNew {p d : Int} (hd : d ≠ 0) (hp2 : nd p.natAbs ≤ 1073741824) (hd2 : nd d.natAbs ≤ 1073741824) : CallOK Tryz.prog 122 [.zt p, .zt d] (.qt (Rat.divInt p d)) [] := by
 have hg : 0 < Nat.gcd p.natAbs d.natAbs := Nat.gcd_pos_of_pos_right _ zo
 exact kP (ch := [.reg 1 [(4, .callS (.dgs (Nat.gcd p.natAbs d.natAbs) (nd (Nat.gcd p.natAbs d.natAbs))) [])], .reg 2 [(3, .callS (.cn (.dgs (p.natAbs / (Nat.gcd p.natAbs d.natAbs)) (nd (p.natAbs / (Nat.gcd p.natAbs d.natAbs)))) (.cn (.dgs (p.natAbs % (Nat.gcd p.natAbs d.natAbs)) (nd (p.natAbs % (Nat.gcd p.natAbs d.natAbs)))) (.nl))) [])], .reg 3 [(3, .callS (.cn (.dgs (d.natAbs / (Nat.gcd p.natAbs d.natAbs)) (nd (d.natAbs / (Nat.gcd p.natAbs d.natAbs)))) (.cn (.dgs (d.natAbs % (Nat.gcd p.natAbs d.natAbs)) (nd (d.natAbs % (Nat.gcd p.natAbs d.natAbs)))) (.nl))) [])], .reg 4 [(6, .callS (.zt (signed (!((decide (p < 0)) == (decide (d < 0)))) (p.natAbs / (Nat.gcd p.natAbs d.natAbs)))) [])]]) Tryz.func122 ((∀ j0, j0 < (nd p.natAbs) → True) ∧ (∀ j0, j0 < (nd d.natAbs) → True) ∧ _ ∧ _ ∧ _ ∧ _ ∧ (((decide ((signed (!((decide (p < 0)) == (decide (d < 0)))) (p.natAbs / (Nat.gcd p.natAbs d.natAbs))) < 0) : Bool) = (decide (((Rat.divInt p d).num) < 0))) ∧ ((nd ((signed (!((decide (p < 0)) == (decide (d < 0)))) (p.natAbs / (Nat.gcd p.natAbs d.natAbs))).natAbs) : Nat) = (nd (((Rat.divInt p d).num).natAbs))) ∧ (∀ j0, j0 < (nd ((signed (!((decide (p < 0)) == (decide (d < 0)))) (p.natAbs / (Nat.gcd p.natAbs d.natAbs))).natAbs)) → (((dg ((signed (!((decide (p < 0)) == (decide (d < 0)))) (p.natAbs / (Nat.gcd p.natAbs d.natAbs))).natAbs) j0 : Nat) : Int) = (dg (((Rat.divInt p d).num).natAbs) j0 : Int))) ∧ ((nd (d.natAbs / (Nat.gcd p.natAbs d.natAbs)) : Nat) = (nd ((Rat.divInt p d).den))) ∧ (∀ j0, j0 < (nd (d.natAbs / (Nat.gcd p.natAbs d.natAbs))) → (((dg (d.natAbs / (Nat.gcd p.natAbs d.natAbs)) j0 : Nat) : Int) = (dg ((Rat.divInt p d).den) j0 : Int)))))
  ⟨(fun _ _ => trivial), (fun _ _ => trivial), sRefGcd (x := p.natAbs) (y := d.natAbs) zo zo, sRefDivMod (n := p.natAbs) (d := Nat.gcd p.natAbs d.natAbs) zo zo, sRefDivMod (n := d.natAbs) (d := Nat.gcd p.natAbs d.natAbs) zo zo, sZNew (b := ! ((decide (p < 0)) == (decide (d < 0)))) (x := p.natAbs / (Nat.gcd p.natAbs d.natAbs)), (by rw [new_num2 p d hd]), (by first | rw [new_num2 p d hd] | rw [new_den2 p d hd]), (fun j0 hj0 => (by first | rw [new_num2 p d hd] | rw [new_den2 p d hd])), (by first | rw [new_num2 p d hd] | rw [new_den2 p d hd]), (fun j0 hj0 => (by first | rw [new_num2 p d hd] | rw [new_den2 p d hd]))⟩
theorem sLike2 {x y : Nat} (hx : nd x ≤ 17179869184) : CallOK Tryz.prog 96 [.nat y, .dgs x (nd x)] (.ex (.bool (decide (x = y)))) [] := by
 exact kP (ch := [.reg 1 [(2, .callS (.wds y (nw y)) []), (3, .callS (.ex (.bool (decide (x = y)))) []), (6, .callS (.ex (.int .i64 (nw y : Int))) []), (8, .callS (.wds x (nw x)) [])]]) Tryz.func96 ((∀ j0, j0 < (nd x) → True) ∧ _ ∧ _ ∧ (((decide (x = y)) == true) = true → ((decide (x = y)) == true) = true) ∧ (((decide (x = y)) == true) = true → _) ∧ (((decide (x = y)) == true) = true → ((decide (x = y)) == true) = true) ∧ (((decide (x = y)) == true) = true → _) ∧ (((decide (x = y)) == true) = true → ((decide (x = y)) == true) = true) ∧ (((decide (x = y)) == true) = true → ((decide (x = y)) == true) = true) ∧ (((decide (x = y)) == true) = true → ((decide (x = y)) == true) = true) ∧ ((decide (x = y)) = true → ((decide (x = y)) == true) = true) ∧ (((bif (decide (x = y)) then (decide (((nw y : Nat) : Int) = (nw x : Int))) else false : Bool) = (decide (x = y)))))
  ⟨(fun _ _ => trivial), sNatWords (x := y), sRefIs (x := x) (y := y) zo, id, (fun hg => sNatLen (x := y)), id, (fun hg => sRefWords (x := x) zo), id, id, id, (by first | (simp; done) | (simp; omega)), like02⟩
theorem sLike7 {y z : Int} (hz : nd z.natAbs ≤ 17179869184) : CallOK Tryz.prog 95 [.int y, .zt z] (.ex (.bool (decide (z = y)))) [] := by
 have hn := nd_eq_zero z.natAbs
 exact kP (ch := [.reg 6 [(1, .callS (.ex (.bool (decide (y < 0)))) []), (7, .callS (.ex (.int .i64 y.sign)) []), (13, .callS (.nat y.natAbs) []), (16, .callS (.ex (.bool (decide (z.natAbs = y.natAbs)))) [])], .reg 6 [(1, .callS (.ex (.bool (decide (y < 0)))) []), (7, .callS (.ex (.int .i64 y.sign)) []), (13, .callS (.nat y.natAbs) []), (16, .callS (.ex (.bool (decide (z.natAbs = y.natAbs)))) [])], .reg 6 [(1, .callS (.ex (.bool (decide (y < 0)))) []), (7, .callS (.ex (.int .i64 y.sign)) []), (13, .callS (.nat y.natAbs) []), (16, .callS (.ex (.bool (decide (z.natAbs = y.natAbs)))) [])]]) Tryz.func95 (let y5 := (decide (y < 0)); let y4 := (decide (z < 0)); let y0 := (bif (y5 == y4) then (decide ((y.sign : Int) = (-1))) else false); let y1 := (bif (y5 == y4) then (decide ((y.sign : Int) = 0)) else false); let y2 := (bif (y5 == y4) then (decide ((y.sign : Int) = 1)) else false); let y3 := ((y5 == y4) == true); let y6 := (decide (z.natAbs = y.natAbs)); (∀ j0, j0 < (nd z.natAbs) → True) ∧ ((y4 = true → _ ∧ (y3 = true → y3 = true) ∧ (y3 = true → _) ∧ (y3 = true → y3 = true) ∧ (y3 = true → y3 = true) ∧ ((y5 == y4) = true → y3 = true) ∧ ((y0 == true) = true → (y0 == true) = true) ∧ ((y0 == true) = true → _) ∧ ((y0 == true) = true → (y0 == true) = true) ∧ ((y0 == true) = true → (y0 == true) = true) ∧ ((y0 == true) = true → (y0 == true) = true) ∧ ((y0 == true) = true → _) ∧ (y0 = true → (y0 == true) = true) ∧ (((bif y0 then y6 else false : Bool) = (decide (z = y))))) ∧ (y4 = false → (((decide (((nd z.natAbs : Nat) : Int) = 0)) = true → _ ∧ (y3 = true → y3 = true) ∧ (y3 = true → _) ∧ (y3 = true → y3 = true) ∧ (y3 = true → y3 = true) ∧ ((y5 == y4) = true → y3 = true) ∧ ((y1 == true) = true → (y1 == true) = true) ∧ ((y1 == true) = true → _) ∧ ((y1 == true) = true → (y1 == true) = true) ∧ ((y1 == true) = true → (y1 == true) = true) ∧ ((y1 == true) = true → (y1 == true) = true) ∧ ((y1 == true) = true → _) ∧ (y1 = true → (y1 == true) = true) ∧ (((bif y1 then y6 else false : Bool) = (decide (z = y))))) ∧ ((decide (((nd z.natAbs : Nat) : Int) = 0)) = false → _ ∧ (y3 = true → y3 = true) ∧ (y3 = true → _) ∧ (y3 = true → y3 = true) ∧ (y3 = true → y3 = true) ∧ ((y5 == y4) = true → y3 = true) ∧ ((y2 == true) = true → (y2 == true) = true) ∧ ((y2 == true) = true → _) ∧ ((y2 == true) = true → (y2 == true) = true) ∧ ((y2 == true) = true → (y2 == true) = true) ∧ ((y2 == true) = true → (y2 == true) = true) ∧ ((y2 == true) = true → _) ∧ (y2 = true → (y2 == true) = true) ∧ (((bif y2 then y6 else false : Bool) = (decide (z = y)))))))))
  ⟨(fun _ _ => trivial), fun hc7 => have hc7 := dT hc7; have hs := (Int.sign_eq_neg_one_of_neg hc7).symm; ⟨sIntBelow (z := y), id, (fun hg => sIntSign (z := y)), id, id, (by first | (simp; done) | (simp; omega)), id, (fun hg => sIntAbs (z := y)), id, id, id, (fun hg => sLike2 (x := z.natAbs) (y := y.natAbs) zo), (by first | (simp; done) | (simp; omega)), (like07 hs)⟩, fun hc7 => have hc7 := dF hc7; ⟨fun hc11 => have hc11 := dT hc11; have hs : 0 = z.sign := (by rw [show z = 0 by omega]; rfl); ⟨sIntBelow (z := y), id, (fun hg => sIntSign (z := y)), id, id, (by first | (simp; done) | (simp; omega)), id, (fun hg => sIntAbs (z := y)), id, id, id, (fun hg => sLike2 (x := z.natAbs) (y := y.natAbs) zo), (by first | (simp; done) | (simp; omega)), (like07 hs)⟩, fun hc11 => have hc11 := dF hc11; have hs := (Int.sign_eq_one_of_pos (show 0 < z by omega)).symm; ⟨sIntBelow (z := y), id, (fun hg => sIntSign (z := y)), id, id, (by first | (simp; done) | (simp; omega)), id, (fun hg => sIntAbs (z := y)), id, id, id, (fun hg => sLike2 (x := z.natAbs) (y := y.natAbs) zo), (by first | (simp; done) | (simp; omega)), (like07 hs)⟩⟩⟩
theorem sLike8 {p q : Rat} (hp : szq p ≤ 16777216) : CallOK Tryz.prog 58 [.rat q, .qt p] (.ex (.bool (decide (p = q)))) [] := by
 have h1 := nd_num p
 have h2 := nd_den p
 have h3 : Wd.blen p.num.natAbs ≤ 16 * nd p.num.natAbs := by unfold nd; omega
 have h4 : Wd.blen p.den ≤ 16 * nd p.den := by unfold nd; omega
 exact kP (ch := [.reg 1 [(3, .call [.dgs p.den (nd p.den), .dgs 1 (nd 1)] (.ex (.int .i64 (cmpN p.den 1))) [])], .reg 2 [(1, .callS (.int q.num) []), (4, .callS (.ex (.bool (decide (p.num = q.num)))) []), (7, .callS (.nat q.den) []), (10, .callS (.ex (.bool (decide (p.den = q.den)))) []), (14, .callS (.ex (.bool (decide (q.den = 1)))) []), (20, .callS (.ex (.bool (decide (q = 0)))) []), (30, .callS (.ex (.int .i64 ((Wd.blen q.num.natAbs + Wd.blen q.den : Nat) : Int))) []), (34, .callS (.ex (.int .i64 (Wd.blen p.num.natAbs : Int))) []), (37, .callS (.ex (.int .i64 (Wd.blen p.den : Int))) []), (38, .z ((Wd.blen p.num.natAbs + Wd.blen p.den : Nat) : Int))]]) Tryz.func58 (let y5 := (decide (p.num = q.num)); let y2 := (bif y5 then (decide (p.den = q.den)) else false); let y0 := (bif y2 then ((decide (q.den = 1)) == (decide ((cmpN p.den 1 : Int) = 0))) else false); let y4 := (bif y0 then ((decide (q = 0)) == (decide (((nd p.num.natAbs : Nat) : Int) = 0))) else false); let y1 := (y4 == true); let y3 := (y5 == true); (∀ j0, j0 < (nd p.num.natAbs) → True) ∧ (∀ j0, j0 < (nd p.den) → True) ∧ _ ∧ _ ∧ _ ∧ ((1 : Nat) = (nd 1)) ∧ (∀ j0, j0 < 1 → ((1 : Int) = (dg 1 j0 : Int))) ∧ _ ∧ _ ∧ (y3 = true → y3 = true) ∧ (y3 = true → _) ∧ (y3 = true → y3 = true) ∧ (y3 = true → y3 = true) ∧ (y3 = true → y3 = true) ∧ (y3 = true → _) ∧ (y5 = true → y3 = true) ∧ ((y2 == true) = true → (y2 == true) = true) ∧ ((y2 == true) = true → _) ∧ ((y2 == true) = true → (y2 == true) = true) ∧ ((y2 == true) = true → (y2 == true) = true) ∧ (y2 = true → (y2 == true) = true) ∧ ((y0 == true) = true → (y0 == true) = true) ∧ ((y0 == true) = true → _) ∧ ((y0 == true) = true → (y0 == true) = true) ∧ ((y0 == true) = true → (y0 == true) = true) ∧ ((y0 == true) = true → (y0 == true) = true) ∧ ((y0 == true) = true → (y0 == true) = true) ∧ ((y0 == true) = true → (y0 == true) = true) ∧ ((y0 == true) = true → (y0 == true) = true) ∧ (y0 = true → (y0 == true) = true) ∧ (y1 = true → y1 = true) ∧ (y1 = true → _) ∧ (y1 = true → y1 = true) ∧ (y1 = true → y1 = true) ∧ (y1 = true → y1 = true) ∧ (y1 = true → _) ∧ (y1 = true → y1 = true) ∧ (y1 = true → y1 = true) ∧ (y1 = true → _) ∧ (y1 = true → y1 = true) ∧ (y1 = true → y1 = true) ∧ (y1 = true → IntKind.wrap .i64 (((Wd.blen p.num.natAbs : Nat) : Int) + (Wd.blen p.den : Int)) = (((Wd.blen p.num.natAbs + Wd.blen p.den : Nat) : Int))) ∧ (y1 = true → y1 = true) ∧ (y1 = true → y1 = true) ∧ (y4 = true → y1 = true) ∧ (((bif y4 then (decide (((Wd.blen q.num.natAbs + Wd.blen q.den : Nat) : Int) = ((Wd.blen p.num.natAbs + Wd.blen p.den : Nat) : Int))) else false : Bool) = (decide (p = q)))))
  ⟨(fun _ _ => trivial), (fun _ _ => trivial), sRefCmp (x := p.den) (y := 1) zo, (rf (nd p.den : Nat)), (leS (fun i0 => .ex (.int .i64 (dg p.den i0 : Int))) (nd p.den)), rfl, (fun j0 hj0 => (by rw [show j0 = 0 by omega]; rfl)), sRatNum (q := q), sLike7 (y := q.num) (z := p.num) zo, id, (fun hg => sRatDen (q := q)), id, id, id, (fun hg => sLike2 (x := p.den) (y := q.den) zo), (by first | (simp; done) | (simp; omega)), id, (fun hg => sRatIsInt (q := q)), id, id, (by first | (simp; done) | (simp; omega)), id, (fun hg => sRatZero (q := q)), id, id, id, id, id, id, (by first | (simp; done) | (simp; omega)), id, (fun hg => sRatBits (q := q)), id, id, id, (fun hg => sRefBits (x := p.num.natAbs) zo), id, id, (fun hg => sRefBits (x := p.den) zo), id, id, (fun hg => (by rw [IntKind.wrap_i64]; omega)), id, id, (by first | (simp; done) | (simp; omega)), like08⟩
open Go.RowKit
def cmpFrom (a b : Nat → Rat) : Nat → Nat → Int
 | 0, _ => 0
 | k + 1, i => if a i = b i then cmpFrom a b k (i + 1) else cmpQ (a i) (b i)
def cmpVec (a : Nat → Rat) (n : Nat) (b : Nat → Rat) (m : Nat) : Int :=
 if cmpFrom a b (min n m) 0 = 0 then (if n < m then -1 else if n > m then 1 else 0) else cmpFrom a b (min n m) 0
theorem cmpQ_zero (p q : Rat) : cmpQ p q = 0 ↔ p = q := by unfold cmpQ; grind
theorem cmp_zero {p q : Rat} (h : ((cmpQ p q : Int) != (0 : Int)) = false) : p = q := (cmpQ_zero p q).1 (by simpa using h)
theorem cmp_nz {p q : Rat} (h : ((cmpQ p q : Int) != (0 : Int)) = true) : p ≠ q := fun e => by
 rw [(cmpQ_zero p q).2 e] at h
 exact absurd h (by decide)
theorem eq_step {a b : Nat → Rat} {i : Nat} (h : ∀ j, j < i → a j = b j) (e : a i = b i) : ∀ j, j < i + 1 → a j = b j := fun j hj => by
 by_cases hji : j = i
 ·subst hji; exact e
 ·exact h j zo
theorem cmpFrom_skip {a b : Nat → Rat} : ∀ (i : Nat) {N : Nat}, i ≤ N → (∀ j, j < i → a j = b j) → cmpFrom a b N 0 = cmpFrom a b (N - i) i
 | 0, _, _, _ => rfl
 | i + 1, N, h, he => by
  rw [cmpFrom_skip i zo fun j hj => he j zo]
  have e : N - i = (N - (i + 1)) + 1 := by omega
  rw [e]
  show (if a i = b i then _ else _) = _
  rw [if_pos (he i zo)]
theorem cmpVec_at {a b : Nat → Rat} {n m i : Nat} (h1 : i < n) (h2 : i < m) (he : ∀ j, j < i → a j = b j) (hd : a i ≠ b i) : cmpVec a n b m = cmpQ (a i) (b i) := by
 have e : cmpFrom a b (min n m) 0 = cmpQ (a i) (b i) := by
  rw [cmpFrom_skip i zo he]
  have e : min n m - i = (min n m - (i + 1)) + 1 := by omega
  rw [e]
  show (if a i = b i then _ else _) = _
  rw [if_neg hd]
 unfold cmpVec
 rw [e, if_neg fun h => hd ((cmpQ_zero _ _).1 h)]
theorem cmpVec_end {a b : Nat → Rat} {n m i : Nat} {z : Int} (h1 : i ≤ n) (h2 : i ≤ m) (h3 : min n m ≤ i) (he : ∀ j, j < i → a j = b j)
  (hz : (z = -1 ∧ decide ((((n : Nat) : Int) : Int) < (((m : Nat) : Int) : Int)) = true) ∨ (z = 1 ∧ decide ((((n : Nat) : Int) : Int) < (((m : Nat) : Int) : Int)) = false ∧ decide ((((n : Nat) : Int) : Int) > (((m : Nat) : Int) : Int)) = true) ∨ (z = 0 ∧ decide ((((n : Nat) : Int) : Int) < (((m : Nat) : Int) : Int)) = false ∧ decide ((((n : Nat) : Int) : Int) > (((m : Nat) : Int) : Int)) = false)) : cmpVec a n b m = z := by
 have e : cmpFrom a b (min n m) 0 = 0 := by
  rw [cmpFrom_skip i zo he, show min n m - i = 0 by omega]
  rfl
 unfold cmpVec
 rw [if_pos e]
 rcases hz with ⟨rfl, h⟩ | ⟨rfl, h, h'⟩ | ⟨rfl, h, h'⟩
 ·have := of_decide_eq_true h
  rw [if_pos zo]
 ·have := of_decide_eq_true h'
  rw [if_neg zo, if_pos zo]
 ·have := of_decide_eq_false h
  have := of_decide_eq_false h'
  rw [if_neg zo, if_neg zo]
theorem cmpVec_zero {a b : Nat → Rat} {n m : Nat} : cmpVec a n b m = 0 ↔ n = m ∧ ∀ j, j < n → a j = b j := by
 have key : ∀ k i, cmpFrom a b k i = 0 ↔ ∀ j, i ≤ j → j < i + k → a j = b j := by
  intro k
  induction k with
  | zero => intro i; exact ⟨fun _ j h1 h2 => by omega, fun _ => rfl⟩
  | succ k ih =>
   intro i
   show (if a i = b i then _ else _) = 0 ↔ _
   by_cases h : a i = b i
   ·rw [if_pos h, ih]
    exact ⟨fun hh j h1 h2 => by
     by_cases e : j = i
     ·subst e; exact h
     ·exact hh j zo zo, fun hh j h1 h2 => hh j zo zo⟩
   ·rw [if_neg h, cmpQ_zero]
    exact ⟨fun e => absurd e h, fun hh => absurd (hh i zo zo) h⟩
 unfold cmpVec
 by_cases h : cmpFrom a b (min n m) 0 = 0
 ·rw [if_pos h]
  rw [key] at h
  constructor
  ·intro hz
   have hnm : n = m := by
    by_cases h1 : n < m
    ·rw [if_pos h1] at hz; omega
    ·rw [if_neg h1] at hz
     by_cases h2 : n > m
     ·rw [if_pos h2] at hz; omega
     ·omega
   exact ⟨hnm, fun j hj => h j zo zo⟩
  ·rintro ⟨rfl, _⟩
   rw [if_neg zo, if_neg zo]
 ·rw [if_neg h]
  constructor
  ·intro hz; exact absurd hz h
  ·rintro ⟨rfl, he⟩
   exact absurd ((key _ _).2 fun j _ hj => he j zo) h
def dotQ (a b : Nat → Rat) : Nat → Rat
 | 0 => 0
 | n + 1 => dotQ a b n + a n * b n
theorem dot_skip {a b : Nat → Rat} {i : Nat} (h : ((!(decide (a i = 0))) && (!(decide (b i = 0)))) = false) : dotQ a b i = dotQ a b (i + 1) := by
 have : a i * b i = 0 := by
  simp only [Bool.and_eq_false_iff, Bool.not_eq_false', decide_eq_true_eq] at h
  rcases h with h | h <;> rw [h] <;> simp
 show _ = dotQ a b i + a i * b i
 rw [this, Rat.add_zero]
end Go.Proofs.YtgighdoacajmfaaGreat
