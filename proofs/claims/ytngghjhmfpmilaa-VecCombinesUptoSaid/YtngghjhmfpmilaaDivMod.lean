/- quot.DivMod. -/
import Derived.Test.YtngghjhmfpmilaaDivC
import Derived.Test.YtngghjhmfpmilaaTake
import Derived.Test.YtngghjhmfpmilaaGuess
import Derived.Test.YtngghjhmfpmilaaRatM
import Derived.Test.YtngghjhmfpmilaaIntA
import Derived.Test.YtngghjhmfpmilaaMul
import Derived.Deep.LoopGhost
namespace Go.Proofs.Ytngghjhmfpmilaa
open Go.RowKit
theorem dm_lt {x y : Nat} (h : cmpV x y < 0) : x < y := by unfold cmpV at h; split at h <;> (try split at h) <;> omega
theorem dm_ge {x y : Nat} (h : ¬ cmpV x y < 0) : y ≤ x := by unfold cmpV at h; split at h <;> (try split at h) <;> omega
theorem dm_mono {x y : Nat} (h : y ≤ x) : nw y ≤ nw x := (nw_le _ _).2 (Nat.lt_of_le_of_lt h (lt_nw x))
theorem nw_shl (x : Nat) {s : Nat} (hs : s < 64) : nw x ≤ nw (x * 2 ^ s) ∧ nw (x * 2 ^ s) ≤ nw x + 1 := by
  refine ⟨dm_mono (Nat.le_mul_of_pos_right x (Nat.two_pow_pos s)), (nw_le _ _).2 ?_⟩
  rw [p64]
  have h1 := lt_nw x
  have h2 : 2 ^ s ≤ 18446744073709551616 := Nat.pow_le_pow_right (n := 2) (by omega) (Nat.le_of_lt hs)
  rw [Nat.mul_comm 18446744073709551616]
  exact Nat.lt_of_lt_of_le (Nat.mul_lt_mul_of_pos_right h1 (Nat.two_pow_pos s)) (Nat.mul_le_mul_left _ h2)
theorem wd_one {y : Nat} (h : nw y ≤ 1) : wd y 0 = y := by
  have := (nw_le y 1).1 h
  unfold wd
  simp
  omega
theorem dm_rem {d : Nat} (x : Nat) (h : d < 18446744073709551616) : (if d = 0 then 0 else x % d) < 18446744073709551616 := by
  split
  · omega
  · exact Nat.lt_trans (Nat.mod_lt _ (by omega)) h
theorem u64_pred {q : Nat} (h : q < 18446744073709551616) (h0 : 0 < q) : IntKind.u64.wrap (((q : Nat) : Int) - 1) = ((q - 1 : Nat) : Int) := by rw [IntKind.wrap_u64]; omega
theorem upd_same {f : Nat → Nat} {k v : Nat} : upd f k v k = v := by unfold upd; rw [if_pos rfl]
theorem cal_word_Lead : Callable Try.prog 108 := callable_of Try.func108 rfl (by kernel_rfl)
theorem cal_quot_ByWord : Callable Try.prog 107 := callable_of Try.func107 rfl (by kernel_rfl)
theorem cal_nat_Nat_Shl : Callable Try.prog 109 := callable_of Try.func109 rfl (by kernel_rfl)
theorem cal_quot_guess : Callable Try.prog 110 := callable_of Try.func110 rfl (by kernel_rfl)
theorem cal_quot_take : Callable Try.prog 111 := callable_of Try.func111 rfl (by kernel_rfl)
theorem cal_quot_back : Callable Try.prog 112 := callable_of Try.func112 rfl (by kernel_rfl)
theorem cal_nat_Nat_Shr : Callable Try.prog 113 := callable_of Try.func113 rfl (by kernel_rfl)
set_option maxRecDepth 100000 in
set_option maxHeartbeats 2000000 in
theorem cQuotDivMod {x y : Nat} {va : Value} {vb : Value} {w : World}  (ha : (MR.nat (x)).R w va) (hb : (MR.nat (y)).R w vb) (hsx : nw x < 1099511627776) : Calls Try.prog 105 #[va, vb] w (Ret (.tup3 (.nat (x / y)) (.nat (if y = 0 then 0 else x % y)) (.eq (.bool (!decide (y = 0))))) w) := by
  have _ := hsx
  have hsy : nw y ≤ 1099511627776 := NatAt.small hb
  obtain ⟨s, hs⟩ : ∃ s, s = leadz (wd y (nw y - 1)) := ⟨_, rfl⟩
  refine calls_enter (a := ⟨List.toArray ([va, vb] ++ us 146), []⟩) Try.func105 rfl (by kernel_rfl) ?_
  have NL : NoLook (bodyPost Try.prog Try.f105 (Ret (.tup3 (.nat (x / y)) (.nat (if y = 0 then 0 else x % y)) (.eq (.bool (!decide (y = 0))))) w)) := noLook_body
  refine wp_seq ?_
  refine rg (fun c d v a w h => NL c d v a w h) [(2, .ptr 31 (.nat (x))), (3, .ptr 31 (.nat (y))), (4, .ptr 31 (.nat (0))), (5, .ptr 31 (.nat (0))), (6, .eq (.bool (false)))] [0, 1, 2, 3] [] [] 148 5 ?_ ?_
  · refine sn [] (fun w1 hw1 => .fin (yld_newBox rfl rfl (MR.mono _ hw1 ha))) ?_
    refine sn [] (fun w1 hw1 => .fin (yld_newBox rfl rfl (MR.mono _ hw1 hb))) ?_
    refine sn [] (fun w1 hw1 => .fin (yld_newAlloc rfl zeroNat zNat)) ?_
    refine sn [] (fun w1 hw1 => .fin (yld_newAlloc rfl zeroNat zNat)) ?_
    exact so [] (fun w1 hw1 => .fin (yld_assign rfl ⟨Grow.refl _, rfl⟩)) (.nil _ _)
  rintro w1 hw1 _ ⟨b2, rfl, B2⟩ _ ⟨b3, rfl, B3⟩ _ ⟨b4, rfl, B4⟩ _ ⟨b5, rfl, B5⟩ _ rfl hN
  have W1 : Grow w w1 := (Grow.refl w).trans hw1
  have n_b2_b4 : b2 ≠ b4 := hN.2.1 2 (by simp)
  have n_b2_b5 : b2 ≠ b5 := hN.2.1 3 (by simp)
  have n_b3_b4 : b3 ≠ b4 := hN.2.2.2.1 2 (by simp)
  have n_b3_b5 : b3 ≠ b5 := hN.2.2.2.1 3 (by simp)
  have g_b4 : w.heap.size ≤ b4 := Nat.le_trans (Grow.refl w).size hN.2.2.2.2.1.1
  have n_b4_b5 : b4 ≠ b5 := hN.2.2.2.2.2.1 3 (by simp)
  have g_b5 : w.heap.size ≤ b5 := Nat.le_trans (Grow.refl w).size hN.2.2.2.2.2.2.1.1
  clear hN
  replace hb := MR.mono _ hw1 hb
  refine fr ([va, vb, pt b2, pt b3, pt b4, pt b5, .bool (false)] ++ us 141) ?_
  refine nx ?_
  refine wp_seq ?_
  refine wp_seq ?_
  refine rg (fun c d v a w h => NL c d v a w h) [(19, .nat (y)), (20, .eq (.int .i64 (((nw y : Nat) : Int)))), (21, .eq (.bool (decide ((((nw y : Nat) : Int) : Int) ≤ (1 : Int)))))] [] [] [] 148 3 ?_ ?_
  · refine so [] (fun w2 hw2 => .fin (yld_loadBox rfl rfl aggNat (B3.grow hw2) (shNat _))) ?_
    refine so [0] (fun w2 hw2 => by rintro v19 h19; exact .fin (yld_call rfl cal_nat_Nat_Len rfl (cNatLen h19))) ?_
    exact so [1] (fun w2 hw2 => by rintro _ rfl; exact .fin (yld_leq rfl rfl rfl ⟨Grow.refl _, rfl⟩)) (.nil _ _)
  rintro w2 hw2 v19 - v20 - _ rfl -
  have W2 : Grow w w2 := W1.trans hw2
  replace B2 := B2.grow hw2
  replace B3 := B3.grow hw2
  replace B4 := B4.grow hw2
  replace B5 := B5.grow hw2
  replace hb := MR.mono _ hw2 hb
  refine fr ([va, vb, pt b2, pt b3, pt b4, pt b5, .bool (false), u, u, u, u, u, u, u, u, u, u, u, u, v19, v20, .bool (decide ((((nw y : Nat) : Int) : Int) ≤ (1 : Int)))] ++ us 126) ?_
  refine nx ?_
  refine wp_cond_split (t := decide ((((nw y : Nat) : Int) : Int) ≤ (1 : Int))) rfl (fun h1 => ?_) (fun h1 => ?_)
  · have hy1 : nw y ≤ 1 := by have := of_decide_eq_true h1; omega
    have ey : wd y 0 = y := wd_one hy1
    have hrB : (if wd y 0 = 0 then 0 else x % wd y 0) < 18446744073709551616 := dm_rem x (wd_lt y 0)
    refine wp_seq ?_
    refine rg (fun c d v a w h => NL c d v a w h) [(23, .nat (x)), (24, .nat (y)), (25, .eq (.int .u64 (((wd y 0 : Nat) : Int)))), (26, .tup3 (.nat (x / (wd y 0))) (.eq (.int .u64 (((if wd y 0 = 0 then 0 else x % (wd y 0) : Nat) : Int)))) (.eq (.bool (!decide (wd y 0 = 0))))), (22, .tup3 (.nat (x / (wd y 0))) (.eq (.int .u64 (((if wd y 0 = 0 then 0 else x % (wd y 0) : Nat) : Int)))) (.eq (.bool (!decide (wd y 0 = 0))))), (27, .nat (x / (wd y 0))), (28, .eq (.int .u64 (((if wd y 0 = 0 then 0 else x % (wd y 0) : Nat) : Int)))), (29, .eq (.bool (!decide (wd y 0 = 0)))), (7, .ptr 31 (.nat (0)))] [8] [6, 7] [] 148 9 ?_ ?_
    · refine so [] (fun w3 hw3 => .fin (yld_loadBox rfl rfl aggNat (B2.grow hw3) (shNat _))) ?_
      refine so [] (fun w3 hw3 => .fin (yld_loadBox rfl rfl aggNat (B3.grow hw3) (shNat _))) ?_
      refine so [1] (fun w3 hw3 => by rintro v24 h24; exact .fin (yld_call rfl cal_nat_Nat_Word rfl (cWord0 (k := 0) h24 rfl))) ?_
      refine so [0, 2] (fun w3 hw3 => by rintro v23 h23 _ rfl; exact .fin (yld_call rfl cal_quot_ByWord rfl (cByWord (d := wd y 0) h23 (wd_lt _ _)))) ?_
      refine so [3] (fun w3 hw3 => by rintro _ ⟨x26_0, x26_1, x26_2, rfl, hx26_0, hx26_1, hx26_2⟩; exact .fin (yld_move rfl ⟨Grow.refl _, ⟨x26_0, x26_1, x26_2, rfl, hx26_0, hx26_1, hx26_2⟩⟩)) ?_
      refine so [4] (fun w3 hw3 => by rintro _ ⟨x22_0, x22_1, x22_2, rfl, hx22_0, hx22_1, hx22_2⟩; exact .fin (yld_extract rfl rfl rfl ⟨Grow.refl _, hx22_0⟩)) ?_
      refine sl [4] (fun w3 hw3 => by rintro _ ⟨x22_0, x22_1, x22_2, rfl, hx22_0, hx22_1, hx22_2⟩; exact .fin (⟨_, fun w2 _ => pure_extract rfl rfl rfl w2, hx22_1⟩)) ?_
      refine sl [4] (fun w3 hw3 => by rintro _ ⟨x22_0, x22_1, x22_2, rfl, hx22_0, hx22_1, hx22_2⟩; exact .fin (⟨_, fun w2 _ => pure_extract rfl rfl rfl w2, hx22_2⟩)) ?_
      exact sn [] (fun w3 hw3 => .fin (yld_newAlloc rfl zeroNat zNat)) (.nil _ _)
    rintro w3 hw3 v23 - v24 - v25 - v26 - v22 - v27 h27 _ rfl _ rfl _ ⟨b7, rfl, B7⟩ hN
    have W3 : Grow w w3 := W2.trans hw3
    have g_b7 : w.heap.size ≤ b7 := Nat.le_trans W2.size hN.1.1
    have n_b2_b7 : b2 ≠ b7 := Nat.ne_of_lt (Nat.lt_of_lt_of_le B2.lt hN.1.1)
    have n_b3_b7 : b3 ≠ b7 := Nat.ne_of_lt (Nat.lt_of_lt_of_le B3.lt hN.1.1)
    have n_b4_b7 : b4 ≠ b7 := Nat.ne_of_lt (Nat.lt_of_lt_of_le B4.lt hN.1.1)
    have n_b5_b7 : b5 ≠ b7 := Nat.ne_of_lt (Nat.lt_of_lt_of_le B5.lt hN.1.1)
    clear hN
    replace B2 := B2.grow hw3
    replace B3 := B3.grow hw3
    replace B4 := B4.grow hw3
    replace B5 := B5.grow hw3
    replace hb := MR.mono _ hw3 hb
    have KK : Kept [] w3 w3 := fun _ _ => rfl
    refine fr ([va, vb, pt b2, pt b3, pt b4, pt b5, .bool (false), pt b7, u, u, u, u, u, u, u, u, u, u, u, v19, v20, .bool (decide ((((nw y : Nat) : Int) : Int) ≤ (1 : Int))), v22, v23, v24, v25, v26, v27, Ut (if wd y 0 = 0 then 0 else x % (wd y 0)), .bool (!decide (wd y 0 = 0))] ++ us 118) ?_
    change wpListS _ _ _ _ [_, _, _] ⟨_, []⟩ _
    refine wpListS_yld rfl ?_
    refine yld_storeBox (R' := .nat (x / (wd y 0))) (b := b7) rfl rfl aggNat.size B7 (shNat _) h27 (shNat _) (St.nat _) (by decide) g_b7 fun w4 P4 E4 B' => ⟨fun _ => Kept.put KK P4 (fun _ hk => (by cases hk)), ?_⟩
    replace KK := Kept.put KK P4 (fun _ hk => (by cases hk))
    have W4 : Grow w w4 := W3.put P4 g_b7
    replace B2 := B2.put (St.nat _) P4 E4 n_b2_b7
    replace B3 := B3.put (St.nat _) P4 E4 n_b3_b7
    replace B4 := B4.put (St.nat _) P4 E4 n_b4_b7
    replace B5 := B5.put (St.nat _) P4 E4 n_b5_b7
    replace B7 := B'; clear B'
    replace hb := MR.put hb (St.nat _) E4
    change wpListS _ _ _ _ [_, _] ⟨_, []⟩ _
    refine wpListS_yld rfl ?_
    refine yld_assign rfl ⟨fun _ => KK, ?_⟩
    change wpListS _ _ _ _ [_] ⟨List.toArray (List.set _ 8 _), []⟩ _
    refine wpListS_yld rfl ?_
    refine yld_assign rfl ⟨fun _ => KK, ?_⟩
    refine wpListS_nil ?_
    change Code.wp _ _ _ ⟨List.toArray (List.set _ 9 _), []⟩ _
    refine wp_seq ?_
    refine rg (fun c d v a w h => NL c d v a w h) [(30, .nat (x / (wd y 0))), (31, .eq (.int .u64 (((if wd y 0 = 0 then 0 else x % (wd y 0) : Nat) : Int)))), (32, .lits ([if wd y 0 = 0 then 0 else x % wd y 0])), (33, .nat (if wd y 0 = 0 then 0 else x % wd y 0)), (34, .eq (.bool (!decide (wd y 0 = 0))))] [] [4] [] 148 5 ?_ ?_
    · refine so [] (fun w5 hw5 => .fin (yld_loadBox rfl rfl aggNat (B7.grow hw5) (shNat _))) ?_
      refine so [] (fun w5 hw5 => .fin (yld_move rfl ⟨Grow.refl _, rfl⟩)) ?_
      refine so [1] (fun w5 hw5 => by rintro _ rfl; exact .fin (yld_lit rfl rfl)) ?_
      refine so [2] (fun w5 hw5 => by rintro v32 h32; exact .fin (yld_call rfl cal_nat_Of rfl (cNatOf1 h32 (by omega)))) ?_
      exact sl [] (fun w5 hw5 => .fin (lazy_move rfl rfl rfl)) (.nil _ _)
    rintro w5 hw5 v30 h30 v31 - v32 - v33 h33 _ rfl -
    have W5 : Grow w w5 := W4.trans hw5
    replace B2 := B2.grow hw5
    replace B3 := B3.grow hw5
    replace B4 := B4.grow hw5
    replace B5 := B5.grow hw5
    replace hb := MR.mono _ hw5 hb
    have KK : Kept [] w5 w5 := fun _ _ => rfl
    refine fr ([va, vb, pt b2, pt b3, pt b4, pt b5, .bool (false), pt b7, Ut (if wd y 0 = 0 then 0 else x % (wd y 0)), .bool (!decide (wd y 0 = 0)), u, u, u, u, u, u, u, u, u, v19, v20, .bool (decide ((((nw y : Nat) : Int) : Int) ≤ (1 : Int))), v22, v23, v24, v25, v26, v27, Ut (if wd y 0 = 0 then 0 else x % (wd y 0)), .bool (!decide (wd y 0 = 0)), v30, v31, v32, v33, .bool (!decide (wd y 0 = 0))] ++ us 113) ?_
    change wpListS _ _ _ _ [_, _, _] ⟨_, []⟩ _
    refine wpListS_yld rfl ?_
    refine yld_storeBox (R' := .nat (x / (wd y 0))) (b := b4) rfl rfl aggNat.size B4 (shNat _) h30 (shNat _) (St.nat _) (by decide) g_b4 fun w6 P6 E6 B' => ⟨fun _ => Kept.put KK P6 (fun _ hk => (by cases hk)), ?_⟩
    replace KK := Kept.put KK P6 (fun _ hk => (by cases hk))
    have W6 : Grow w w6 := W5.put P6 g_b4
    replace B2 := B2.put (St.nat _) P6 E6 n_b2_b4
    replace B3 := B3.put (St.nat _) P6 E6 n_b3_b4
    replace B5 := B5.put (St.nat _) P6 E6 (Ne.symm n_b4_b5)
    replace B4 := B'; clear B'
    replace hb := MR.put hb (St.nat _) E6
    replace h33 := MR.put h33 (St.nat _) E6
    change wpListS _ _ _ _ [_, _] ⟨_, []⟩ _
    refine wpListS_yld rfl ?_
    refine yld_storeBox (R' := .nat (if wd y 0 = 0 then 0 else x % wd y 0)) (b := b5) rfl rfl aggNat.size B5 (shNat _) h33 (shNat _) (St.nat _) (by decide) g_b5 fun w7 P7 E7 B' => ⟨fun _ => Kept.put KK P7 (fun _ hk => (by cases hk)), ?_⟩
    replace KK := Kept.put KK P7 (fun _ hk => (by cases hk))
    have W7 : Grow w w7 := W6.put P7 g_b5
    replace B2 := B2.put (St.nat _) P7 E7 n_b2_b5
    replace B3 := B3.put (St.nat _) P7 E7 n_b3_b5
    replace B4 := B4.put (St.nat _) P7 E7 n_b4_b5
    replace B5 := B'; clear B'
    replace hb := MR.put hb (St.nat _) E7
    change wpListS _ _ _ _ [_] ⟨_, []⟩ _
    refine wpListS_yld rfl ?_
    refine yld_assign rfl ⟨fun _ => KK, ?_⟩
    refine wpListS_nil ?_
    change Code.wp _ _ _ ⟨List.toArray (List.set _ 6 _), []⟩ _
    have BR : Box w7 b4 31 (.nat (x / y)) := (by have e : (x / (wd y 0) : Nat) = x / y := (by first | (rw [ey]; done) | exact (Nat.div_eq_of_lt hxy).symm | (rw [if_neg hy0, Nat.mod_eq_of_lt hxy]; done) | exact (d_end hD).1 | (rw [if_neg hy0]; exact (d_end hD).2) | (simp [hy0]; done)); rw [← e]; exact B4)
    have BR2 : Box w7 b5 31 (.nat (if y = 0 then 0 else x % y)) := (by have e : (if wd y 0 = 0 then 0 else x % wd y 0 : Nat) = if y = 0 then 0 else x % y := (by first | (rw [ey]; done) | exact (Nat.div_eq_of_lt hxy).symm | (rw [if_neg hy0, Nat.mod_eq_of_lt hxy]; done) | exact (d_end hD).1 | (rw [if_neg hy0]; exact (d_end hD).2) | (simp [hy0]; done)); rw [← e]; exact B5)
    refine wp_ret ?_
    change bodyPost Try.prog Try.f105 (Ret (.tup3 (.nat (x / y)) (.nat (if y = 0 then 0 else x % y)) (.eq (.bool (!decide (y = 0))))) w) .ret _ _
    exact body_cell2_slot (b := b4) (b' := b5) rfl rfl aggNat BR (shNat _) rfl aggNat BR2 (shNat _) (by show Value.bool _ = Value.bool _; rw [show (!decide (wd y 0 = 0)) = (!decide (y = 0)) from (by first | (rw [ey]; done) | exact (Nat.div_eq_of_lt hxy).symm | (rw [if_neg hy0, Nat.mod_eq_of_lt hxy]; done) | exact (d_end hD).1 | (rw [if_neg hy0]; exact (d_end hD).2) | (simp [hy0]; done))]) rfl W7
  · have h2 : 2 ≤ nw y := by have := of_decide_eq_false h1; omega
    refine wp_skip ?_
    change Code.wp _ _ _ ⟨_, []⟩ _
    refine wp_seq ?_
    refine wp_seq ?_
    refine rg (fun c d v a w h => NL c d v a w h) [(35, .nat (x)), (36, .nat (y)), (37, .eq (.int .i64 (cmpV ((x : Nat)) ((y : Nat))))), (38, .eq (.bool (decide ((cmpV ((x : Nat)) ((y : Nat)) : Int) < (0 : Int)))))] [] [] [] 148 4 ?_ ?_
    · refine so [] (fun w8 hw8 => .fin (yld_loadBox rfl rfl aggNat (B2.grow hw8) (shNat _))) ?_
      refine so [] (fun w8 hw8 => .fin (yld_loadBox rfl rfl aggNat (B3.grow hw8) (shNat _))) ?_
      refine so [0, 1] (fun w8 hw8 => by rintro v35 h35 v36 h36; exact .fin (yld_call rfl cal_nat_Cmp rfl (cNatCmp h35 h36))) ?_
      exact so [2] (fun w8 hw8 => by rintro _ rfl; exact .fin (yld_lss rfl rfl rfl ⟨Grow.refl _, rfl⟩)) (.nil _ _)
    rintro w8 hw8 v35 - v36 - v37 - _ rfl -
    have W8 : Grow w w8 := W2.trans hw8
    replace B2 := B2.grow hw8
    replace B3 := B3.grow hw8
    replace B4 := B4.grow hw8
    replace B5 := B5.grow hw8
    replace hb := MR.mono _ hw8 hb
    refine fr ([va, vb, pt b2, pt b3, pt b4, pt b5, .bool (false), u, u, u, u, u, u, u, u, u, u, u, u, v19, v20, .bool (decide ((((nw y : Nat) : Int) : Int) ≤ (1 : Int))), u, u, u, u, u, u, u, u, u, u, u, u, u, v35, v36, v37, .bool (decide ((cmpV ((x : Nat)) ((y : Nat)) : Int) < (0 : Int)))] ++ us 109) ?_
    refine nx ?_
    refine wp_cond_split (t := decide ((cmpV ((x : Nat)) ((y : Nat)) : Int) < (0 : Int))) rfl (fun hlt => ?_) (fun hlt => ?_)
    · have hxy : x < y := dm_lt (of_decide_eq_true hlt)
      have hy0 : y ≠ 0 := by omega
      refine wp_seq ?_
      refine rg (fun c d v a w h => NL c d v a w h) [(39, .nat (0)), (40, .nat (x))] [] [1] [b2] 148 2 ?_ ?_
      · refine so [] (fun w9 hw9 => .fin (yld_build (ps := []) rfl rfl (by kernel_rfl) ⟨Grow.refl _, zNat _⟩)) ?_
        exact sl [] (fun w9 hw9 => .fin (lazy_loadBox rfl rfl aggNat (B2.grow hw9) (shNat _) (by simp))) (.nil _ _)
      rintro w9 hw9 v39 h39 v40 h40 -
      have W9 : Grow w w9 := W8.trans hw9
      replace B2 := B2.grow hw9
      replace B3 := B3.grow hw9
      replace B4 := B4.grow hw9
      replace B5 := B5.grow hw9
      replace hb := MR.mono _ hw9 hb
      have KK : Kept [b2] w9 w9 := fun _ _ => rfl
      refine fr ([va, vb, pt b2, pt b3, pt b4, pt b5, .bool (false), u, u, u, u, u, u, u, u, u, u, u, u, v19, v20, .bool (decide ((((nw y : Nat) : Int) : Int) ≤ (1 : Int))), u, u, u, u, u, u, u, u, u, u, u, u, u, v35, v36, v37, .bool (decide ((cmpV ((x : Nat)) ((y : Nat)) : Int) < (0 : Int))), v39, v40] ++ us 107) ?_
      change wpListS _ _ _ _ [_, _, _] ⟨_, []⟩ _
      refine wpListS_yld rfl ?_
      refine yld_storeBox (R' := .nat (0)) (b := b4) rfl rfl aggNat.size B4 (shNat _) h39 (shNat _) (St.nat _) (by decide) g_b4 fun w10 P10 E10 B' => ⟨fun _ => Kept.put KK P10 (by simp only [List.mem_cons, List.not_mem_nil, or_false, forall_eq]; exact n_b2_b4), ?_⟩
      replace KK := Kept.put KK P10 (by simp only [List.mem_cons, List.not_mem_nil, or_false, forall_eq]; exact n_b2_b4)
      have W10 : Grow w w10 := W9.put P10 g_b4
      replace B2 := B2.put (St.nat _) P10 E10 n_b2_b4
      replace B3 := B3.put (St.nat _) P10 E10 n_b3_b4
      replace B5 := B5.put (St.nat _) P10 E10 (Ne.symm n_b4_b5)
      replace B4 := B'; clear B'
      replace hb := MR.put hb (St.nat _) E10
      replace h40 := MR.put h40 (St.nat _) E10
      change wpListS _ _ _ _ [_, _] ⟨_, []⟩ _
      refine wpListS_yld rfl ?_
      refine yld_storeBox (R' := .nat (x)) (b := b5) rfl rfl aggNat.size B5 (shNat _) h40 (shNat _) (St.nat _) (by decide) g_b5 fun w11 P11 E11 B' => ⟨fun _ => Kept.put KK P11 (by simp only [List.mem_cons, List.not_mem_nil, or_false, forall_eq]; exact n_b2_b5), ?_⟩
      replace KK := Kept.put KK P11 (by simp only [List.mem_cons, List.not_mem_nil, or_false, forall_eq]; exact n_b2_b5)
      have W11 : Grow w w11 := W10.put P11 g_b5
      replace B2 := B2.put (St.nat _) P11 E11 n_b2_b5
      replace B3 := B3.put (St.nat _) P11 E11 n_b3_b5
      replace B4 := B4.put (St.nat _) P11 E11 n_b4_b5
      replace B5 := B'; clear B'
      replace hb := MR.put hb (St.nat _) E11
      change wpListS _ _ _ _ [_] ⟨_, []⟩ _
      refine wpListS_yld rfl ?_
      refine yld_assign rfl ⟨fun _ => KK, ?_⟩
      refine wpListS_nil ?_
      change Code.wp _ _ _ ⟨List.toArray (List.set _ 6 _), []⟩ _
      have BR : Box w11 b4 31 (.nat (x / y)) := (by have e : (0 : Nat) = x / y := (by first | (rw [ey]; done) | exact (Nat.div_eq_of_lt hxy).symm | (rw [if_neg hy0, Nat.mod_eq_of_lt hxy]; done) | exact (d_end hD).1 | (rw [if_neg hy0]; exact (d_end hD).2) | (simp [hy0]; done)); rw [← e]; exact B4)
      have BR2 : Box w11 b5 31 (.nat (if y = 0 then 0 else x % y)) := (by have e : (x : Nat) = if y = 0 then 0 else x % y := (by first | (rw [ey]; done) | exact (Nat.div_eq_of_lt hxy).symm | (rw [if_neg hy0, Nat.mod_eq_of_lt hxy]; done) | exact (d_end hD).1 | (rw [if_neg hy0]; exact (d_end hD).2) | (simp [hy0]; done)); rw [← e]; exact B5)
      refine wp_ret ?_
      change bodyPost Try.prog Try.f105 (Ret (.tup3 (.nat (x / y)) (.nat (if y = 0 then 0 else x % y)) (.eq (.bool (!decide (y = 0))))) w) .ret _ _
      exact body_cell2_slot (b := b4) (b' := b5) rfl rfl aggNat BR (shNat _) rfl aggNat BR2 (shNat _) (by show Value.bool _ = Value.bool _; rw [show (true) = (!decide (y = 0)) from (by first | (rw [ey]; done) | exact (Nat.div_eq_of_lt hxy).symm | (rw [if_neg hy0, Nat.mod_eq_of_lt hxy]; done) | exact (d_end hD).1 | (rw [if_neg hy0]; exact (d_end hD).2) | (simp [hy0]; done))]) rfl W11
    · have hxy : y ≤ x := dm_ge (of_decide_eq_false hlt)
      have hnxy : nw y ≤ nw x := dm_mono hxy
      have hy0 : y ≠ 0 := fun h => by rw [h, nw_zero] at h2; omega
      obtain ⟨hmV, hs64⟩ := nw_shift hy0 hs
      have hSy : Small (y * 2 ^ s) := by show nw _ ≤ _; omega
      obtain ⟨hNx, hNx1⟩ := nw_shl x hs64
      have hSx : Small (x * 2 ^ s) := by show nw _ ≤ _; omega
      have h2V : 2 ≤ nw (y * 2 ^ s) := by omega
      refine wp_skip ?_
      change Code.wp _ _ _ ⟨_, []⟩ _
      refine wp_seq ?_
      refine rg (fun c d v a w h => NL c d v a w h) [(41, .nat (y)), (42, .nat (y)), (43, .eq (.int .i64 (((nw y : Nat) : Int)))), (44, .eq (.int .i64 (((nw y - 1 : Nat) : Int)))), (45, .eq (.int .u64 (((wd y (nw y - 1) : Nat) : Int)))), (46, .eq (.int .i64 (((s : Nat) : Int)))), (10, .eq (.int .i64 (((s : Nat) : Int))))] [] [] [] 148 7 ?_ ?_
      · refine so [] (fun w12 hw12 => .fin (yld_loadBox rfl rfl aggNat (B3.grow hw12) (shNat _))) ?_
        refine so [] (fun w12 hw12 => .fin (yld_loadBox rfl rfl aggNat (B3.grow hw12) (shNat _))) ?_
        refine so [1] (fun w12 hw12 => by rintro v42 h42; exact .fin (yld_call rfl cal_nat_Nat_Len rfl (cNatLen h42))) ?_
        refine so [2] (fun w12 hw12 => by rintro _ rfl; exact .fin (yld_sub rfl rfl rfl (r := ((nw y - 1 : Nat) : Int)) (by rw [IntKind.wrap_i64]; omega) ⟨Grow.refl _, rfl⟩)) ?_
        refine so [0, 3] (fun w12 hw12 => by rintro v41 h41 _ rfl; exact .fin (yld_call rfl cal_nat_Nat_Word rfl (cWord0 (k := (nw y - 1)) h41 rfl))) ?_
        refine so [4] (fun w12 hw12 => by rintro _ rfl; exact .fin (yld_as (R := .eq (.int .i64 (((leadz (wd y (nw y - 1)) : Nat) : Int)))) (R2 := .eq (.int .i64 (((s : Nat) : Int)))) (yld_call rfl cal_word_Lead rfl (cLead (wd_lt _ _))) (fun h => h.trans (by rw [hs])))) ?_
        exact so [5] (fun w12 hw12 => by rintro _ rfl; exact .fin (yld_assign rfl ⟨Grow.refl _, rfl⟩)) (.nil _ _)
      rintro w12 hw12 v41 - v42 - v43 - v44 - v45 - v46 - _ rfl -
      have W12 : Grow w w12 := W8.trans hw12
      replace B2 := B2.grow hw12
      replace B3 := B3.grow hw12
      replace B4 := B4.grow hw12
      replace B5 := B5.grow hw12
      replace hb := MR.mono _ hw12 hb
      refine fr ([va, vb, pt b2, pt b3, pt b4, pt b5, .bool (false), u, u, u, It s, u, u, u, u, u, u, u, u, v19, v20, .bool (decide ((((nw y : Nat) : Int) : Int) ≤ (1 : Int))), u, u, u, u, u, u, u, u, u, u, u, u, u, v35, v36, v37, .bool (decide ((cmpV ((x : Nat)) ((y : Nat)) : Int) < (0 : Int))), u, u, v41, v42, v43, v44, v45, v46] ++ us 101) ?_
      refine nx ?_
      refine wp_seq ?_
      refine rg (fun c d v a w h => NL c d v a w h) [(48, .nat (y)), (49, .eq (.int .i64 (((s : Nat) : Int)))), (50, .tup2 (.nat (y * 2 ^ s)) (.eq (.bool (true)))), (47, .tup2 (.nat (y * 2 ^ s)) (.eq (.bool (true)))), (51, .nat (y * 2 ^ s)), (52, .eq (.bool (true))), (11, .ptr 31 (.nat (0)))] [6] [5] [] 148 7 ?_ ?_
      · refine so [] (fun w13 hw13 => .fin (yld_loadBox rfl rfl aggNat (B3.grow hw13) (shNat _))) ?_
        refine so [] (fun w13 hw13 => .fin (yld_move rfl ⟨Grow.refl _, rfl⟩)) ?_
        refine so [0, 1] (fun w13 hw13 => by rintro v48 h48 _ rfl; exact .fin (yld_call rfl cal_nat_Nat_Shl rfl (cShl (k := s) h48 hs64 hSy))) ?_
        refine so [2] (fun w13 hw13 => by rintro _ ⟨x50_0, x50_1, rfl, hx50_0, hx50_1⟩; exact .fin (yld_move rfl ⟨Grow.refl _, ⟨x50_0, x50_1, rfl, hx50_0, hx50_1⟩⟩)) ?_
        refine so [3] (fun w13 hw13 => by rintro _ ⟨x47_0, x47_1, rfl, hx47_0, hx47_1⟩; exact .fin (yld_extract rfl rfl rfl ⟨Grow.refl _, hx47_0⟩)) ?_
        refine sl [3] (fun w13 hw13 => by rintro _ ⟨x47_0, x47_1, rfl, hx47_0, hx47_1⟩; exact .fin (⟨_, fun w2 _ => pure_extract rfl rfl rfl w2, hx47_1⟩)) ?_
        exact sn [] (fun w13 hw13 => .fin (yld_newAlloc rfl zeroNat zNat)) (.nil _ _)
      rintro w13 hw13 v48 - v49 - v50 - v47 - v51 h51 _ rfl _ ⟨b11, rfl, B11⟩ hN
      have W13 : Grow w w13 := W12.trans hw13
      have g_b11 : w.heap.size ≤ b11 := Nat.le_trans W12.size hN.1.1
      have n_b2_b11 : b2 ≠ b11 := Nat.ne_of_lt (Nat.lt_of_lt_of_le B2.lt hN.1.1)
      have n_b3_b11 : b3 ≠ b11 := Nat.ne_of_lt (Nat.lt_of_lt_of_le B3.lt hN.1.1)
      have n_b4_b11 : b4 ≠ b11 := Nat.ne_of_lt (Nat.lt_of_lt_of_le B4.lt hN.1.1)
      have n_b5_b11 : b5 ≠ b11 := Nat.ne_of_lt (Nat.lt_of_lt_of_le B5.lt hN.1.1)
      clear hN
      replace B2 := B2.grow hw13
      replace B3 := B3.grow hw13
      replace B4 := B4.grow hw13
      replace B5 := B5.grow hw13
      replace hb := MR.mono _ hw13 hb
      have KK : Kept [] w13 w13 := fun _ _ => rfl
      refine fr ([va, vb, pt b2, pt b3, pt b4, pt b5, .bool (false), u, u, u, It s, pt b11, u, u, u, u, u, u, u, v19, v20, .bool (decide ((((nw y : Nat) : Int) : Int) ≤ (1 : Int))), u, u, u, u, u, u, u, u, u, u, u, u, u, v35, v36, v37, .bool (decide ((cmpV ((x : Nat)) ((y : Nat)) : Int) < (0 : Int))), u, u, v41, v42, v43, v44, v45, v46, v47, v48, v49, v50, v51, .bool (true)] ++ us 95) ?_
      change wpListS _ _ _ _ [_, _] ⟨_, []⟩ _
      refine wpListS_yld rfl ?_
      refine yld_storeBox (R' := .nat (y * 2 ^ s)) (b := b11) rfl rfl aggNat.size B11 (shNat _) h51 (shNat _) (St.nat _) (by decide) g_b11 fun w14 P14 E14 B' => ⟨fun _ => Kept.put KK P14 (fun _ hk => (by cases hk)), ?_⟩
      replace KK := Kept.put KK P14 (fun _ hk => (by cases hk))
      have W14 : Grow w w14 := W13.put P14 g_b11
      replace B2 := B2.put (St.nat _) P14 E14 n_b2_b11
      replace B3 := B3.put (St.nat _) P14 E14 n_b3_b11
      replace B4 := B4.put (St.nat _) P14 E14 n_b4_b11
      replace B5 := B5.put (St.nat _) P14 E14 n_b5_b11
      replace B11 := B'; clear B'
      replace hb := MR.put hb (St.nat _) E14
      change wpListS _ _ _ _ [_] ⟨_, []⟩ _
      refine wpListS_yld rfl ?_
      refine yld_assign rfl ⟨fun _ => KK, ?_⟩
      refine wpListS_nil ?_
      change Code.wp _ _ _ ⟨List.toArray (List.set _ 12 _), []⟩ _
      refine wp_seq ?_
      refine rg (fun c d v a w h => NL c d v a w h) [(54, .nat (x)), (55, .eq (.int .i64 (((s : Nat) : Int)))), (56, .tup2 (.nat (x * 2 ^ s)) (.eq (.bool (true)))), (53, .tup2 (.nat (x * 2 ^ s)) (.eq (.bool (true)))), (57, .nat (x * 2 ^ s)), (58, .eq (.bool (true))), (13, .ptr 31 (.nat (0)))] [6] [5] [] 148 7 ?_ ?_
      · refine so [] (fun w15 hw15 => .fin (yld_loadBox rfl rfl aggNat (B2.grow hw15) (shNat _))) ?_
        refine so [] (fun w15 hw15 => .fin (yld_move rfl ⟨Grow.refl _, rfl⟩)) ?_
        refine so [0, 1] (fun w15 hw15 => by rintro v54 h54 _ rfl; exact .fin (yld_call rfl cal_nat_Nat_Shl rfl (cShl (k := s) h54 hs64 hSx))) ?_
        refine so [2] (fun w15 hw15 => by rintro _ ⟨x56_0, x56_1, rfl, hx56_0, hx56_1⟩; exact .fin (yld_move rfl ⟨Grow.refl _, ⟨x56_0, x56_1, rfl, hx56_0, hx56_1⟩⟩)) ?_
        refine so [3] (fun w15 hw15 => by rintro _ ⟨x53_0, x53_1, rfl, hx53_0, hx53_1⟩; exact .fin (yld_extract rfl rfl rfl ⟨Grow.refl _, hx53_0⟩)) ?_
        refine sl [3] (fun w15 hw15 => by rintro _ ⟨x53_0, x53_1, rfl, hx53_0, hx53_1⟩; exact .fin (⟨_, fun w2 _ => pure_extract rfl rfl rfl w2, hx53_1⟩)) ?_
        exact sn [] (fun w15 hw15 => .fin (yld_newAlloc rfl zeroNat zNat)) (.nil _ _)
      rintro w15 hw15 v54 - v55 - v56 - v53 - v57 h57 _ rfl _ ⟨b13, rfl, B13⟩ hN
      have W15 : Grow w w15 := W14.trans hw15
      have g_b13 : w.heap.size ≤ b13 := Nat.le_trans W14.size hN.1.1
      have n_b2_b13 : b2 ≠ b13 := Nat.ne_of_lt (Nat.lt_of_lt_of_le B2.lt hN.1.1)
      have n_b3_b13 : b3 ≠ b13 := Nat.ne_of_lt (Nat.lt_of_lt_of_le B3.lt hN.1.1)
      have n_b4_b13 : b4 ≠ b13 := Nat.ne_of_lt (Nat.lt_of_lt_of_le B4.lt hN.1.1)
      have n_b5_b13 : b5 ≠ b13 := Nat.ne_of_lt (Nat.lt_of_lt_of_le B5.lt hN.1.1)
      have n_b11_b13 : b11 ≠ b13 := Nat.ne_of_lt (Nat.lt_of_lt_of_le B11.lt hN.1.1)
      clear hN
      replace B2 := B2.grow hw15
      replace B3 := B3.grow hw15
      replace B4 := B4.grow hw15
      replace B5 := B5.grow hw15
      replace B11 := B11.grow hw15
      replace hb := MR.mono _ hw15 hb
      have KK : Kept [] w15 w15 := fun _ _ => rfl
      refine fr ([va, vb, pt b2, pt b3, pt b4, pt b5, .bool (false), u, u, u, It s, pt b11, .bool (true), pt b13, u, u, u, u, u, v19, v20, .bool (decide ((((nw y : Nat) : Int) : Int) ≤ (1 : Int))), u, u, u, u, u, u, u, u, u, u, u, u, u, v35, v36, v37, .bool (decide ((cmpV ((x : Nat)) ((y : Nat)) : Int) < (0 : Int))), u, u, v41, v42, v43, v44, v45, v46, v47, v48, v49, v50, v51, .bool (true), v53, v54, v55, v56, v57, .bool (true)] ++ us 89) ?_
      change wpListS _ _ _ _ [_, _] ⟨_, []⟩ _
      refine wpListS_yld rfl ?_
      refine yld_storeBox (R' := .nat (x * 2 ^ s)) (b := b13) rfl rfl aggNat.size B13 (shNat _) h57 (shNat _) (St.nat _) (by decide) g_b13 fun w16 P16 E16 B' => ⟨fun _ => Kept.put KK P16 (fun _ hk => (by cases hk)), ?_⟩
      replace KK := Kept.put KK P16 (fun _ hk => (by cases hk))
      have W16 : Grow w w16 := W15.put P16 g_b13
      replace B2 := B2.put (St.nat _) P16 E16 n_b2_b13
      replace B3 := B3.put (St.nat _) P16 E16 n_b3_b13
      replace B4 := B4.put (St.nat _) P16 E16 n_b4_b13
      replace B5 := B5.put (St.nat _) P16 E16 n_b5_b13
      replace B11 := B11.put (St.nat _) P16 E16 n_b11_b13
      replace B13 := B'; clear B'
      replace hb := MR.put hb (St.nat _) E16
      change wpListS _ _ _ _ [_] ⟨_, []⟩ _
      refine wpListS_yld rfl ?_
      refine yld_assign rfl ⟨fun _ => KK, ?_⟩
      refine wpListS_nil ?_
      change Code.wp _ _ _ ⟨List.toArray (List.set _ 14 _), []⟩ _
      refine wp_seq ?_
      have C2 := B2
      have lt_b2 := B2.lt
      have C3 := B3
      have lt_b3 := B3.lt
      have C4 := B4
      have lt_b4 := B4.lt
      have C5 := B5
      have lt_b5 := B5.lt
      have C11 := B11
      have lt_b11 := B11.lt
      have C13 := B13
      have lt_b13 := B13.lt
      refine rg (fun c d v a w h => NL c d v a w h) [(59, .nat (x * 2 ^ s)), (60, .own w16.heap.size (wd (x * 2 ^ s)) (nw (x * 2 ^ s))), (61, .lits ([0, 0])), (62, .own w16.heap.size (wd (x * 2 ^ s)) (nw (x * 2 ^ s) + 2)), (63, .nat (x)), (64, .eq (.int .i64 (((nw x : Nat) : Int)))), (65, .eq (.int .i64 (((nw x + 1 : Nat) : Int)))), (66, .own w16.heap.size (wd (x * 2 ^ s)) (nw x + 1)), (15, .own w16.heap.size (wd (x * 2 ^ s)) (nw x + 1))] [] [] [] 148 9 ?_ ?_
      · refine so [] (fun w17 hw17 => .fin (yld_loadBox rfl rfl aggNat (B13.grow hw17) (shNat _))) ?_
        refine so [0] (fun w17 hw17 => by rintro v59 h59; exact .fin (yld_call rfl cal_nat_Nat_Words rfl (cWords0 h59 (by omega) (by omega) hw17.size))) ?_
        refine so [] (fun w17 hw17 => .fin (yld_lit00 rfl rfl rfl)) ?_
        refine so [1, 2] (fun w17 hw17 => by rintro v60 h60 v61 h61; exact .fin (yld_append_zeros rfl h60 h61 (by omega) (by omega) hw17.size (fun i hi => wd_high _ i hi) rfl)) ?_
        refine so [] (fun w17 hw17 => .fin (yld_loadBox rfl rfl aggNat (B2.grow hw17) (shNat _))) ?_
        refine so [4] (fun w17 hw17 => by rintro v63 h63; exact .fin (yld_call rfl cal_nat_Nat_Len rfl (cNatLen h63))) ?_
        refine so [5] (fun w17 hw17 => by rintro _ rfl; exact .fin (yld_add rfl rfl rfl (r := ((nw x + 1 : Nat) : Int)) (by rw [IntKind.wrap_i64]; omega) ⟨Grow.refl _, rfl⟩)) ?_
        refine so [3, 6] (fun w17 hw17 => by rintro v62 h62 _ rfl; exact .fin (yld_sliceO (m := nw x + 1) rfl h62 rfl rfl (by omega) (by omega))) ?_
        exact so [7] (fun w17 hw17 => by rintro v66 h66; exact .fin (yld_assign rfl ⟨Grow.refl _, h66⟩)) (.nil _ _)
      rintro w17 hw17 v59 - v60 - v61 - v62 - v63 - v64 - v65 - v66 - v15 h15 -
      have W17 : Grow w w17 := W16.trans hw17
      replace B2 := B2.grow hw17
      replace B3 := B3.grow hw17
      replace B4 := B4.grow hw17
      replace B5 := B5.grow hw17
      replace B11 := B11.grow hw17
      replace B13 := B13.grow hw17
      replace hb := MR.mono _ hw17 hb
      obtain ⟨ru, cu, rfl, gBu, hcu, hcmu, Ru⟩ := h15
      have g_ru : w.heap.size ≤ ru := Nat.le_trans W16.size gBu
      have n_b2_ru : b2 ≠ ru := Nat.ne_of_lt (Nat.lt_of_lt_of_le lt_b2 gBu)
      have n_b3_ru : b3 ≠ ru := Nat.ne_of_lt (Nat.lt_of_lt_of_le lt_b3 gBu)
      have n_b4_ru : b4 ≠ ru := Nat.ne_of_lt (Nat.lt_of_lt_of_le lt_b4 gBu)
      have n_b5_ru : b5 ≠ ru := Nat.ne_of_lt (Nat.lt_of_lt_of_le lt_b5 gBu)
      have n_b11_ru : b11 ≠ ru := Nat.ne_of_lt (Nat.lt_of_lt_of_le lt_b11 gBu)
      have n_b13_ru : b13 ≠ ru := Nat.ne_of_lt (Nat.lt_of_lt_of_le lt_b13 gBu)
      refine fr ((va :: vb :: pt b2 :: pt b3 :: pt b4 :: pt b5 :: .bool (false) :: u :: u :: u :: It s :: pt b11 :: .bool (true) :: pt b13 :: .bool (true) :: .slice (some ⟨ru, 0, none⟩) (nw x + 1) (cu) :: u :: u :: u :: v19 :: v20 :: .bool (decide ((((nw y : Nat) : Int) : Int) ≤ (1 : Int))) :: u :: u :: u :: u :: u :: u :: u :: u :: u :: u :: u :: u :: u :: v35 :: v36 :: v37 :: .bool (decide ((cmpV ((x : Nat)) ((y : Nat)) : Int) < (0 : Int))) :: u :: u :: v41 :: v42 :: v43 :: v44 :: v45 :: v46 :: v47 :: v48 :: v49 :: v50 :: v51 :: .bool (true) :: v53 :: v54 :: v55 :: v56 :: v57 :: .bool (true) :: v59 :: v60 :: v61 :: v62 :: v63 :: v64 :: v65 :: v66 :: []) ++ us 81) ?_
      refine nx ?_
      refine wp_seq ?_
      refine rg (fun c d v a w h => NL c d v a w h) [(67, .nat (y * 2 ^ s)), (68, .eq (.int .i64 (((nw (y * 2 ^ s) : Nat) : Int)))), (16, .eq (.int .i64 (((nw (y * 2 ^ s) : Nat) : Int))))] [] [] [] 148 3 ?_ ?_
      · refine so [] (fun w18 hw18 => .fin (yld_loadBox rfl rfl aggNat (B11.grow hw18) (shNat _))) ?_
        refine so [0] (fun w18 hw18 => by rintro v67 h67; exact .fin (yld_call rfl cal_nat_Nat_Len rfl (cNatLen h67))) ?_
        exact so [1] (fun w18 hw18 => by rintro _ rfl; exact .fin (yld_assign rfl ⟨Grow.refl _, rfl⟩)) (.nil _ _)
      rintro w18 hw18 v67 - v68 - _ rfl -
      have W18 : Grow w w18 := W17.trans hw18
      replace B2 := B2.grow hw18
      replace B3 := B3.grow hw18
      replace B4 := B4.grow hw18
      replace B5 := B5.grow hw18
      replace B11 := B11.grow hw18
      replace B13 := B13.grow hw18
      replace Ru := Ru.below hw18
      replace hb := MR.mono _ hw18 hb
      refine fr ((va :: vb :: pt b2 :: pt b3 :: pt b4 :: pt b5 :: .bool (false) :: u :: u :: u :: It s :: pt b11 :: .bool (true) :: pt b13 :: .bool (true) :: .slice (some ⟨ru, 0, none⟩) (nw x + 1) (cu) :: It (nw (y * 2 ^ s)) :: u :: u :: v19 :: v20 :: .bool (decide ((((nw y : Nat) : Int) : Int) ≤ (1 : Int))) :: u :: u :: u :: u :: u :: u :: u :: u :: u :: u :: u :: u :: u :: v35 :: v36 :: v37 :: .bool (decide ((cmpV ((x : Nat)) ((y : Nat)) : Int) < (0 : Int))) :: u :: u :: v41 :: v42 :: v43 :: v44 :: v45 :: v46 :: v47 :: v48 :: v49 :: v50 :: v51 :: .bool (true) :: v53 :: v54 :: v55 :: v56 :: v57 :: .bool (true) :: v59 :: v60 :: v61 :: v62 :: v63 :: v64 :: v65 :: v66 :: v67 :: v68 :: []) ++ us 79) ?_
      refine nx ?_
      refine wp_seq ?_
      have lt_ru := Ru.lt
      have lt2_b2 := B2.lt
      have lt2_b3 := B3.lt
      have lt2_b4 := B4.lt
      have lt2_b5 := B5.lt
      have lt2_b11 := B11.lt
      have lt2_b13 := B13.lt
      refine rg (fun c d v a w h => NL c d v a w h) [(69, .nat (x)), (70, .eq (.int .i64 (((nw x : Nat) : Int)))), (71, .eq (.int .i64 (((nw (y * 2 ^ s) : Nat) : Int)))), (72, .eq (.int .i64 (((nw x - nw (y * 2 ^ s) : Nat) : Int)))), (73, .eq (.int .i64 (((nw x - nw (y * 2 ^ s) + 1 : Nat) : Int)))), (74, .own w18.heap.size (fun _ => 0) (nw x - nw (y * 2 ^ s) + 1)), (17, .own w18.heap.size (fun _ => 0) (nw x - nw (y * 2 ^ s) + 1))] [] [] [] 148 7 ?_ ?_
      · refine so [] (fun w19 hw19 => .fin (yld_loadBox rfl rfl aggNat (B2.grow hw19) (shNat _))) ?_
        refine so [0] (fun w19 hw19 => by rintro v69 h69; exact .fin (yld_call rfl cal_nat_Nat_Len rfl (cNatLen h69))) ?_
        refine so [] (fun w19 hw19 => .fin (yld_move rfl ⟨Grow.refl _, rfl⟩)) ?_
        refine so [1, 2] (fun w19 hw19 => by rintro _ rfl _ rfl; exact .fin (yld_sub rfl rfl rfl (r := ((nw x - nw (y * 2 ^ s) : Nat) : Int)) (by rw [IntKind.wrap_i64]; omega) ⟨Grow.refl _, rfl⟩)) ?_
        refine so [3] (fun w19 hw19 => by rintro _ rfl; exact .fin (yld_add rfl rfl rfl (r := ((nw x - nw (y * 2 ^ s) + 1 : Nat) : Int)) (by rw [IntKind.wrap_i64]; omega) ⟨Grow.refl _, rfl⟩)) ?_
        refine so [4] (fun w19 hw19 => by rintro _ rfl; exact .fin (yld_makeO rfl rfl rfl (by omega) hw19.size)) ?_
        exact so [5] (fun w19 hw19 => by rintro v74 h74; exact .fin (yld_assign rfl ⟨Grow.refl _, h74⟩)) (.nil _ _)
      rintro w19 hw19 v69 - v70 - v71 - v72 - v73 - v74 - v17 h17 -
      have W19 : Grow w w19 := W18.trans hw19
      replace B2 := B2.grow hw19
      replace B3 := B3.grow hw19
      replace B4 := B4.grow hw19
      replace B5 := B5.grow hw19
      replace B11 := B11.grow hw19
      replace B13 := B13.grow hw19
      replace Ru := Ru.below hw19
      replace hb := MR.mono _ hw19 hb
      obtain ⟨rq, cq, rfl, gBq, hcq, hcmq, Rq⟩ := h17
      have g_rq : w.heap.size ≤ rq := Nat.le_trans W18.size gBq
      have n_ru_rq : ru ≠ rq := Nat.ne_of_lt (Nat.lt_of_lt_of_le lt_ru gBq)
      have G9 : Grow w16 w19 := Grow.trans (Grow.trans (hw17) hw18) hw19
      have G11 : Grow w16 w18 := Grow.trans (hw17) hw18
      have n_b2_rq : b2 ≠ rq := Nat.ne_of_lt (Nat.lt_of_lt_of_le lt2_b2 gBq)
      replace B2 := (Box.natF (F := fun k => k = ru ∨ k = rq) C2 (by rintro k (rfl | rfl); exact gBu; exact Nat.le_trans G11.size gBq)).grow G9
      have n_b3_rq : b3 ≠ rq := Nat.ne_of_lt (Nat.lt_of_lt_of_le lt2_b3 gBq)
      replace B3 := (Box.natF (F := fun k => k = ru ∨ k = rq) C3 (by rintro k (rfl | rfl); exact gBu; exact Nat.le_trans G11.size gBq)).grow G9
      have n_b4_rq : b4 ≠ rq := Nat.ne_of_lt (Nat.lt_of_lt_of_le lt2_b4 gBq)
      replace B4 := (Box.natF (F := fun k => k = ru ∨ k = rq) C4 (by rintro k (rfl | rfl); exact gBu; exact Nat.le_trans G11.size gBq)).grow G9
      have n_b5_rq : b5 ≠ rq := Nat.ne_of_lt (Nat.lt_of_lt_of_le lt2_b5 gBq)
      replace B5 := (Box.natF (F := fun k => k = ru ∨ k = rq) C5 (by rintro k (rfl | rfl); exact gBu; exact Nat.le_trans G11.size gBq)).grow G9
      have n_b11_rq : b11 ≠ rq := Nat.ne_of_lt (Nat.lt_of_lt_of_le lt2_b11 gBq)
      replace B11 := (Box.natF (F := fun k => k = ru ∨ k = rq) C11 (by rintro k (rfl | rfl); exact gBu; exact Nat.le_trans G11.size gBq)).grow G9
      have n_b13_rq : b13 ≠ rq := Nat.ne_of_lt (Nat.lt_of_lt_of_le lt2_b13 gBq)
      replace B13 := (Box.natF (F := fun k => k = ru ∨ k = rq) C13 (by rintro k (rfl | rfl); exact gBu; exact Nat.le_trans G11.size gBq)).grow G9
      clear C2 C3 C4 C5 C11 C13
      refine fr ((va :: vb :: pt b2 :: pt b3 :: pt b4 :: pt b5 :: .bool (false) :: u :: u :: u :: It s :: pt b11 :: .bool (true) :: pt b13 :: .bool (true) :: .slice (some ⟨ru, 0, none⟩) (nw x + 1) (cu) :: It (nw (y * 2 ^ s)) :: .slice (some ⟨rq, 0, none⟩) (nw x - nw (y * 2 ^ s) + 1) (cq) :: u :: v19 :: v20 :: .bool (decide ((((nw y : Nat) : Int) : Int) ≤ (1 : Int))) :: u :: u :: u :: u :: u :: u :: u :: u :: u :: u :: u :: u :: u :: v35 :: v36 :: v37 :: .bool (decide ((cmpV ((x : Nat)) ((y : Nat)) : Int) < (0 : Int))) :: u :: u :: v41 :: v42 :: v43 :: v44 :: v45 :: v46 :: v47 :: v48 :: v49 :: v50 :: v51 :: .bool (true) :: v53 :: v54 :: v55 :: v56 :: v57 :: .bool (true) :: v59 :: v60 :: v61 :: v62 :: v63 :: v64 :: v65 :: v66 :: v67 :: v68 :: v69 :: v70 :: v71 :: v72 :: v73 :: v74 :: []) ++ us 73) ?_
      refine nx ?_
      refine wp_seq ?_
      refine wp_seq ?_
      refine rg (fun c d v a w h => NL c d v a w h) [(75, .eq (.slice (some ⟨rq, 0, none⟩) (nw x - nw (y * 2 ^ s) + 1) (cq))), (76, .eq (.int .i64 (((nw x - nw (y * 2 ^ s) + 1 : Nat) : Int)))), (77, .eq (.int .i64 ((((nw x - nw (y * 2 ^ s) + 1 : Nat) : Int)) - 1))), (18, .eq (.int .i64 ((((nw x - nw (y * 2 ^ s) + 1 : Nat) : Int)) - 1)))] [] [] [] 148 4 ?_ ?_
      · refine so [] (fun w20 hw20 => .fin (yld_move rfl ⟨Grow.refl _, rfl⟩)) ?_
        refine so [0] (fun w20 hw20 => by rintro _ rfl; exact .fin (yld_lenE rfl rfl)) ?_
        refine so [1] (fun w20 hw20 => by rintro _ rfl; exact .fin (yld_sub rfl rfl rfl (r := (((nw x - nw (y * 2 ^ s) + 1 : Nat) : Int)) - 1) (by rw [IntKind.wrap_i64]; omega) ⟨Grow.refl _, rfl⟩)) ?_
        exact so [2] (fun w20 hw20 => by rintro _ rfl; exact .fin (yld_assign rfl ⟨Grow.refl _, rfl⟩)) (.nil _ _)
      rintro w20 hw20 v75 - v76 - v77 - _ rfl -
      have W20 : Grow w w20 := W19.trans hw20
      replace B2 := B2.grow hw20
      replace B3 := B3.grow hw20
      replace B4 := B4.grow hw20
      replace B5 := B5.grow hw20
      replace B11 := B11.grow hw20
      replace B13 := B13.grow hw20
      replace Ru := Ru.below hw20
      replace Rq := Rq.below hw20
      refine fr ((va :: vb :: pt b2 :: pt b3 :: pt b4 :: pt b5 :: .bool (false) :: u :: u :: u :: It s :: pt b11 :: .bool (true) :: pt b13 :: .bool (true) :: .slice (some ⟨ru, 0, none⟩) (nw x + 1) (cu) :: It (nw (y * 2 ^ s)) :: .slice (some ⟨rq, 0, none⟩) (nw x - nw (y * 2 ^ s) + 1) (cq) :: .int .i64 ((((nw x - nw (y * 2 ^ s) + 1 : Nat) : Int)) - 1) :: v19 :: v20 :: .bool (decide ((((nw y : Nat) : Int) : Int) ≤ (1 : Int))) :: u :: u :: u :: u :: u :: u :: u :: u :: u :: u :: u :: u :: u :: v35 :: v36 :: v37 :: .bool (decide ((cmpV ((x : Nat)) ((y : Nat)) : Int) < (0 : Int))) :: u :: u :: v41 :: v42 :: v43 :: v44 :: v45 :: v46 :: v47 :: v48 :: v49 :: v50 :: v51 :: .bool (true) :: v53 :: v54 :: v55 :: v56 :: v57 :: .bool (true) :: v59 :: v60 :: v61 :: v62 :: v63 :: v64 :: v65 :: v66 :: v67 :: v68 :: v69 :: v70 :: v71 :: v72 :: v73 :: v74 :: v75 :: v76 :: v77 :: []) ++ us 70) ?_
      refine nx ?_
      refine wp_block ?_
      refine wp_loop_ghost (fun nn ac21 w21 => ∃ (j : Nat) (fu : Nat → Nat) (fq : Nat → Nat), nn = j ∧ (j ≤ nw x - nw (y * 2 ^ s) + 1 ∧ DInv (x * 2 ^ s) (y * 2 ^ s) (nw x + 1) (nw x - nw (y * 2 ^ s) + 1) j fu fq) ∧ ∃ tt21 : Nat → Value, ac21 = ⟨List.toArray ((va :: vb :: pt b2 :: pt b3 :: pt b4 :: pt b5 :: .bool (false) :: u :: u :: u :: It s :: pt b11 :: .bool (true) :: pt b13 :: .bool (true) :: .slice (some ⟨ru, 0, none⟩) (nw x + 1) (cu) :: It (nw (y * 2 ^ s)) :: .slice (some ⟨rq, 0, none⟩) (nw x - nw (y * 2 ^ s) + 1) (cq) :: .int .i64 (((j : Nat) : Int) - 1) :: v19 :: v20 :: .bool (decide ((((nw y : Nat) : Int) : Int) ≤ (1 : Int))) :: u :: u :: u :: u :: u :: u :: u :: u :: u :: u :: u :: u :: u :: v35 :: v36 :: v37 :: .bool (decide ((cmpV ((x : Nat)) ((y : Nat)) : Int) < (0 : Int))) :: u :: u :: v41 :: v42 :: v43 :: v44 :: v45 :: v46 :: v47 :: v48 :: v49 :: v50 :: v51 :: .bool (true) :: v53 :: v54 :: v55 :: v56 :: v57 :: .bool (true) :: v59 :: v60 :: v61 :: v62 :: v63 :: v64 :: v65 :: v66 :: v67 :: v68 :: v69 :: v70 :: v71 :: v72 :: v73 :: v74 :: v75 :: v76 :: v77 :: (tt21 78) :: (tt21 79) :: (tt21 80) :: (tt21 81) :: (tt21 82) :: (tt21 83) :: (tt21 84) :: (tt21 85) :: (tt21 86) :: (tt21 87) :: (tt21 88) :: (tt21 89) :: (tt21 90) :: (tt21 91) :: (tt21 92) :: (tt21 93) :: (tt21 94) :: (tt21 95) :: (tt21 96) :: (tt21 97) :: (tt21 98) :: (tt21 99) :: (tt21 100) :: (tt21 101) :: (tt21 102) :: (tt21 103) :: (tt21 104) :: (tt21 105) :: (tt21 106) :: (tt21 107) :: (tt21 108) :: (tt21 109) :: (tt21 110) :: (tt21 111) :: (tt21 112) :: (tt21 113) :: (tt21 114) :: (tt21 115) :: (tt21 116) :: (tt21 117) :: (tt21 118) :: (tt21 119) :: (tt21 120) :: (tt21 121) :: (tt21 122) :: (tt21 123) :: (tt21 124) :: (tt21 125) :: (tt21 126) :: (tt21 127) :: (tt21 128) :: (tt21 129) :: (tt21 130) :: (tt21 131) :: (tt21 132) :: (tt21 133) :: (tt21 134) :: (tt21 135) :: (tt21 136) :: (tt21 137) :: (tt21 138) :: (tt21 139) :: (tt21 140) :: (tt21 141) :: []) ++ us 6), []⟩ ∧ Grow w w21 ∧ Box w21 b2 31 (.natF (fun k => k = ru ∨ k = rq) (x)) ∧ Box w21 b3 31 (.natF (fun k => k = ru ∨ k = rq) (y)) ∧ Box w21 b4 31 (.natF (fun k => k = ru ∨ k = rq) (0)) ∧ Box w21 b5 31 (.natF (fun k => k = ru ∨ k = rq) (0)) ∧ Box w21 b11 31 (.natF (fun k => k = ru ∨ k = rq) (y * 2 ^ s)) ∧ Box w21 b13 31 (.natF (fun k => k = ru ∨ k = rq) (x * 2 ^ s)) ∧ Blk w21 ru 105 (wa (fu) (cu)) ∧ Blk w21 rq 105 (wa (fq) (cq))) (nw x - nw (y * 2 ^ s) + 1) ⟨nw x - nw (y * 2 ^ s) + 1, wd (x * 2 ^ s), fun _ => 0, rfl, ⟨Nat.le_refl _, d_start hNx1 (by omega) hy0⟩, fun d => ((.int .i64 ((((nw x - nw (y * 2 ^ s) + 1 : Nat) : Int)) - 1) :: v19 :: v20 :: .bool (decide ((((nw y : Nat) : Int) : Int) ≤ (1 : Int))) :: u :: u :: u :: u :: u :: u :: u :: u :: u :: u :: u :: u :: u :: v35 :: v36 :: v37 :: .bool (decide ((cmpV ((x : Nat)) ((y : Nat)) : Int) < (0 : Int))) :: u :: u :: v41 :: v42 :: v43 :: v44 :: v45 :: v46 :: v47 :: v48 :: v49 :: v50 :: v51 :: .bool (true) :: v53 :: v54 :: v55 :: v56 :: v57 :: .bool (true) :: v59 :: v60 :: v61 :: v62 :: v63 :: v64 :: v65 :: v66 :: v67 :: v68 :: v69 :: v70 :: v71 :: v72 :: v73 :: v74 :: v75 :: v76 :: v77 :: u :: u :: u :: u :: u :: u :: u :: u :: u :: u :: u :: u :: u :: u :: u :: u :: u :: u :: u :: u :: u :: u :: u :: u :: u :: u :: u :: u :: u :: u :: u :: u :: u :: u :: u :: u :: u :: u :: u :: u :: u :: u :: u :: u :: u :: u :: u :: u :: u :: u :: u :: u :: u :: u :: u :: u :: u :: u :: u :: u :: u :: u :: u :: u :: []) : List Value).getD (d - 18) undef, by kernel_rfl, W20, B2, B3, B4, B5, B11, B13, Ru, Rq⟩ ?_
      clear B2 B3 B4 B5 B11 B13 Ru Rq
      rintro nn21 _ w21 ⟨j, fu, fq, hnn21, ⟨hj, hD⟩, tt21, rfl, W21, B2, B3, B4, B5, B11, B13, Ru, Rq⟩
      refine wp_seq ?_
      refine wp_seq ?_
      refine rg (fun c d v a w h => NL c d v a w h) [(78, .eq (.int .i64 (((j : Nat) : Int) - 1))), (79, .eq (.bool (decide ((((j : Nat) : Int) - 1 : Int) ≥ (0 : Int)))))] [] [] [] 148 2 ?_ ?_
      · refine so [] (fun w22 hw22 => .fin (yld_move rfl ⟨Grow.refl _, rfl⟩)) ?_
        exact so [0] (fun w22 hw22 => by rintro _ rfl; exact .fin (yld_geq rfl rfl rfl ⟨Grow.refl _, rfl⟩)) (.nil _ _)
      rintro w22 hw22 v78 - _ rfl -
      have W22 : Grow w w22 := W21.trans hw22
      replace B2 := B2.grow hw22
      replace B3 := B3.grow hw22
      replace B4 := B4.grow hw22
      replace B5 := B5.grow hw22
      replace B11 := B11.grow hw22
      replace B13 := B13.grow hw22
      replace Ru := Ru.below hw22
      replace Rq := Rq.below hw22
      refine fr ((va :: vb :: pt b2 :: pt b3 :: pt b4 :: pt b5 :: .bool (false) :: u :: u :: u :: It s :: pt b11 :: .bool (true) :: pt b13 :: .bool (true) :: .slice (some ⟨ru, 0, none⟩) (nw x + 1) (cu) :: It (nw (y * 2 ^ s)) :: .slice (some ⟨rq, 0, none⟩) (nw x - nw (y * 2 ^ s) + 1) (cq) :: .int .i64 (((j : Nat) : Int) - 1) :: v19 :: v20 :: .bool (decide ((((nw y : Nat) : Int) : Int) ≤ (1 : Int))) :: u :: u :: u :: u :: u :: u :: u :: u :: u :: u :: u :: u :: u :: v35 :: v36 :: v37 :: .bool (decide ((cmpV ((x : Nat)) ((y : Nat)) : Int) < (0 : Int))) :: u :: u :: v41 :: v42 :: v43 :: v44 :: v45 :: v46 :: v47 :: v48 :: v49 :: v50 :: v51 :: .bool (true) :: v53 :: v54 :: v55 :: v56 :: v57 :: .bool (true) :: v59 :: v60 :: v61 :: v62 :: v63 :: v64 :: v65 :: v66 :: v67 :: v68 :: v69 :: v70 :: v71 :: v72 :: v73 :: v74 :: v75 :: v76 :: v77 :: v78 :: .bool (decide ((((j : Nat) : Int) - 1 : Int) ≥ (0 : Int))) :: (tt21 80) :: (tt21 81) :: (tt21 82) :: (tt21 83) :: (tt21 84) :: (tt21 85) :: (tt21 86) :: (tt21 87) :: (tt21 88) :: (tt21 89) :: (tt21 90) :: (tt21 91) :: (tt21 92) :: (tt21 93) :: (tt21 94) :: (tt21 95) :: (tt21 96) :: (tt21 97) :: (tt21 98) :: (tt21 99) :: (tt21 100) :: (tt21 101) :: (tt21 102) :: (tt21 103) :: (tt21 104) :: (tt21 105) :: (tt21 106) :: (tt21 107) :: (tt21 108) :: (tt21 109) :: (tt21 110) :: (tt21 111) :: (tt21 112) :: (tt21 113) :: (tt21 114) :: (tt21 115) :: (tt21 116) :: (tt21 117) :: (tt21 118) :: (tt21 119) :: (tt21 120) :: (tt21 121) :: (tt21 122) :: (tt21 123) :: (tt21 124) :: (tt21 125) :: (tt21 126) :: (tt21 127) :: (tt21 128) :: (tt21 129) :: (tt21 130) :: (tt21 131) :: (tt21 132) :: (tt21 133) :: (tt21 134) :: (tt21 135) :: (tt21 136) :: (tt21 137) :: (tt21 138) :: (tt21 139) :: (tt21 140) :: (tt21 141) :: []) ++ us 6) ?_
      refine nx ?_
      refine wp_cond_split (t := decide ((((j : Nat) : Int) - 1 : Int) ≥ (0 : Int))) rfl (fun hge => ?_) (fun hge => ?_)
      · have hj0 : 0 < j := by have := of_decide_eq_true hge; omega
        have hD1 : DInv (x * 2 ^ s) (y * 2 ^ s) (nw x + 1) (nw x - nw (y * 2 ^ s) + 1) (j - 1 + 1) fu fq := by rw [Nat.sub_add_cancel hj0]; exact hD
        have hkN : j - 1 + nw (y * 2 ^ s) < nw x + 1 := by omega
        have hkQ : j - 1 < nw x - nw (y * 2 ^ s) + 1 := by omega
        obtain ⟨hg1, hg2⟩ := d_guess rfl h2V hkN hD1
        refine wp_skip ?_
        change Code.wp _ _ _ ⟨_, []⟩ _
        refine wp_seq ?_
        refine wp_block ?_
        refine wp_seq ?_
        refine rg (fun c d v a w h => NL c d v a w h) [(82, .eq (.slice (some ⟨rq, 0, none⟩) (nw x - nw (y * 2 ^ s) + 1) (cq))), (83, .eq (.int .i64 (((j : Nat) : Int) - 1))), (84, .eq (.slice (some ⟨ru, 0, none⟩) (nw x + 1) (cu))), (85, .eq (.int .i64 (((j : Nat) : Int) - 1))), (86, .eq (.int .i64 (((nw (y * 2 ^ s) : Nat) : Int)))), (87, .eq (.int .i64 ((((j : Nat) : Int) - 1) + (((nw (y * 2 ^ s) : Nat) : Int))))), (88, .eq (.pointer (some ⟨ru, (j - 1 + nw (y * 2 ^ s)), none⟩))), (89, .eq (.int .u64 (((fu ((j - 1 + nw (y * 2 ^ s))) : Nat) : Int)))), (90, .eq (.slice (some ⟨ru, 0, none⟩) (nw x + 1) (cu))), (91, .eq (.int .i64 (((j : Nat) : Int) - 1))), (92, .eq (.int .i64 (((nw (y * 2 ^ s) : Nat) : Int)))), (93, .eq (.int .i64 ((((j : Nat) : Int) - 1) + (((nw (y * 2 ^ s) : Nat) : Int))))), (94, .eq (.int .i64 (((((j : Nat) : Int) - 1) + (((nw (y * 2 ^ s) : Nat) : Int))) - 1))), (95, .eq (.pointer (some ⟨ru, (j - 1 + nw (y * 2 ^ s) - 1), none⟩))), (96, .eq (.int .u64 (((fu ((j - 1 + nw (y * 2 ^ s) - 1)) : Nat) : Int)))), (97, .eq (.slice (some ⟨ru, 0, none⟩) (nw x + 1) (cu))), (98, .eq (.int .i64 (((j : Nat) : Int) - 1))), (99, .eq (.int .i64 (((nw (y * 2 ^ s) : Nat) : Int)))), (100, .eq (.int .i64 ((((j : Nat) : Int) - 1) + (((nw (y * 2 ^ s) : Nat) : Int))))), (101, .eq (.int .i64 (((((j : Nat) : Int) - 1) + (((nw (y * 2 ^ s) : Nat) : Int))) - 2))), (102, .eq (.pointer (some ⟨ru, (j - 1 + nw (y * 2 ^ s) - 2), none⟩))), (103, .eq (.int .u64 (((fu ((j - 1 + nw (y * 2 ^ s) - 2)) : Nat) : Int)))), (104, .natF (fun k => k = ru ∨ k = rq) (y * 2 ^ s)), (105, .eq (.int .i64 (((nw (y * 2 ^ s) : Nat) : Int)))), (106, .eq (.int .i64 (((nw (y * 2 ^ s) - 1 : Nat) : Int)))), (107, .eq (.int .u64 (((wd (y * 2 ^ s) (nw (y * 2 ^ s) - 1) : Nat) : Int)))), (108, .natF (fun k => k = ru ∨ k = rq) (y * 2 ^ s)), (109, .eq (.int .i64 (((nw (y * 2 ^ s) : Nat) : Int)))), (110, .eq (.int .i64 (((nw (y * 2 ^ s) - 2 : Nat) : Int)))), (111, .eq (.int .u64 (((wd (y * 2 ^ s) (nw (y * 2 ^ s) - 2) : Nat) : Int)))), (112, .eq (.int .u64 (((dq fu (y * 2 ^ s) (j - 1) (nw (y * 2 ^ s)) : Nat) : Int)))), (113, .eq (.pointer (some ⟨rq, (j - 1), none⟩)))] [] [] [] 148 32 ?_ ?_
        · refine so [] (fun w23 hw23 => .fin (yld_move rfl ⟨Grow.refl _, rfl⟩)) ?_
          refine so [] (fun w23 hw23 => .fin (yld_move rfl ⟨Grow.refl _, rfl⟩)) ?_
          refine so [] (fun w23 hw23 => .fin (yld_move rfl ⟨Grow.refl _, rfl⟩)) ?_
          refine so [] (fun w23 hw23 => .fin (yld_move rfl ⟨Grow.refl _, rfl⟩)) ?_
          refine so [] (fun w23 hw23 => .fin (yld_move rfl ⟨Grow.refl _, rfl⟩)) ?_
          refine so [3, 4] (fun w23 hw23 => by rintro _ rfl _ rfl; exact .fin (yld_add rfl rfl rfl (r := (((j : Nat) : Int) - 1) + (((nw (y * 2 ^ s) : Nat) : Int))) (by rw [IntKind.wrap_i64]; omega) ⟨Grow.refl _, rfl⟩)) ?_
          refine so [2, 5] (fun w23 hw23 => by rintro _ rfl _ rfl; exact .fin (yld_indexE (k := j - 1 + nw (y * 2 ^ s)) rfl rfl rfl (by omega) (by omega) (j := (j - 1 + nw (y * 2 ^ s))) (by omega))) ?_
          refine so [6] (fun w23 hw23 => by rintro _ rfl; exact .fin (yld_loadE rfl rfl (Ru.below hw23) (by omega))) ?_
          refine so [] (fun w23 hw23 => .fin (yld_move rfl ⟨Grow.refl _, rfl⟩)) ?_
          refine so [] (fun w23 hw23 => .fin (yld_move rfl ⟨Grow.refl _, rfl⟩)) ?_
          refine so [] (fun w23 hw23 => .fin (yld_move rfl ⟨Grow.refl _, rfl⟩)) ?_
          refine so [9, 10] (fun w23 hw23 => by rintro _ rfl _ rfl; exact .fin (yld_add rfl rfl rfl (r := (((j : Nat) : Int) - 1) + (((nw (y * 2 ^ s) : Nat) : Int))) (by rw [IntKind.wrap_i64]; omega) ⟨Grow.refl _, rfl⟩)) ?_
          refine so [11] (fun w23 hw23 => by rintro _ rfl; exact .fin (yld_sub rfl rfl rfl (r := ((((j : Nat) : Int) - 1) + (((nw (y * 2 ^ s) : Nat) : Int))) - 1) (by rw [IntKind.wrap_i64]; omega) ⟨Grow.refl _, rfl⟩)) ?_
          refine so [8, 12] (fun w23 hw23 => by rintro _ rfl _ rfl; exact .fin (yld_indexE (k := j - 1 + nw (y * 2 ^ s) - 1) rfl rfl rfl (by omega) (by omega) (j := (j - 1 + nw (y * 2 ^ s) - 1)) (by omega))) ?_
          refine so [13] (fun w23 hw23 => by rintro _ rfl; exact .fin (yld_loadE rfl rfl (Ru.below hw23) (by omega))) ?_
          refine so [] (fun w23 hw23 => .fin (yld_move rfl ⟨Grow.refl _, rfl⟩)) ?_
          refine so [] (fun w23 hw23 => .fin (yld_move rfl ⟨Grow.refl _, rfl⟩)) ?_
          refine so [] (fun w23 hw23 => .fin (yld_move rfl ⟨Grow.refl _, rfl⟩)) ?_
          refine so [16, 17] (fun w23 hw23 => by rintro _ rfl _ rfl; exact .fin (yld_add rfl rfl rfl (r := (((j : Nat) : Int) - 1) + (((nw (y * 2 ^ s) : Nat) : Int))) (by rw [IntKind.wrap_i64]; omega) ⟨Grow.refl _, rfl⟩)) ?_
          refine so [18] (fun w23 hw23 => by rintro _ rfl; exact .fin (yld_sub rfl rfl rfl (r := ((((j : Nat) : Int) - 1) + (((nw (y * 2 ^ s) : Nat) : Int))) - 2) (by rw [IntKind.wrap_i64]; omega) ⟨Grow.refl _, rfl⟩)) ?_
          refine so [15, 19] (fun w23 hw23 => by rintro _ rfl _ rfl; exact .fin (yld_indexE (k := j - 1 + nw (y * 2 ^ s) - 2) rfl rfl rfl (by omega) (by omega) (j := (j - 1 + nw (y * 2 ^ s) - 2)) (by omega))) ?_
          refine so [20] (fun w23 hw23 => by rintro _ rfl; exact .fin (yld_loadE rfl rfl (Ru.below hw23) (by omega))) ?_
          refine so [] (fun w23 hw23 => .fin (yld_loadBox rfl rfl aggNat (B11.grow hw23) (shNatF))) ?_
          refine so [] (fun w23 hw23 => .fin (yld_move rfl ⟨Grow.refl _, rfl⟩)) ?_
          refine so [23] (fun w23 hw23 => by rintro _ rfl; exact .fin (yld_sub rfl rfl rfl (r := ((nw (y * 2 ^ s) - 1 : Nat) : Int)) (by rw [IntKind.wrap_i64]; omega) ⟨Grow.refl _, rfl⟩)) ?_
          refine so [22, 24] (fun w23 hw23 => by rintro v104 h104 _ rfl; exact .fin (yld_call rfl cal_nat_Nat_Word rfl (cWordF (k := (nw (y * 2 ^ s) - 1)) h104))) ?_
          refine so [] (fun w23 hw23 => .fin (yld_loadBox rfl rfl aggNat (B11.grow hw23) (shNatF))) ?_
          refine so [] (fun w23 hw23 => .fin (yld_move rfl ⟨Grow.refl _, rfl⟩)) ?_
          refine so [27] (fun w23 hw23 => by rintro _ rfl; exact .fin (yld_sub rfl rfl rfl (r := ((nw (y * 2 ^ s) - 2 : Nat) : Int)) (by rw [IntKind.wrap_i64]; omega) ⟨Grow.refl _, rfl⟩)) ?_
          refine so [26, 28] (fun w23 hw23 => by rintro v108 h108 _ rfl; exact .fin (yld_call rfl cal_nat_Nat_Word rfl (cWordF (k := (nw (y * 2 ^ s) - 2)) h108))) ?_
          refine so [7, 14, 21, 25, 29] (fun w23 hw23 => by rintro _ rfl _ rfl _ rfl _ rfl _ rfl; exact .fin (yld_as (R := .eq (.int .u64 (((gq (fu ((j - 1 + nw (y * 2 ^ s)))) (fu ((j - 1 + nw (y * 2 ^ s) - 1))) (fu ((j - 1 + nw (y * 2 ^ s) - 2))) (wd (y * 2 ^ s) (nw (y * 2 ^ s) - 1)) (wd (y * 2 ^ s) (nw (y * 2 ^ s) - 2)) : Nat) : Int)))) (R2 := .eq (.int .u64 (((dq fu (y * 2 ^ s) (j - 1) (nw (y * 2 ^ s)) : Nat) : Int)))) (yld_call rfl cal_quot_guess rfl (cGuess (u2 := (fu ((j - 1 + nw (y * 2 ^ s))))) (u1 := (fu ((j - 1 + nw (y * 2 ^ s) - 1)))) (u0 := (fu ((j - 1 + nw (y * 2 ^ s) - 2)))) (v1 := (wd (y * 2 ^ s) (nw (y * 2 ^ s) - 1))) (v0 := (wd (y * 2 ^ s) (nw (y * 2 ^ s) - 2))) hg1 hg2 (hD.1 _ (by omega)) (hD.1 _ (by omega)) (wd_lt _ _) (wd_lt _ _))) (fun h => h))) ?_
          exact so [0, 1] (fun w23 hw23 => by rintro _ rfl _ rfl; exact .fin (yld_indexE (k := j - 1) rfl rfl rfl (by omega) (by omega) (j := (j - 1)) (by omega))) (.nil _ _)
        rintro w23 hw23 v82 - v83 - v84 - v85 - v86 - v87 - v88 - v89 - v90 - v91 - v92 - v93 - v94 - v95 - v96 - v97 - v98 - v99 - v100 - v101 - v102 - v103 - v104 - v105 - v106 - v107 - v108 - v109 - v110 - v111 - _ rfl _ rfl -
        have W23 : Grow w w23 := W22.trans hw23
        replace B2 := B2.grow hw23
        replace B3 := B3.grow hw23
        replace B4 := B4.grow hw23
        replace B5 := B5.grow hw23
        replace B11 := B11.grow hw23
        replace B13 := B13.grow hw23
        replace Ru := Ru.below hw23
        replace Rq := Rq.below hw23
        have KK : Kept [] w23 w23 := fun _ _ => rfl
        refine fr ((va :: vb :: pt b2 :: pt b3 :: pt b4 :: pt b5 :: .bool (false) :: u :: u :: u :: It s :: pt b11 :: .bool (true) :: pt b13 :: .bool (true) :: .slice (some ⟨ru, 0, none⟩) (nw x + 1) (cu) :: It (nw (y * 2 ^ s)) :: .slice (some ⟨rq, 0, none⟩) (nw x - nw (y * 2 ^ s) + 1) (cq) :: .int .i64 (((j : Nat) : Int) - 1) :: v19 :: v20 :: .bool (decide ((((nw y : Nat) : Int) : Int) ≤ (1 : Int))) :: u :: u :: u :: u :: u :: u :: u :: u :: u :: u :: u :: u :: u :: v35 :: v36 :: v37 :: .bool (decide ((cmpV ((x : Nat)) ((y : Nat)) : Int) < (0 : Int))) :: u :: u :: v41 :: v42 :: v43 :: v44 :: v45 :: v46 :: v47 :: v48 :: v49 :: v50 :: v51 :: .bool (true) :: v53 :: v54 :: v55 :: v56 :: v57 :: .bool (true) :: v59 :: v60 :: v61 :: v62 :: v63 :: v64 :: v65 :: v66 :: v67 :: v68 :: v69 :: v70 :: v71 :: v72 :: v73 :: v74 :: v75 :: v76 :: v77 :: v78 :: .bool (decide ((((j : Nat) : Int) - 1 : Int) ≥ (0 : Int))) :: (tt21 80) :: (tt21 81) :: v82 :: v83 :: v84 :: v85 :: v86 :: v87 :: v88 :: v89 :: v90 :: v91 :: v92 :: v93 :: v94 :: v95 :: v96 :: v97 :: v98 :: v99 :: v100 :: v101 :: v102 :: v103 :: v104 :: v105 :: v106 :: v107 :: v108 :: v109 :: v110 :: v111 :: Ut (dq fu (y * 2 ^ s) (j - 1) (nw (y * 2 ^ s))) :: .pointer (some ⟨rq, (j - 1), none⟩) :: (tt21 114) :: (tt21 115) :: (tt21 116) :: (tt21 117) :: (tt21 118) :: (tt21 119) :: (tt21 120) :: (tt21 121) :: (tt21 122) :: (tt21 123) :: (tt21 124) :: (tt21 125) :: (tt21 126) :: (tt21 127) :: (tt21 128) :: (tt21 129) :: (tt21 130) :: (tt21 131) :: (tt21 132) :: (tt21 133) :: (tt21 134) :: (tt21 135) :: (tt21 136) :: (tt21 137) :: (tt21 138) :: (tt21 139) :: (tt21 140) :: (tt21 141) :: []) ++ us 6) ?_
        change wpListS _ _ _ _ [_] ⟨_, []⟩ _
        refine wpListS_yld rfl ?_
        refine yld_storeE (i := (j - 1)) (v := dq fu (y * 2 ^ s) (j - 1) (nw (y * 2 ^ s))) rfl rfl rfl Rq (by omega) fun w24 P24 R' => ⟨fun _ => Kept.put KK P24 (fun _ hk => (by cases hk)), ?_⟩
        replace KK := Kept.put KK P24 (fun _ hk => (by cases hk))
        have M24 : Mod rq w23 w24 := P24.toMod
        have W24 : Grow w w24 := W23.mod M24 g_rq
        replace B2 := B2.mod M24 (.inr rfl) n_b2_rq
        replace B3 := B3.mod M24 (.inr rfl) n_b3_rq
        replace B4 := B4.mod M24 (.inr rfl) n_b4_rq
        replace B5 := B5.mod M24 (.inr rfl) n_b5_rq
        replace B11 := B11.mod M24 (.inr rfl) n_b11_rq
        replace B13 := B13.mod M24 (.inr rfl) n_b13_rq
        replace Ru := Ru.mod M24 n_ru_rq
        replace Rq := R'; clear R'
        refine nx ?_
        refine wp_seq ?_
        refine rg (fun c d v a w h => NL c d v a w h) [(114, .eq (.slice (some ⟨ru, 0, none⟩) (nw x + 1) (cu))), (115, .eq (.int .i64 (((j : Nat) : Int) - 1))), (116, .eq (.int .i64 (((j : Nat) : Int) - 1))), (117, .eq (.int .i64 (((nw (y * 2 ^ s) : Nat) : Int)))), (118, .eq (.int .i64 ((((j : Nat) : Int) - 1) + (((nw (y * 2 ^ s) : Nat) : Int))))), (119, .eq (.int .i64 (((((j : Nat) : Int) - 1) + (((nw (y * 2 ^ s) : Nat) : Int))) + 1))), (120, .eq (.slice (some ⟨ru, (j - 1), none⟩) (nw (y * 2 ^ s) + 1) (cu - (j - 1)))), (121, .natF (fun k => k = ru ∨ k = rq) (y * 2 ^ s)), (122, .eq (.slice (some ⟨rq, 0, none⟩) (nw x - nw (y * 2 ^ s) + 1) (cq))), (123, .eq (.int .i64 (((j : Nat) : Int) - 1))), (124, .eq (.pointer (some ⟨rq, (j - 1), none⟩))), (125, .eq (.int .u64 (((dq fu (y * 2 ^ s) (j - 1) (nw (y * 2 ^ s)) : Nat) : Int))))] [] [] [] 148 12 ?_ ?_
        · refine so [] (fun w25 hw25 => .fin (yld_move rfl ⟨Grow.refl _, rfl⟩)) ?_
          refine so [] (fun w25 hw25 => .fin (yld_move rfl ⟨Grow.refl _, rfl⟩)) ?_
          refine so [] (fun w25 hw25 => .fin (yld_move rfl ⟨Grow.refl _, rfl⟩)) ?_
          refine so [] (fun w25 hw25 => .fin (yld_move rfl ⟨Grow.refl _, rfl⟩)) ?_
          refine so [2, 3] (fun w25 hw25 => by rintro _ rfl _ rfl; exact .fin (yld_add rfl rfl rfl (r := (((j : Nat) : Int) - 1) + (((nw (y * 2 ^ s) : Nat) : Int))) (by rw [IntKind.wrap_i64]; omega) ⟨Grow.refl _, rfl⟩)) ?_
          refine so [4] (fun w25 hw25 => by rintro _ rfl; exact .fin (yld_add rfl rfl rfl (r := ((((j : Nat) : Int) - 1) + (((nw (y * 2 ^ s) : Nat) : Int))) + 1) (by rw [IntKind.wrap_i64]; omega) ⟨Grow.refl _, rfl⟩)) ?_
          refine so [0, 1, 5] (fun w25 hw25 => by rintro _ rfl _ rfl _ rfl; exact .fin (yld_sliceE (l := j - 1) (r := j - 1 + nw (y * 2 ^ s) + 1) (j := (j - 1)) (m := nw (y * 2 ^ s) + 1) rfl rfl rfl rfl (by omega) (by omega) (by omega) (by omega) (by omega) (by omega))) ?_
          refine so [] (fun w25 hw25 => .fin (yld_loadBox rfl rfl aggNat (B11.grow hw25) (shNatF))) ?_
          refine so [] (fun w25 hw25 => .fin (yld_move rfl ⟨Grow.refl _, rfl⟩)) ?_
          refine so [] (fun w25 hw25 => .fin (yld_move rfl ⟨Grow.refl _, rfl⟩)) ?_
          refine so [8, 9] (fun w25 hw25 => by rintro _ rfl _ rfl; exact .fin (yld_indexE (k := j - 1) rfl rfl rfl (by omega) (by omega) (j := (j - 1)) (by omega))) ?_
          exact so [10] (fun w25 hw25 => by rintro _ rfl; exact .fin (yld_as (R := .eq (.int .u64 ((((upd (fq) ((j - 1)) (dq fu (y * 2 ^ s) (j - 1) (nw (y * 2 ^ s)))) ((j - 1)) : Nat) : Int)))) (R2 := .eq (.int .u64 (((dq fu (y * 2 ^ s) (j - 1) (nw (y * 2 ^ s)) : Nat) : Int)))) (yld_loadE rfl rfl (Rq.below hw25) (by omega)) (fun h => h.trans (by rw [upd_same])))) (.nil _ _)
        rintro w25 hw25 v114 - v115 - v116 - v117 - v118 - v119 - _ rfl v121 h121 v122 - v123 - v124 - _ rfl -
        have W25 : Grow w w25 := W24.trans hw25
        replace B2 := B2.grow hw25
        replace B3 := B3.grow hw25
        replace B4 := B4.grow hw25
        replace B5 := B5.grow hw25
        replace B11 := B11.grow hw25
        replace B13 := B13.grow hw25
        replace Ru := Ru.below hw25
        replace Rq := Rq.below hw25
        have KK : Kept [] w25 w25 := fun _ _ => rfl
        refine fr ((va :: vb :: pt b2 :: pt b3 :: pt b4 :: pt b5 :: .bool (false) :: u :: u :: u :: It s :: pt b11 :: .bool (true) :: pt b13 :: .bool (true) :: .slice (some ⟨ru, 0, none⟩) (nw x + 1) (cu) :: It (nw (y * 2 ^ s)) :: .slice (some ⟨rq, 0, none⟩) (nw x - nw (y * 2 ^ s) + 1) (cq) :: .int .i64 (((j : Nat) : Int) - 1) :: v19 :: v20 :: .bool (decide ((((nw y : Nat) : Int) : Int) ≤ (1 : Int))) :: u :: u :: u :: u :: u :: u :: u :: u :: u :: u :: u :: u :: u :: v35 :: v36 :: v37 :: .bool (decide ((cmpV ((x : Nat)) ((y : Nat)) : Int) < (0 : Int))) :: u :: u :: v41 :: v42 :: v43 :: v44 :: v45 :: v46 :: v47 :: v48 :: v49 :: v50 :: v51 :: .bool (true) :: v53 :: v54 :: v55 :: v56 :: v57 :: .bool (true) :: v59 :: v60 :: v61 :: v62 :: v63 :: v64 :: v65 :: v66 :: v67 :: v68 :: v69 :: v70 :: v71 :: v72 :: v73 :: v74 :: v75 :: v76 :: v77 :: v78 :: .bool (decide ((((j : Nat) : Int) - 1 : Int) ≥ (0 : Int))) :: (tt21 80) :: (tt21 81) :: v82 :: v83 :: v84 :: v85 :: v86 :: v87 :: v88 :: v89 :: v90 :: v91 :: v92 :: v93 :: v94 :: v95 :: v96 :: v97 :: v98 :: v99 :: v100 :: v101 :: v102 :: v103 :: v104 :: v105 :: v106 :: v107 :: v108 :: v109 :: v110 :: v111 :: Ut (dq fu (y * 2 ^ s) (j - 1) (nw (y * 2 ^ s))) :: .pointer (some ⟨rq, (j - 1), none⟩) :: v114 :: v115 :: v116 :: v117 :: v118 :: v119 :: .slice (some ⟨ru, (j - 1), none⟩) (nw (y * 2 ^ s) + 1) (cu - (j - 1)) :: v121 :: v122 :: v123 :: v124 :: Ut (dq fu (y * 2 ^ s) (j - 1) (nw (y * 2 ^ s))) :: (tt21 126) :: (tt21 127) :: (tt21 128) :: (tt21 129) :: (tt21 130) :: (tt21 131) :: (tt21 132) :: (tt21 133) :: (tt21 134) :: (tt21 135) :: (tt21 136) :: (tt21 137) :: (tt21 138) :: (tt21 139) :: (tt21 140) :: (tt21 141) :: []) ++ us 6) ?_
        change wpListS _ _ _ _ [_] ⟨_, []⟩ _
        refine wpListS_yld rfl ?_
        refine yld_call rfl cal_quot_take rfl ((cTake (N := nw x + 1) Ru (NatAt.sub h121 fun k hk => .inl hk) (dq_lt _ _ _ _) hkN hcu (by omega) hD.1).mono ?_)
        rintro _ w26 ⟨_, fT, rfl, M26, R', bT, rfl, hT9⟩
        refine ⟨_, rfl, fun h => absurd rfl h, ?_⟩
        have W26 : Grow w w26 := W25.mod M26 g_ru
        replace B2 := B2.mod M26 (.inl rfl) n_b2_ru
        replace B3 := B3.mod M26 (.inl rfl) n_b3_ru
        replace B4 := B4.mod M26 (.inl rfl) n_b4_ru
        replace B5 := B5.mod M26 (.inl rfl) n_b5_ru
        replace B11 := B11.mod M26 (.inl rfl) n_b11_ru
        replace B13 := B13.mod M26 (.inl rfl) n_b13_ru
        replace Rq := Rq.mod M26 (Ne.symm n_ru_rq)
        replace Ru := R'; clear R'
        refine wpListS_nil ?_
        change Code.wp _ _ _ ⟨List.toArray (List.set _ 126 _), []⟩ _
        refine wp_cond_split (t := decide (bT = 1)) rfl (fun hb => ?_) (fun hb => ?_)
        · have hb1 : bT = 1 := of_decide_eq_true hb
          have hT1 := hT9
          rw [hb1] at hT1
          have hneg := d_neg rfl h2V hkN hD1 hT1
          refine wp_seq ?_
          refine rg (fun c d v a w h => NL c d v a w h) [(127, .eq (.slice (some ⟨rq, 0, none⟩) (nw x - nw (y * 2 ^ s) + 1) (cq))), (128, .eq (.int .i64 (((j : Nat) : Int) - 1))), (129, .eq (.pointer (some ⟨rq, (j - 1), none⟩))), (130, .eq (.int .u64 (((dq fu (y * 2 ^ s) (j - 1) (nw (y * 2 ^ s)) : Nat) : Int)))), (131, .eq (.int .u64 (((dq fu (y * 2 ^ s) (j - 1) (nw (y * 2 ^ s)) - 1 : Nat) : Int)))), (132, .eq (.pointer (some ⟨rq, (j - 1), none⟩)))] [] [] [] 148 6 ?_ ?_
          · refine so [] (fun w27 hw27 => .fin (yld_move rfl ⟨Grow.refl _, rfl⟩)) ?_
            refine so [] (fun w27 hw27 => .fin (yld_move rfl ⟨Grow.refl _, rfl⟩)) ?_
            refine so [0, 1] (fun w27 hw27 => by rintro _ rfl _ rfl; exact .fin (yld_indexE (k := j - 1) rfl rfl rfl (by omega) (by omega) (j := (j - 1)) (by omega))) ?_
            refine so [2] (fun w27 hw27 => by rintro _ rfl; exact .fin (yld_as (R := .eq (.int .u64 ((((upd (fq) ((j - 1)) (dq fu (y * 2 ^ s) (j - 1) (nw (y * 2 ^ s)))) ((j - 1)) : Nat) : Int)))) (R2 := .eq (.int .u64 (((dq fu (y * 2 ^ s) (j - 1) (nw (y * 2 ^ s)) : Nat) : Int)))) (yld_loadE rfl rfl (Rq.below hw27) (by omega)) (fun h => h.trans (by rw [upd_same])))) ?_
            refine so [3] (fun w27 hw27 => by rintro _ rfl; exact .fin (yld_sub rfl rfl rfl (r := ((dq fu (y * 2 ^ s) (j - 1) (nw (y * 2 ^ s)) - 1 : Nat) : Int)) (u64_pred (dq_lt _ _ _ _) hneg.2) ⟨Grow.refl _, rfl⟩)) ?_
            exact so [0, 1] (fun w27 hw27 => by rintro _ rfl _ rfl; exact .fin (yld_indexE (k := j - 1) rfl rfl rfl (by omega) (by omega) (j := (j - 1)) (by omega))) (.nil _ _)
          rintro w27 hw27 v127 - v128 - v129 - v130 - _ rfl _ rfl -
          have W27 : Grow w w27 := W26.trans hw27
          replace B2 := B2.grow hw27
          replace B3 := B3.grow hw27
          replace B4 := B4.grow hw27
          replace B5 := B5.grow hw27
          replace B11 := B11.grow hw27
          replace B13 := B13.grow hw27
          replace Ru := Ru.below hw27
          replace Rq := Rq.below hw27
          have KK : Kept [] w27 w27 := fun _ _ => rfl
          refine fr ((va :: vb :: pt b2 :: pt b3 :: pt b4 :: pt b5 :: .bool (false) :: u :: u :: u :: It s :: pt b11 :: .bool (true) :: pt b13 :: .bool (true) :: .slice (some ⟨ru, 0, none⟩) (nw x + 1) (cu) :: It (nw (y * 2 ^ s)) :: .slice (some ⟨rq, 0, none⟩) (nw x - nw (y * 2 ^ s) + 1) (cq) :: .int .i64 (((j : Nat) : Int) - 1) :: v19 :: v20 :: .bool (decide ((((nw y : Nat) : Int) : Int) ≤ (1 : Int))) :: u :: u :: u :: u :: u :: u :: u :: u :: u :: u :: u :: u :: u :: v35 :: v36 :: v37 :: .bool (decide ((cmpV ((x : Nat)) ((y : Nat)) : Int) < (0 : Int))) :: u :: u :: v41 :: v42 :: v43 :: v44 :: v45 :: v46 :: v47 :: v48 :: v49 :: v50 :: v51 :: .bool (true) :: v53 :: v54 :: v55 :: v56 :: v57 :: .bool (true) :: v59 :: v60 :: v61 :: v62 :: v63 :: v64 :: v65 :: v66 :: v67 :: v68 :: v69 :: v70 :: v71 :: v72 :: v73 :: v74 :: v75 :: v76 :: v77 :: v78 :: .bool (decide ((((j : Nat) : Int) - 1 : Int) ≥ (0 : Int))) :: (tt21 80) :: (tt21 81) :: v82 :: v83 :: v84 :: v85 :: v86 :: v87 :: v88 :: v89 :: v90 :: v91 :: v92 :: v93 :: v94 :: v95 :: v96 :: v97 :: v98 :: v99 :: v100 :: v101 :: v102 :: v103 :: v104 :: v105 :: v106 :: v107 :: v108 :: v109 :: v110 :: v111 :: Ut (dq fu (y * 2 ^ s) (j - 1) (nw (y * 2 ^ s))) :: .pointer (some ⟨rq, (j - 1), none⟩) :: v114 :: v115 :: v116 :: v117 :: v118 :: v119 :: .slice (some ⟨ru, (j - 1), none⟩) (nw (y * 2 ^ s) + 1) (cu - (j - 1)) :: v121 :: v122 :: v123 :: v124 :: Ut (dq fu (y * 2 ^ s) (j - 1) (nw (y * 2 ^ s))) :: .bool (decide (bT = 1)) :: v127 :: v128 :: v129 :: v130 :: Ut (dq fu (y * 2 ^ s) (j - 1) (nw (y * 2 ^ s)) - 1) :: .pointer (some ⟨rq, (j - 1), none⟩) :: (tt21 133) :: (tt21 134) :: (tt21 135) :: (tt21 136) :: (tt21 137) :: (tt21 138) :: (tt21 139) :: (tt21 140) :: (tt21 141) :: []) ++ us 6) ?_
          change wpListS _ _ _ _ [_] ⟨_, []⟩ _
          refine wpListS_yld rfl ?_
          refine yld_storeE (i := (j - 1)) (v := dq fu (y * 2 ^ s) (j - 1) (nw (y * 2 ^ s)) - 1) rfl rfl rfl Rq (by omega) fun w28 P28 R' => ⟨fun _ => Kept.put KK P28 (fun _ hk => (by cases hk)), ?_⟩
          replace KK := Kept.put KK P28 (fun _ hk => (by cases hk))
          have M28 : Mod rq w27 w28 := P28.toMod
          have W28 : Grow w w28 := W27.mod M28 g_rq
          replace B2 := B2.mod M28 (.inr rfl) n_b2_rq
          replace B3 := B3.mod M28 (.inr rfl) n_b3_rq
          replace B4 := B4.mod M28 (.inr rfl) n_b4_rq
          replace B5 := B5.mod M28 (.inr rfl) n_b5_rq
          replace B11 := B11.mod M28 (.inr rfl) n_b11_rq
          replace B13 := B13.mod M28 (.inr rfl) n_b13_rq
          replace Ru := Ru.mod M28 n_ru_rq
          replace Rq := R'; clear R'
          refine nx ?_
          refine rg (fun c d v a w h => NL c d v a w h) [(133, .eq (.slice (some ⟨ru, 0, none⟩) (nw x + 1) (cu))), (134, .eq (.int .i64 (((j : Nat) : Int) - 1))), (135, .eq (.int .i64 (((j : Nat) : Int) - 1))), (136, .eq (.int .i64 (((nw (y * 2 ^ s) : Nat) : Int)))), (137, .eq (.int .i64 ((((j : Nat) : Int) - 1) + (((nw (y * 2 ^ s) : Nat) : Int))))), (138, .eq (.int .i64 (((((j : Nat) : Int) - 1) + (((nw (y * 2 ^ s) : Nat) : Int))) + 1))), (139, .eq (.slice (some ⟨ru, (j - 1), none⟩) (nw (y * 2 ^ s) + 1) (cu - (j - 1)))), (140, .natF (fun k => k = ru ∨ k = rq) (y * 2 ^ s))] [] [] [] 148 8 ?_ ?_
          · refine so [] (fun w29 hw29 => .fin (yld_move rfl ⟨Grow.refl _, rfl⟩)) ?_
            refine so [] (fun w29 hw29 => .fin (yld_move rfl ⟨Grow.refl _, rfl⟩)) ?_
            refine so [] (fun w29 hw29 => .fin (yld_move rfl ⟨Grow.refl _, rfl⟩)) ?_
            refine so [] (fun w29 hw29 => .fin (yld_move rfl ⟨Grow.refl _, rfl⟩)) ?_
            refine so [2, 3] (fun w29 hw29 => by rintro _ rfl _ rfl; exact .fin (yld_add rfl rfl rfl (r := (((j : Nat) : Int) - 1) + (((nw (y * 2 ^ s) : Nat) : Int))) (by rw [IntKind.wrap_i64]; omega) ⟨Grow.refl _, rfl⟩)) ?_
            refine so [4] (fun w29 hw29 => by rintro _ rfl; exact .fin (yld_add rfl rfl rfl (r := ((((j : Nat) : Int) - 1) + (((nw (y * 2 ^ s) : Nat) : Int))) + 1) (by rw [IntKind.wrap_i64]; omega) ⟨Grow.refl _, rfl⟩)) ?_
            refine so [0, 1, 5] (fun w29 hw29 => by rintro _ rfl _ rfl _ rfl; exact .fin (yld_sliceE (l := j - 1) (r := j - 1 + nw (y * 2 ^ s) + 1) (j := (j - 1)) (m := nw (y * 2 ^ s) + 1) rfl rfl rfl rfl (by omega) (by omega) (by omega) (by omega) (by omega) (by omega))) ?_
            exact so [] (fun w29 hw29 => .fin (yld_loadBox rfl rfl aggNat (B11.grow hw29) (shNatF))) (.nil _ _)
          rintro w29 hw29 v133 - v134 - v135 - v136 - v137 - v138 - _ rfl v140 h140 -
          have W29 : Grow w w29 := W28.trans hw29
          replace B2 := B2.grow hw29
          replace B3 := B3.grow hw29
          replace B4 := B4.grow hw29
          replace B5 := B5.grow hw29
          replace B11 := B11.grow hw29
          replace B13 := B13.grow hw29
          replace Ru := Ru.below hw29
          replace Rq := Rq.below hw29
          have KK : Kept [] w29 w29 := fun _ _ => rfl
          refine fr ((va :: vb :: pt b2 :: pt b3 :: pt b4 :: pt b5 :: .bool (false) :: u :: u :: u :: It s :: pt b11 :: .bool (true) :: pt b13 :: .bool (true) :: .slice (some ⟨ru, 0, none⟩) (nw x + 1) (cu) :: It (nw (y * 2 ^ s)) :: .slice (some ⟨rq, 0, none⟩) (nw x - nw (y * 2 ^ s) + 1) (cq) :: .int .i64 (((j : Nat) : Int) - 1) :: v19 :: v20 :: .bool (decide ((((nw y : Nat) : Int) : Int) ≤ (1 : Int))) :: u :: u :: u :: u :: u :: u :: u :: u :: u :: u :: u :: u :: u :: v35 :: v36 :: v37 :: .bool (decide ((cmpV ((x : Nat)) ((y : Nat)) : Int) < (0 : Int))) :: u :: u :: v41 :: v42 :: v43 :: v44 :: v45 :: v46 :: v47 :: v48 :: v49 :: v50 :: v51 :: .bool (true) :: v53 :: v54 :: v55 :: v56 :: v57 :: .bool (true) :: v59 :: v60 :: v61 :: v62 :: v63 :: v64 :: v65 :: v66 :: v67 :: v68 :: v69 :: v70 :: v71 :: v72 :: v73 :: v74 :: v75 :: v76 :: v77 :: v78 :: .bool (decide ((((j : Nat) : Int) - 1 : Int) ≥ (0 : Int))) :: (tt21 80) :: (tt21 81) :: v82 :: v83 :: v84 :: v85 :: v86 :: v87 :: v88 :: v89 :: v90 :: v91 :: v92 :: v93 :: v94 :: v95 :: v96 :: v97 :: v98 :: v99 :: v100 :: v101 :: v102 :: v103 :: v104 :: v105 :: v106 :: v107 :: v108 :: v109 :: v110 :: v111 :: Ut (dq fu (y * 2 ^ s) (j - 1) (nw (y * 2 ^ s))) :: .pointer (some ⟨rq, (j - 1), none⟩) :: v114 :: v115 :: v116 :: v117 :: v118 :: v119 :: .slice (some ⟨ru, (j - 1), none⟩) (nw (y * 2 ^ s) + 1) (cu - (j - 1)) :: v121 :: v122 :: v123 :: v124 :: Ut (dq fu (y * 2 ^ s) (j - 1) (nw (y * 2 ^ s))) :: .bool (decide (bT = 1)) :: v127 :: v128 :: v129 :: v130 :: Ut (dq fu (y * 2 ^ s) (j - 1) (nw (y * 2 ^ s)) - 1) :: .pointer (some ⟨rq, (j - 1), none⟩) :: v133 :: v134 :: v135 :: v136 :: v137 :: v138 :: .slice (some ⟨ru, (j - 1), none⟩) (nw (y * 2 ^ s) + 1) (cu - (j - 1)) :: v140 :: (tt21 141) :: []) ++ us 6) ?_
          change wpListS _ _ _ _ [_] ⟨_, []⟩ _
          refine wpListS_yld rfl ?_
          refine yld_call rfl cal_quot_back rfl ((cBack (N := nw x + 1) Ru (NatAt.sub h140 fun k hk => .inl hk) hkN hcu (by omega) hT9.1).mono ?_)
          rintro _ w30 ⟨vB, fB, rfl, M30, R', cB, hBk⟩
          refine ⟨_, rfl, fun h => absurd rfl h, ?_⟩
          have W30 : Grow w w30 := W29.mod M30 g_ru
          replace B2 := B2.mod M30 (.inl rfl) n_b2_ru
          replace B3 := B3.mod M30 (.inl rfl) n_b3_ru
          replace B4 := B4.mod M30 (.inl rfl) n_b4_ru
          replace B5 := B5.mod M30 (.inl rfl) n_b5_ru
          replace B11 := B11.mod M30 (.inl rfl) n_b11_ru
          replace B13 := B13.mod M30 (.inl rfl) n_b13_ru
          replace Rq := Rq.mod M30 (Ne.symm n_ru_rq)
          replace Ru := R'; clear R'
          refine wpListS_nil ?_
          change Code.wp _ _ _ ⟨List.toArray (List.set _ 141 _), []⟩ _
          refine rg (fun c d v a w h => NL c d v a w h) [(80, .eq (.int .i64 (((j : Nat) : Int) - 1))), (81, .eq (.int .i64 (((j - 1 : Nat) : Int) - 1)))] [] [] [] 148 2 ?_ ?_
          · refine so [] (fun w31 hw31 => .fin (yld_move rfl ⟨Grow.refl _, rfl⟩)) ?_
            exact so [0] (fun w31 hw31 => by rintro _ rfl; exact .fin (yld_sub rfl rfl rfl (r := ((j - 1 : Nat) : Int) - 1) (by rw [IntKind.wrap_i64]; omega) ⟨Grow.refl _, rfl⟩)) (.nil _ _)
          rintro w31 hw31 v80 - _ rfl -
          have W31 : Grow w w31 := W30.trans hw31
          replace B2 := B2.grow hw31
          replace B3 := B3.grow hw31
          replace B4 := B4.grow hw31
          replace B5 := B5.grow hw31
          replace B11 := B11.grow hw31
          replace B13 := B13.grow hw31
          replace Ru := Ru.below hw31
          replace Rq := Rq.below hw31
          have KK : Kept [] w31 w31 := fun _ _ => rfl
          refine fr ((va :: vb :: pt b2 :: pt b3 :: pt b4 :: pt b5 :: .bool (false) :: u :: u :: u :: It s :: pt b11 :: .bool (true) :: pt b13 :: .bool (true) :: .slice (some ⟨ru, 0, none⟩) (nw x + 1) (cu) :: It (nw (y * 2 ^ s)) :: .slice (some ⟨rq, 0, none⟩) (nw x - nw (y * 2 ^ s) + 1) (cq) :: .int .i64 (((j : Nat) : Int) - 1) :: v19 :: v20 :: .bool (decide ((((nw y : Nat) : Int) : Int) ≤ (1 : Int))) :: u :: u :: u :: u :: u :: u :: u :: u :: u :: u :: u :: u :: u :: v35 :: v36 :: v37 :: .bool (decide ((cmpV ((x : Nat)) ((y : Nat)) : Int) < (0 : Int))) :: u :: u :: v41 :: v42 :: v43 :: v44 :: v45 :: v46 :: v47 :: v48 :: v49 :: v50 :: v51 :: .bool (true) :: v53 :: v54 :: v55 :: v56 :: v57 :: .bool (true) :: v59 :: v60 :: v61 :: v62 :: v63 :: v64 :: v65 :: v66 :: v67 :: v68 :: v69 :: v70 :: v71 :: v72 :: v73 :: v74 :: v75 :: v76 :: v77 :: v78 :: .bool (decide ((((j : Nat) : Int) - 1 : Int) ≥ (0 : Int))) :: v80 :: .int .i64 (((j - 1 : Nat) : Int) - 1) :: v82 :: v83 :: v84 :: v85 :: v86 :: v87 :: v88 :: v89 :: v90 :: v91 :: v92 :: v93 :: v94 :: v95 :: v96 :: v97 :: v98 :: v99 :: v100 :: v101 :: v102 :: v103 :: v104 :: v105 :: v106 :: v107 :: v108 :: v109 :: v110 :: v111 :: Ut (dq fu (y * 2 ^ s) (j - 1) (nw (y * 2 ^ s))) :: .pointer (some ⟨rq, (j - 1), none⟩) :: v114 :: v115 :: v116 :: v117 :: v118 :: v119 :: .slice (some ⟨ru, (j - 1), none⟩) (nw (y * 2 ^ s) + 1) (cu - (j - 1)) :: v121 :: v122 :: v123 :: v124 :: Ut (dq fu (y * 2 ^ s) (j - 1) (nw (y * 2 ^ s))) :: .bool (decide (bT = 1)) :: v127 :: v128 :: v129 :: v130 :: Ut (dq fu (y * 2 ^ s) (j - 1) (nw (y * 2 ^ s)) - 1) :: .pointer (some ⟨rq, (j - 1), none⟩) :: v133 :: v134 :: v135 :: v136 :: v137 :: v138 :: .slice (some ⟨ru, (j - 1), none⟩) (nw (y * 2 ^ s) + 1) (cu - (j - 1)) :: v140 :: vB :: []) ++ us 6) ?_
          change wpListS _ _ _ _ [_] ⟨_, []⟩ _
          refine wpListS_yld rfl ?_
          refine yld_assign rfl ⟨fun _ => KK, ?_⟩
          refine wpListS_nil ?_
          refine ⟨_, ?_, j - 1, fB, upd (upd (fq) ((j - 1)) (dq fu (y * 2 ^ s) (j - 1) (nw (y * 2 ^ s)))) ((j - 1)) (dq fu (y * 2 ^ s) (j - 1) (nw (y * 2 ^ s)) - 1), rfl, by first | exact ⟨by omega, d_back rfl h2V hkN hD1 hT1 hBk hkQ⟩ | exact ⟨by omega, d_fit rfl h2V hkN hD1 hT9 hb0 hkQ⟩, fun d => ((.int .i64 (((j - 1 : Nat) : Int) - 1) :: v19 :: v20 :: .bool (decide ((((nw y : Nat) : Int) : Int) ≤ (1 : Int))) :: u :: u :: u :: u :: u :: u :: u :: u :: u :: u :: u :: u :: u :: v35 :: v36 :: v37 :: .bool (decide ((cmpV ((x : Nat)) ((y : Nat)) : Int) < (0 : Int))) :: u :: u :: v41 :: v42 :: v43 :: v44 :: v45 :: v46 :: v47 :: v48 :: v49 :: v50 :: v51 :: .bool (true) :: v53 :: v54 :: v55 :: v56 :: v57 :: .bool (true) :: v59 :: v60 :: v61 :: v62 :: v63 :: v64 :: v65 :: v66 :: v67 :: v68 :: v69 :: v70 :: v71 :: v72 :: v73 :: v74 :: v75 :: v76 :: v77 :: v78 :: .bool (decide ((((j : Nat) : Int) - 1 : Int) ≥ (0 : Int))) :: v80 :: .int .i64 (((j - 1 : Nat) : Int) - 1) :: v82 :: v83 :: v84 :: v85 :: v86 :: v87 :: v88 :: v89 :: v90 :: v91 :: v92 :: v93 :: v94 :: v95 :: v96 :: v97 :: v98 :: v99 :: v100 :: v101 :: v102 :: v103 :: v104 :: v105 :: v106 :: v107 :: v108 :: v109 :: v110 :: v111 :: Ut (dq fu (y * 2 ^ s) (j - 1) (nw (y * 2 ^ s))) :: .pointer (some ⟨rq, (j - 1), none⟩) :: v114 :: v115 :: v116 :: v117 :: v118 :: v119 :: .slice (some ⟨ru, (j - 1), none⟩) (nw (y * 2 ^ s) + 1) (cu - (j - 1)) :: v121 :: v122 :: v123 :: v124 :: Ut (dq fu (y * 2 ^ s) (j - 1) (nw (y * 2 ^ s))) :: .bool (decide (bT = 1)) :: v127 :: v128 :: v129 :: v130 :: Ut (dq fu (y * 2 ^ s) (j - 1) (nw (y * 2 ^ s)) - 1) :: .pointer (some ⟨rq, (j - 1), none⟩) :: v133 :: v134 :: v135 :: v136 :: v137 :: v138 :: .slice (some ⟨ru, (j - 1), none⟩) (nw (y * 2 ^ s) + 1) (cu - (j - 1)) :: v140 :: vB :: []) : List Value).getD (d - 18) undef, by kernel_rfl, W31, B2, B3, B4, B5, B11, B13, Ru, Rq⟩
          rw [hnn21]; omega
        · have hb0 : bT ≠ 1 := of_decide_eq_false hb
          refine wp_skip ?_
          change Code.wp _ _ _ ⟨_, []⟩ _
          refine rg (fun c d v a w h => NL c d v a w h) [(80, .eq (.int .i64 (((j : Nat) : Int) - 1))), (81, .eq (.int .i64 (((j - 1 : Nat) : Int) - 1)))] [] [] [] 148 2 ?_ ?_
          · refine so [] (fun w32 hw32 => .fin (yld_move rfl ⟨Grow.refl _, rfl⟩)) ?_
            exact so [0] (fun w32 hw32 => by rintro _ rfl; exact .fin (yld_sub rfl rfl rfl (r := ((j - 1 : Nat) : Int) - 1) (by rw [IntKind.wrap_i64]; omega) ⟨Grow.refl _, rfl⟩)) (.nil _ _)
          rintro w32 hw32 v80 - _ rfl -
          have W32 : Grow w w32 := W26.trans hw32
          replace B2 := B2.grow hw32
          replace B3 := B3.grow hw32
          replace B4 := B4.grow hw32
          replace B5 := B5.grow hw32
          replace B11 := B11.grow hw32
          replace B13 := B13.grow hw32
          replace Ru := Ru.below hw32
          replace Rq := Rq.below hw32
          have KK : Kept [] w32 w32 := fun _ _ => rfl
          refine fr ((va :: vb :: pt b2 :: pt b3 :: pt b4 :: pt b5 :: .bool (false) :: u :: u :: u :: It s :: pt b11 :: .bool (true) :: pt b13 :: .bool (true) :: .slice (some ⟨ru, 0, none⟩) (nw x + 1) (cu) :: It (nw (y * 2 ^ s)) :: .slice (some ⟨rq, 0, none⟩) (nw x - nw (y * 2 ^ s) + 1) (cq) :: .int .i64 (((j : Nat) : Int) - 1) :: v19 :: v20 :: .bool (decide ((((nw y : Nat) : Int) : Int) ≤ (1 : Int))) :: u :: u :: u :: u :: u :: u :: u :: u :: u :: u :: u :: u :: u :: v35 :: v36 :: v37 :: .bool (decide ((cmpV ((x : Nat)) ((y : Nat)) : Int) < (0 : Int))) :: u :: u :: v41 :: v42 :: v43 :: v44 :: v45 :: v46 :: v47 :: v48 :: v49 :: v50 :: v51 :: .bool (true) :: v53 :: v54 :: v55 :: v56 :: v57 :: .bool (true) :: v59 :: v60 :: v61 :: v62 :: v63 :: v64 :: v65 :: v66 :: v67 :: v68 :: v69 :: v70 :: v71 :: v72 :: v73 :: v74 :: v75 :: v76 :: v77 :: v78 :: .bool (decide ((((j : Nat) : Int) - 1 : Int) ≥ (0 : Int))) :: v80 :: .int .i64 (((j - 1 : Nat) : Int) - 1) :: v82 :: v83 :: v84 :: v85 :: v86 :: v87 :: v88 :: v89 :: v90 :: v91 :: v92 :: v93 :: v94 :: v95 :: v96 :: v97 :: v98 :: v99 :: v100 :: v101 :: v102 :: v103 :: v104 :: v105 :: v106 :: v107 :: v108 :: v109 :: v110 :: v111 :: Ut (dq fu (y * 2 ^ s) (j - 1) (nw (y * 2 ^ s))) :: .pointer (some ⟨rq, (j - 1), none⟩) :: v114 :: v115 :: v116 :: v117 :: v118 :: v119 :: .slice (some ⟨ru, (j - 1), none⟩) (nw (y * 2 ^ s) + 1) (cu - (j - 1)) :: v121 :: v122 :: v123 :: v124 :: Ut (dq fu (y * 2 ^ s) (j - 1) (nw (y * 2 ^ s))) :: .bool (decide (bT = 1)) :: (tt21 127) :: (tt21 128) :: (tt21 129) :: (tt21 130) :: (tt21 131) :: (tt21 132) :: (tt21 133) :: (tt21 134) :: (tt21 135) :: (tt21 136) :: (tt21 137) :: (tt21 138) :: (tt21 139) :: (tt21 140) :: (tt21 141) :: []) ++ us 6) ?_
          change wpListS _ _ _ _ [_] ⟨_, []⟩ _
          refine wpListS_yld rfl ?_
          refine yld_assign rfl ⟨fun _ => KK, ?_⟩
          refine wpListS_nil ?_
          refine ⟨_, ?_, j - 1, fT, upd (fq) ((j - 1)) (dq fu (y * 2 ^ s) (j - 1) (nw (y * 2 ^ s))), rfl, by first | exact ⟨by omega, d_back rfl h2V hkN hD1 hT1 hBk hkQ⟩ | exact ⟨by omega, d_fit rfl h2V hkN hD1 hT9 hb0 hkQ⟩, fun d => ((.int .i64 (((j - 1 : Nat) : Int) - 1) :: v19 :: v20 :: .bool (decide ((((nw y : Nat) : Int) : Int) ≤ (1 : Int))) :: u :: u :: u :: u :: u :: u :: u :: u :: u :: u :: u :: u :: u :: v35 :: v36 :: v37 :: .bool (decide ((cmpV ((x : Nat)) ((y : Nat)) : Int) < (0 : Int))) :: u :: u :: v41 :: v42 :: v43 :: v44 :: v45 :: v46 :: v47 :: v48 :: v49 :: v50 :: v51 :: .bool (true) :: v53 :: v54 :: v55 :: v56 :: v57 :: .bool (true) :: v59 :: v60 :: v61 :: v62 :: v63 :: v64 :: v65 :: v66 :: v67 :: v68 :: v69 :: v70 :: v71 :: v72 :: v73 :: v74 :: v75 :: v76 :: v77 :: v78 :: .bool (decide ((((j : Nat) : Int) - 1 : Int) ≥ (0 : Int))) :: v80 :: .int .i64 (((j - 1 : Nat) : Int) - 1) :: v82 :: v83 :: v84 :: v85 :: v86 :: v87 :: v88 :: v89 :: v90 :: v91 :: v92 :: v93 :: v94 :: v95 :: v96 :: v97 :: v98 :: v99 :: v100 :: v101 :: v102 :: v103 :: v104 :: v105 :: v106 :: v107 :: v108 :: v109 :: v110 :: v111 :: Ut (dq fu (y * 2 ^ s) (j - 1) (nw (y * 2 ^ s))) :: .pointer (some ⟨rq, (j - 1), none⟩) :: v114 :: v115 :: v116 :: v117 :: v118 :: v119 :: .slice (some ⟨ru, (j - 1), none⟩) (nw (y * 2 ^ s) + 1) (cu - (j - 1)) :: v121 :: v122 :: v123 :: v124 :: Ut (dq fu (y * 2 ^ s) (j - 1) (nw (y * 2 ^ s))) :: .bool (decide (bT = 1)) :: (tt21 127) :: (tt21 128) :: (tt21 129) :: (tt21 130) :: (tt21 131) :: (tt21 132) :: (tt21 133) :: (tt21 134) :: (tt21 135) :: (tt21 136) :: (tt21 137) :: (tt21 138) :: (tt21 139) :: (tt21 140) :: (tt21 141) :: []) : List Value).getD (d - 18) undef, by kernel_rfl, W32, B2, B3, B4, B5, B11, B13, Ru, Rq⟩
          rw [hnn21]; omega
      · have hj0 : j = 0 := by have := of_decide_eq_false hge; omega
        rw [hj0] at hD
        refine wp_exit ?_
        change Code.wp _ _ _ ⟨_, []⟩ _
        refine wp_seq ?_
        refine rg (fun c d v a w h => NL c d v a w h) [(142, .eq (.slice (some ⟨rq, 0, none⟩) (nw x - nw (y * 2 ^ s) + 1) (cq))), (143, .nat (val fq (nw x - nw (y * 2 ^ s) + 1))), (144, .eq (.slice (some ⟨ru, 0, none⟩) (nw x + 1) (cu))), (145, .nat (val fu (nw x + 1))), (146, .eq (.int .i64 (((s : Nat) : Int)))), (147, .nat ((val fu (nw x + 1)) / 2 ^ s))] [] [] [] 148 6 ?_ ?_
        · refine so [] (fun w33 hw33 => .fin (yld_move rfl ⟨Grow.refl _, rfl⟩)) ?_
          refine so [0] (fun w33 hw33 => by rintro _ rfl; exact .fin (yld_call rfl cal_nat_Of rfl (cNatOfU (uns_row (Rq.below hw33) hcq hcmq) hD.2.1 (by omega)))) ?_
          refine so [] (fun w33 hw33 => .fin (yld_move rfl ⟨Grow.refl _, rfl⟩)) ?_
          refine so [2] (fun w33 hw33 => by rintro _ rfl; exact .fin (yld_call rfl cal_nat_Of rfl (cNatOfU (uns_row (Ru.below hw33) hcu hcmu) hD.1 (by omega)))) ?_
          refine so [] (fun w33 hw33 => .fin (yld_move rfl ⟨Grow.refl _, rfl⟩)) ?_
          exact so [3, 4] (fun w33 hw33 => by rintro v145 h145 _ rfl; exact .fin (yld_call rfl cal_nat_Nat_Shr rfl (cShr (k := s) h145 hs64))) (.nil _ _)
        rintro w33 hw33 v142 - v143 h143 v144 - v145 - v146 - v147 h147 -
        have W33 : Grow w w33 := W22.trans hw33
        replace B4 := B4.grow hw33
        replace B5 := B5.grow hw33
        replace Ru := Ru.below hw33
        replace Rq := Rq.below hw33
        have KK : Kept [] w33 w33 := fun _ _ => rfl
        refine fr (va :: vb :: pt b2 :: pt b3 :: pt b4 :: pt b5 :: .bool (false) :: u :: u :: u :: It s :: pt b11 :: .bool (true) :: pt b13 :: .bool (true) :: .slice (some ⟨ru, 0, none⟩) (nw x + 1) (cu) :: It (nw (y * 2 ^ s)) :: .slice (some ⟨rq, 0, none⟩) (nw x - nw (y * 2 ^ s) + 1) (cq) :: .int .i64 (((j : Nat) : Int) - 1) :: v19 :: v20 :: .bool (decide ((((nw y : Nat) : Int) : Int) ≤ (1 : Int))) :: u :: u :: u :: u :: u :: u :: u :: u :: u :: u :: u :: u :: u :: v35 :: v36 :: v37 :: .bool (decide ((cmpV ((x : Nat)) ((y : Nat)) : Int) < (0 : Int))) :: u :: u :: v41 :: v42 :: v43 :: v44 :: v45 :: v46 :: v47 :: v48 :: v49 :: v50 :: v51 :: .bool (true) :: v53 :: v54 :: v55 :: v56 :: v57 :: .bool (true) :: v59 :: v60 :: v61 :: v62 :: v63 :: v64 :: v65 :: v66 :: v67 :: v68 :: v69 :: v70 :: v71 :: v72 :: v73 :: v74 :: v75 :: v76 :: v77 :: v78 :: .bool (decide ((((j : Nat) : Int) - 1 : Int) ≥ (0 : Int))) :: (tt21 80) :: (tt21 81) :: (tt21 82) :: (tt21 83) :: (tt21 84) :: (tt21 85) :: (tt21 86) :: (tt21 87) :: (tt21 88) :: (tt21 89) :: (tt21 90) :: (tt21 91) :: (tt21 92) :: (tt21 93) :: (tt21 94) :: (tt21 95) :: (tt21 96) :: (tt21 97) :: (tt21 98) :: (tt21 99) :: (tt21 100) :: (tt21 101) :: (tt21 102) :: (tt21 103) :: (tt21 104) :: (tt21 105) :: (tt21 106) :: (tt21 107) :: (tt21 108) :: (tt21 109) :: (tt21 110) :: (tt21 111) :: (tt21 112) :: (tt21 113) :: (tt21 114) :: (tt21 115) :: (tt21 116) :: (tt21 117) :: (tt21 118) :: (tt21 119) :: (tt21 120) :: (tt21 121) :: (tt21 122) :: (tt21 123) :: (tt21 124) :: (tt21 125) :: (tt21 126) :: (tt21 127) :: (tt21 128) :: (tt21 129) :: (tt21 130) :: (tt21 131) :: (tt21 132) :: (tt21 133) :: (tt21 134) :: (tt21 135) :: (tt21 136) :: (tt21 137) :: (tt21 138) :: (tt21 139) :: (tt21 140) :: (tt21 141) :: v142 :: v143 :: v144 :: v145 :: v146 :: v147 :: []) ?_
        change wpListS _ _ _ _ [_, _, _] ⟨_, []⟩ _
        refine wpListS_yld rfl ?_
        refine yld_storeBox (R' := .nat (val fq (nw x - nw (y * 2 ^ s) + 1))) (b := b4) rfl rfl aggNat.size B4 (shNatF) h143 (shNat _) (St.nat _) (by decide) g_b4 fun w34 P34 E34 B' => ⟨fun _ => Kept.put KK P34 (fun _ hk => (by cases hk)), ?_⟩
        replace KK := Kept.put KK P34 (fun _ hk => (by cases hk))
        have W34 : Grow w w34 := W33.put P34 g_b4
        replace B5 := B5.put (St.natF) P34 E34 (Ne.symm n_b4_b5)
        replace B4 := B'; clear B'
        replace h147 := MR.put h147 (St.nat _) E34
        change wpListS _ _ _ _ [_, _] ⟨_, []⟩ _
        refine wpListS_yld rfl ?_
        refine yld_storeBox (R' := .nat ((val fu (nw x + 1)) / 2 ^ s)) (b := b5) rfl rfl aggNat.size B5 (shNatF) h147 (shNat _) (St.nat _) (by decide) g_b5 fun w35 P35 E35 B' => ⟨fun _ => Kept.put KK P35 (fun _ hk => (by cases hk)), ?_⟩
        replace KK := Kept.put KK P35 (fun _ hk => (by cases hk))
        have W35 : Grow w w35 := W34.put P35 g_b5
        replace B4 := B4.put (St.nat _) P35 E35 n_b4_b5
        replace B5 := B'; clear B'
        change wpListS _ _ _ _ [_] ⟨_, []⟩ _
        refine wpListS_yld rfl ?_
        refine yld_assign rfl ⟨fun _ => KK, ?_⟩
        refine wpListS_nil ?_
        change Code.wp _ _ _ ⟨List.toArray (List.set _ 6 _), []⟩ _
        have BR : Box w35 b4 31 (.nat (x / y)) := (by have e : (val fq (nw x - nw (y * 2 ^ s) + 1) : Nat) = x / y := (by first | (rw [ey]; done) | exact (Nat.div_eq_of_lt hxy).symm | (rw [if_neg hy0, Nat.mod_eq_of_lt hxy]; done) | exact (d_end hD).1 | (rw [if_neg hy0]; exact (d_end hD).2) | (simp [hy0]; done)); rw [← e]; exact B4)
        have BR2 : Box w35 b5 31 (.nat (if y = 0 then 0 else x % y)) := (by have e : ((val fu (nw x + 1)) / 2 ^ s : Nat) = if y = 0 then 0 else x % y := (by first | (rw [ey]; done) | exact (Nat.div_eq_of_lt hxy).symm | (rw [if_neg hy0, Nat.mod_eq_of_lt hxy]; done) | exact (d_end hD).1 | (rw [if_neg hy0]; exact (d_end hD).2) | (simp [hy0]; done)); rw [← e]; exact B5)
        refine wp_ret ?_
        change bodyPost Try.prog Try.f105 (Ret (.tup3 (.nat (x / y)) (.nat (if y = 0 then 0 else x % y)) (.eq (.bool (!decide (y = 0))))) w) .ret _ _
        exact body_cell2_slot (b := b4) (b' := b5) rfl rfl aggNat BR (shNat _) rfl aggNat BR2 (shNat _) (by show Value.bool _ = Value.bool _; rw [show (true) = (!decide (y = 0)) from (by first | (rw [ey]; done) | exact (Nat.div_eq_of_lt hxy).symm | (rw [if_neg hy0, Nat.mod_eq_of_lt hxy]; done) | exact (d_end hD).1 | (rw [if_neg hy0]; exact (d_end hD).2) | (simp [hy0]; done))]) rfl W35
end Go.Proofs.Ytngghjhmfpmilaa
