/- gcd.Of. -/
import Derived.Test.YtngghjhmfpmilaaQuotB
import Derived.Deep.LoopGhost
namespace Go.Proofs.Ytngghjhmfpmilaa
open Go.RowKit
theorem gcd_step {a b g : Nat} (hb : b ≠ 0) (h : Nat.gcd a b = g) : Nat.gcd b (if b = 0 then 0 else a % b) = g := by
  rw [if_neg hb, ← h, Nat.gcd_comm a b, Nat.gcd_rec b a, Nat.gcd_comm]
theorem gcd_small {a b : Nat} (hb : b ≠ 0) (h : nw b < 1099511627776) : nw (if b = 0 then 0 else a % b) < 1099511627776 := by
  rw [if_neg hb]
  exact Nat.lt_of_le_of_lt (nw_mono' (Nat.le_of_lt (Nat.mod_lt a (by omega)))) h
theorem gcd_less {a b : Nat} (hb : b ≠ 0) : (if b = 0 then 0 else a % b) < b := by
  rw [if_neg hb]; exact Nat.mod_lt _ (by omega)
theorem cal_quot_Mod : Callable Try.prog 104 := callable_of Try.func104 rfl (by kernel_rfl)
set_option maxRecDepth 100000 in
set_option maxHeartbeats 2000000 in
theorem cGcdOf {x y : Nat} {va : Value} {vb : Value} {w : World}  (ha : (MR.nat (x)).R w va) (hb : (MR.nat (y)).R w vb) (hsx : nw x < 1099511627776) (hsy : nw y < 1099511627776) : Calls Try.prog 95 #[va, vb] w (Ret (.nat (Nat.gcd x y)) w) := by
  refine calls_enter (a := ⟨List.toArray ([va, vb] ++ us 17), []⟩) Try.func95 rfl (by kernel_rfl) ?_
  have NL : NoLook (bodyPost Try.prog Try.f95 (Ret (.nat (Nat.gcd x y)) w)) := noLook_body
  refine wp_seq ?_
  refine rg (fun c d v a w h => NL c d v a w h) [(2, .ptr 31 (.nat (x))), (3, .ptr 31 (.nat (y))), (4, .ptr 31 (.nat (0)))] [0, 1, 2] [] [] 19 3 ?_ ?_
  · refine sn [] (fun w1 hw1 => .fin (yld_newBox rfl rfl (MR.mono _ hw1 ha))) ?_
    refine sn [] (fun w1 hw1 => .fin (yld_newBox rfl rfl (MR.mono _ hw1 hb))) ?_
    exact sn [] (fun w1 hw1 => .fin (yld_newAlloc rfl zeroNat zNat)) (.nil _ _)
  rintro w1 hw1 _ ⟨b2, rfl, B2⟩ _ ⟨b3, rfl, B3⟩ _ ⟨b4, rfl, B4⟩ hN
  have W1 : Grow w w1 := (Grow.refl w).trans hw1
  have g_b2 : w.heap.size ≤ b2 := Nat.le_trans (Grow.refl w).size hN.1.1
  have n_b2_b3 : b2 ≠ b3 := hN.2.1 1 (by simp)
  have n_b2_b4 : b2 ≠ b4 := hN.2.1 2 (by simp)
  have g_b3 : w.heap.size ≤ b3 := Nat.le_trans (Grow.refl w).size hN.2.2.1.1
  have n_b3_b4 : b3 ≠ b4 := hN.2.2.2.1 2 (by simp)
  have g_b4 : w.heap.size ≤ b4 := Nat.le_trans (Grow.refl w).size hN.2.2.2.2.1.1
  clear hN
  replace ha := MR.mono _ hw1 ha
  replace hb := MR.mono _ hw1 hb
  refine fr ([va, vb, pt b2, pt b3, pt b4] ++ us 14) ?_
  refine nx ?_
  refine wp_seq ?_
  refine wp_block ?_
  refine wp_loop_ghost (fun nn ac2 w2 => ∃ (a : Nat) (b : Nat), nn = b ∧ (Nat.gcd a b = Nat.gcd x y ∧ nw a < 1099511627776 ∧ nw b < 1099511627776) ∧ ∃ tt2 : Nat → Value, ac2 = ⟨List.toArray [va, vb, pt b2, pt b3, pt b4, (tt2 5), (tt2 6), (tt2 7), (tt2 8), (tt2 9), (tt2 10), (tt2 11), (tt2 12), (tt2 13), (tt2 14), (tt2 15), (tt2 16), (tt2 17), u], []⟩ ∧ Grow w w2 ∧ Box w2 b2 31 (.nat (a)) ∧ Box w2 b3 31 (.nat (b)) ∧ Box w2 b4 31 (.nat (0)) ∧ (MR.nat (x)).R w2 va ∧ (MR.nat (y)).R w2 vb) (y) ⟨x, y, rfl, ⟨rfl, hsx, hsy⟩, fun d => ([u, u, u, u, u, u, u, u, u, u, u, u, u] : List Value).getD (d - 5) undef, by kernel_rfl, W1, B2, B3, B4, ha, hb⟩ ?_
  clear B2 B3 B4 ha hb
  rintro nn2 _ w2 ⟨a, b, hnn2, ⟨hinv, hna, hnb⟩, tt2, rfl, W2, B2, B3, B4, ha, hb⟩
  refine wp_seq ?_
  refine wp_seq ?_
  refine rg (fun c d v a w h => NL c d v a w h) [(7, .nat (b)), (8, .eq (.bool (decide (b = 0)))), (9, .eq (.bool (!(decide (b = 0)))))] [] [] [] 19 3 ?_ ?_
  · refine so [] (fun w3 hw3 => .fin (yld_loadBox rfl rfl aggNat (B3.grow hw3) (shNat _))) ?_
    refine so [0] (fun w3 hw3 => by rintro v7 h7; exact .fin (yld_call rfl cal_nat_Nat_Zero rfl (cNatZero h7))) ?_
    exact so [1] (fun w3 hw3 => by rintro _ rfl; exact .fin (yld_not rfl rfl ⟨Grow.refl _, rfl⟩)) (.nil _ _)
  rintro w3 hw3 v7 - v8 - _ rfl -
  have W3 : Grow w w3 := W2.trans hw3
  replace B2 := B2.grow hw3
  replace B3 := B3.grow hw3
  replace B4 := B4.grow hw3
  replace ha := MR.mono _ hw3 ha
  replace hb := MR.mono _ hw3 hb
  refine fr [va, vb, pt b2, pt b3, pt b4, (tt2 5), (tt2 6), v7, v8, .bool (!(decide (b = 0))), (tt2 10), (tt2 11), (tt2 12), (tt2 13), (tt2 14), (tt2 15), (tt2 16), (tt2 17), u] ?_
  refine nx ?_
  refine wp_cond_split (t := !(decide (b = 0))) rfl (fun hc1 => ?_) (fun hc1 => ?_)
  · have hb0 : b ≠ 0 := by simpa using hc1
    refine wp_skip ?_
    change Code.wp _ _ _ ⟨_, []⟩ _
    refine wp_block ?_
    refine wp_seq ?_
    refine rg (fun c d v a w h => NL c d v a w h) [(11, .nat (a)), (12, .nat (b)), (13, .tup2 (.nat (if b = 0 then 0 else a % b)) (.eq (.bool (!decide (b = 0))))), (10, .tup2 (.nat (if b = 0 then 0 else a % b)) (.eq (.bool (!decide (b = 0))))), (14, .nat (if b = 0 then 0 else a % b)), (15, .eq (.bool (!decide (b = 0)))), (5, .ptr 31 (.nat (0)))] [6] [5] [] 19 7 ?_ ?_
    · refine so [] (fun w4 hw4 => .fin (yld_loadBox rfl rfl aggNat (B2.grow hw4) (shNat _))) ?_
      refine so [] (fun w4 hw4 => .fin (yld_loadBox rfl rfl aggNat (B3.grow hw4) (shNat _))) ?_
      refine so [0, 1] (fun w4 hw4 => by rintro v11 h11 v12 h12; exact .fin (yld_call rfl cal_quot_Mod rfl (cQuotMod h11 h12 (by first | assumption | omega)))) ?_
      refine so [2] (fun w4 hw4 => by rintro _ ⟨x13_0, x13_1, rfl, hx13_0, hx13_1⟩; exact .fin (yld_move rfl ⟨Grow.refl _, ⟨x13_0, x13_1, rfl, hx13_0, hx13_1⟩⟩)) ?_
      refine so [3] (fun w4 hw4 => by rintro _ ⟨x10_0, x10_1, rfl, hx10_0, hx10_1⟩; exact .fin (yld_extract rfl rfl rfl ⟨Grow.refl _, hx10_0⟩)) ?_
      refine sl [3] (fun w4 hw4 => by rintro _ ⟨x10_0, x10_1, rfl, hx10_0, hx10_1⟩; exact .fin (⟨_, fun w2 _ => pure_extract rfl rfl rfl w2, hx10_1⟩)) ?_
      exact sn [] (fun w4 hw4 => .fin (yld_newAlloc rfl zeroNat zNat)) (.nil _ _)
    rintro w4 hw4 v11 - v12 - v13 - v10 - v14 h14 _ rfl _ ⟨b5, rfl, B5⟩ hN
    have W4 : Grow w w4 := W3.trans hw4
    have g_b5 : w.heap.size ≤ b5 := Nat.le_trans W3.size hN.1.1
    have n_b2_b5 : b2 ≠ b5 := Nat.ne_of_lt (Nat.lt_of_lt_of_le B2.lt hN.1.1)
    have n_b3_b5 : b3 ≠ b5 := Nat.ne_of_lt (Nat.lt_of_lt_of_le B3.lt hN.1.1)
    have n_b4_b5 : b4 ≠ b5 := Nat.ne_of_lt (Nat.lt_of_lt_of_le B4.lt hN.1.1)
    clear hN
    replace B2 := B2.grow hw4
    replace B3 := B3.grow hw4
    replace B4 := B4.grow hw4
    replace ha := MR.mono _ hw4 ha
    replace hb := MR.mono _ hw4 hb
    have KK : Kept [] w4 w4 := fun _ _ => rfl
    refine fr [va, vb, pt b2, pt b3, pt b4, pt b5, (tt2 6), v7, v8, .bool (!(decide (b = 0))), v10, v11, v12, v13, v14, .bool (!decide (b = 0)), (tt2 16), (tt2 17), u] ?_
    change wpListS _ _ _ _ [_, _] ⟨_, []⟩ _
    refine wpListS_yld rfl ?_
    refine yld_storeBox (R' := .nat (if b = 0 then 0 else a % b)) (b := b5) rfl rfl aggNat.size B5 (shNat _) h14 (shNat _) (St.nat _) (by decide) g_b5 fun w5 P5 E5 B' => ⟨fun _ => Kept.put KK P5 (fun _ hk => (by cases hk)), ?_⟩
    replace KK := Kept.put KK P5 (fun _ hk => (by cases hk))
    have W5 : Grow w w5 := W4.put P5 g_b5
    replace B2 := B2.put (St.nat _) P5 E5 n_b2_b5
    replace B3 := B3.put (St.nat _) P5 E5 n_b3_b5
    replace B4 := B4.put (St.nat _) P5 E5 n_b4_b5
    replace B5 := B'; clear B'
    replace ha := MR.put ha (St.nat _) E5
    replace hb := MR.put hb (St.nat _) E5
    change wpListS _ _ _ _ [_] ⟨_, []⟩ _
    refine wpListS_yld rfl ?_
    refine yld_assign rfl ⟨fun _ => KK, ?_⟩
    refine wpListS_nil ?_
    change Code.wp _ _ _ ⟨List.toArray (List.set _ 6 _), []⟩ _
    refine rg (fun c d v a w h => NL c d v a w h) [(16, .nat (b)), (17, .nat (if b = 0 then 0 else a % b))] [] [1] [b5] 19 2 ?_ ?_
    · refine so [] (fun w6 hw6 => .fin (yld_loadBox rfl rfl aggNat (B3.grow hw6) (shNat _))) ?_
      exact sl [] (fun w6 hw6 => .fin (lazy_loadBox rfl rfl aggNat (B5.grow hw6) (shNat _) (by simp))) (.nil _ _)
    rintro w6 hw6 v16 h16 v17 h17 -
    have W6 : Grow w w6 := W5.trans hw6
    replace B2 := B2.grow hw6
    replace B3 := B3.grow hw6
    replace B4 := B4.grow hw6
    replace ha := MR.mono _ hw6 ha
    replace hb := MR.mono _ hw6 hb
    have KK : Kept [b5] w6 w6 := fun _ _ => rfl
    refine fr [va, vb, pt b2, pt b3, pt b4, pt b5, .bool (!decide (b = 0)), v7, v8, .bool (!(decide (b = 0))), v10, v11, v12, v13, v14, .bool (!decide (b = 0)), v16, v17, u] ?_
    change wpListS _ _ _ _ [_, _] ⟨_, []⟩ _
    refine wpListS_yld rfl ?_
    refine yld_storeBox (R' := .nat (b)) (b := b2) rfl rfl aggNat.size B2 (shNat _) h16 (shNat _) (St.nat _) (by decide) g_b2 fun w7 P7 E7 B' => ⟨fun _ => Kept.put KK P7 (by simp only [List.mem_cons, List.not_mem_nil, or_false, forall_eq]; exact (Ne.symm n_b2_b5)), ?_⟩
    replace KK := Kept.put KK P7 (by simp only [List.mem_cons, List.not_mem_nil, or_false, forall_eq]; exact (Ne.symm n_b2_b5))
    have W7 : Grow w w7 := W6.put P7 g_b2
    replace B3 := B3.put (St.nat _) P7 E7 (Ne.symm n_b2_b3)
    replace B4 := B4.put (St.nat _) P7 E7 (Ne.symm n_b2_b4)
    replace B2 := B'; clear B'
    replace ha := MR.put ha (St.nat _) E7
    replace hb := MR.put hb (St.nat _) E7
    replace h17 := MR.put h17 (St.nat _) E7
    change wpListS _ _ _ _ [_] ⟨_, []⟩ _
    refine wpListS_yld rfl ?_
    refine yld_storeBox (R' := .nat (if b = 0 then 0 else a % b)) (b := b3) rfl rfl aggNat.size B3 (shNat _) h17 (shNat _) (St.nat _) (by decide) g_b3 fun w8 P8 E8 B' => ⟨fun _ => Kept.put KK P8 (by simp only [List.mem_cons, List.not_mem_nil, or_false, forall_eq]; exact (Ne.symm n_b3_b5)), ?_⟩
    replace KK := Kept.put KK P8 (by simp only [List.mem_cons, List.not_mem_nil, or_false, forall_eq]; exact (Ne.symm n_b3_b5))
    have W8 : Grow w w8 := W7.put P8 g_b3
    replace B2 := B2.put (St.nat _) P8 E8 n_b2_b3
    replace B4 := B4.put (St.nat _) P8 E8 (Ne.symm n_b3_b4)
    replace B3 := B'; clear B'
    replace ha := MR.put ha (St.nat _) E8
    replace hb := MR.put hb (St.nat _) E8
    refine wpListS_nil ?_
    refine ⟨_, ?_, b, if b = 0 then 0 else a % b, rfl, ⟨gcd_step hb0 hinv, hnb, gcd_small hb0 hnb⟩, fun d => ([pt b5, .bool (!decide (b = 0)), v7, v8, .bool (!(decide (b = 0))), v10, v11, v12, v13, v14, .bool (!decide (b = 0)), v16, v17] : List Value).getD (d - 5) undef, by kernel_rfl, W8, B2, B3, B4, ha, hb⟩
    rw [hnn2]; exact gcd_less hb0
  · have hb0 : b = 0 := by simpa using hc1
    refine wp_exit ?_
    change Code.wp _ _ _ ⟨_, []⟩ _
    refine wp_seq ?_
    refine rg (fun c d v a w h => NL c d v a w h) [(18, .nat (a))] [] [] [] 19 1 ?_ ?_
    · exact so [] (fun w9 hw9 => .fin (yld_loadBox rfl rfl aggNat (B2.grow hw9) (shNat _))) (.nil _ _)
    rintro w9 hw9 v18 h18 -
    have W9 : Grow w w9 := W3.trans hw9
    replace B4 := B4.grow hw9
    have KK : Kept [] w9 w9 := fun _ _ => rfl
    refine fr [va, vb, pt b2, pt b3, pt b4, (tt2 5), (tt2 6), v7, v8, .bool (!(decide (b = 0))), (tt2 10), (tt2 11), (tt2 12), (tt2 13), (tt2 14), (tt2 15), (tt2 16), (tt2 17), v18] ?_
    change wpListS _ _ _ _ [_] ⟨_, []⟩ _
    refine wpListS_yld rfl ?_
    refine yld_storeBox (R' := .nat (a)) (b := b4) rfl rfl aggNat.size B4 (shNat _) h18 (shNat _) (St.nat _) (by decide) g_b4 fun w10 P10 E10 B' => ⟨fun _ => Kept.put KK P10 (fun _ hk => (by cases hk)), ?_⟩
    have W10 : Grow w w10 := W9.put P10 g_b4
    replace B4 := B'; clear B'
    refine nx ?_
    have BR : Box w10 b4 31 (.nat (Nat.gcd x y)) := (by have e : (a : Nat) = Nat.gcd x y := (by subst hb0; rw [← hinv, Nat.gcd_zero_right]); rw [← e]; exact B4)
    refine wp_ret ?_
    change bodyPost Try.prog Try.f95 (Ret (.nat (Nat.gcd x y)) w) .ret _ _
    exact body_cell (b := b4) rfl rfl aggNat BR (shNat _) rfl W10
end Go.Proofs.Ytngghjhmfpmilaa
