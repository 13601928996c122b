/- gcd.Reduce, gcd.Coprime, integer.Mul, rat.bare. -/
import Derived.Test.YtngghjhmfpmilaaGcd
namespace Go.Proofs.Ytngghjhmfpmilaa
open Go.RowKit
theorem cal_gcd_Of : Callable Try.prog 95 := callable_of Try.func95 rfl (by kernel_rfl)
theorem cal_nat_Nat_Uint : Callable Try.prog 97 := callable_of Try.func97 rfl (by kernel_rfl)
theorem cal_quot_Div : Callable Try.prog 96 := callable_of Try.func96 rfl (by kernel_rfl)
theorem signed_mul (y z : Int) : signed (decide (y < 0) != decide (z < 0)) (y.natAbs * z.natAbs) = y * z := by
  unfold signed
  have h : ((y.natAbs * z.natAbs : Nat) : Int) = y.natAbs * z.natAbs := by simp
  rw [h]
  have nn : -y * -z = y * z := Int.neg_mul_neg y z
  have n1 : -(-y * z) = y * z := by rw [Int.neg_mul, Int.neg_neg]
  have n2 : -(y * -z) = y * z := by rw [Int.mul_neg, Int.neg_neg]
  by_cases hy : y < 0 <;> by_cases hz : z < 0
  · have e1 : (y.natAbs : Int) = -y := by omega
    have e2 : (z.natAbs : Int) = -z := by omega
    rw [e1, e2]; simp [hy, hz, nn]
  · have e1 : (y.natAbs : Int) = -y := by omega
    have e2 : (z.natAbs : Int) = z := by omega
    rw [e1, e2]; simp [hy, hz, n1]
  · have e1 : (y.natAbs : Int) = y := by omega
    have e2 : (z.natAbs : Int) = -z := by omega
    rw [e1, e2]; simp [hy, hz, n2]
  · have e1 : (y.natAbs : Int) = y := by omega
    have e2 : (z.natAbs : Int) = z := by omega
    rw [e1, e2]; simp [hy, hz]
section
variable {o : Oper} {ρ : Operand → Value} {w : World} {x y : Operand}
theorem yld_buildRat1 {z : Int} (h : o.op = .build 35 #[(0, x)]) (hx : (MR.int z).R w (ρ x)) : Yld Try.prog o ρ w (fun v w' => Grow w w' ∧ (MR.rat (z : Rat)).R w' v) := by
  have hx0 : IntAt (fun _ => False) w (ρ x) z := hx
  obtain ⟨b, A, n, c, e⟩ := hx0.form
  rw [e] at hx
  have hr := ratOf (q := (z : Rat)) (cs := #[.bool b, .slice A n c]) (ds := #[.slice none 0 0]) (by rw [Rat.num_intCast]; exact hx) (by rw [denW_int]; exact zNat w)
  exact yld_build (ps := [(0, x)]) (l := [(0, .agg #[.bool b, .slice A n c])]) h (by simp [e]) (cs := #[.bool b, .slice A n c, .slice none 0 0]) (by kernel_rfl) ⟨Grow.refl _, hr⟩
theorem yld_buildRat2 {q : Rat} (h : o.op = .build 35 #[(0, x), (1, y)]) (hx : (MR.int q.num).R w (ρ x)) (hy : (MR.nat (denW q)).R w (ρ y)) : Yld Try.prog o ρ w (fun v w' => Grow w w' ∧ (MR.rat q).R w' v) := by
  have hx0 : IntAt (fun _ => False) w (ρ x) q.num := hx
  have hy0 : NatAt (fun _ => False) w (ρ y) (denW q) := hy
  obtain ⟨b, A, n, c, e⟩ := hx0.form
  obtain ⟨A', n', c', e'⟩ := hy0.form
  rw [e] at hx
  rw [e'] at hy
  have hr := ratOf hx hy
  exact yld_build (ps := [(0, x), (1, y)]) (l := [(0, .agg #[.bool b, .slice A n c]), (1, .agg #[.slice A' n' c'])]) h (by simp [e, e']) (cs := #[.bool b, .slice A n c, .slice A' n' c']) (by kernel_rfl) ⟨Grow.refl _, hr⟩
end
set_option maxRecDepth 100000 in
set_option maxHeartbeats 2000000 in
theorem cGcdReduce {x y : Nat} {va : Value} {vb : Value} {w : World}  (ha : (MR.nat (x)).R w va) (hb : (MR.nat (y)).R w vb) (hsx : nw x < 1099511627776) (hsy : nw y < 1099511627776) : Calls Try.prog 78 #[va, vb] w (Ret (.tup2 (.nat (x / Nat.gcd x y)) (.nat (y / Nat.gcd x y))) w) := by
  have _ := hsy
  have _ := hsx
  refine calls_enter (a := ⟨List.toArray ([va, vb] ++ us 30), []⟩) Try.func78 rfl (by kernel_rfl) ?_
  have NL : NoLook (bodyPost Try.prog Try.f78 (Ret (.tup2 (.nat (x / Nat.gcd x y)) (.nat (y / Nat.gcd x y))) w)) := noLook_body
  refine wp_seq ?_
  refine rg (fun c d v a w h => NL c d v a w h) [(2, .ptr 31 (.nat (x))), (3, .ptr 31 (.nat (y))), (4, .ptr 31 (.nat (0))), (5, .ptr 31 (.nat (0)))] [0, 1, 2, 3] [] [] 32 4 ?_ ?_
  · refine sn [] (fun w1 hw1 => .fin (yld_newBox rfl rfl (MR.mono _ hw1 ha))) ?_
    refine sn [] (fun w1 hw1 => .fin (yld_newBox rfl rfl (MR.mono _ hw1 hb))) ?_
    refine sn [] (fun w1 hw1 => .fin (yld_newAlloc rfl zeroNat zNat)) ?_
    exact sn [] (fun w1 hw1 => .fin (yld_newAlloc rfl zeroNat zNat)) (.nil _ _)
  rintro w1 hw1 _ ⟨b2, rfl, B2⟩ _ ⟨b3, rfl, B3⟩ _ ⟨b4, rfl, B4⟩ _ ⟨b5, rfl, B5⟩ hN
  have W1 : Grow w w1 := (Grow.refl w).trans hw1
  have n_b2_b4 : b2 ≠ b4 := hN.2.1 2 (by simp)
  have n_b2_b5 : b2 ≠ b5 := hN.2.1 3 (by simp)
  have n_b3_b4 : b3 ≠ b4 := hN.2.2.2.1 2 (by simp)
  have n_b3_b5 : b3 ≠ b5 := hN.2.2.2.1 3 (by simp)
  have g_b4 : w.heap.size ≤ b4 := Nat.le_trans (Grow.refl w).size hN.2.2.2.2.1.1
  have n_b4_b5 : b4 ≠ b5 := hN.2.2.2.2.2.1 3 (by simp)
  have g_b5 : w.heap.size ≤ b5 := Nat.le_trans (Grow.refl w).size hN.2.2.2.2.2.2.1.1
  clear hN
  refine fr ([va, vb, pt b2, pt b3, pt b4, pt b5] ++ us 26) ?_
  refine nx ?_
  refine wp_seq ?_
  refine rg (fun c d v a w h => NL c d v a w h) [(11, .nat (x)), (12, .nat (y)), (13, .nat (Nat.gcd x y)), (6, .ptr 31 (.nat (0)))] [3] [] [] 32 4 ?_ ?_
  · refine so [] (fun w2 hw2 => .fin (yld_loadBox rfl rfl aggNat (B2.grow hw2) (shNat _))) ?_
    refine so [] (fun w2 hw2 => .fin (yld_loadBox rfl rfl aggNat (B3.grow hw2) (shNat _))) ?_
    refine so [0, 1] (fun w2 hw2 => by rintro v11 h11 v12 h12; exact .fin (yld_call rfl cal_gcd_Of rfl (cGcdOf h11 h12 (by first | assumption | omega) (by first | assumption | omega)))) ?_
    exact sn [] (fun w2 hw2 => .fin (yld_newAlloc rfl zeroNat zNat)) (.nil _ _)
  rintro w2 hw2 v11 - v12 - v13 h13 _ ⟨b6, rfl, B6⟩ hN
  have W2 : Grow w w2 := W1.trans hw2
  have g_b6 : w.heap.size ≤ b6 := Nat.le_trans W1.size hN.1.1
  have n_b2_b6 : b2 ≠ b6 := Nat.ne_of_lt (Nat.lt_of_lt_of_le B2.lt hN.1.1)
  have n_b3_b6 : b3 ≠ b6 := Nat.ne_of_lt (Nat.lt_of_lt_of_le B3.lt hN.1.1)
  have n_b4_b6 : b4 ≠ b6 := Nat.ne_of_lt (Nat.lt_of_lt_of_le B4.lt hN.1.1)
  have n_b5_b6 : b5 ≠ b6 := Nat.ne_of_lt (Nat.lt_of_lt_of_le B5.lt hN.1.1)
  clear hN
  replace B2 := B2.grow hw2
  replace B3 := B3.grow hw2
  replace B4 := B4.grow hw2
  replace B5 := B5.grow hw2
  have KK : Kept [] w2 w2 := fun _ _ => rfl
  refine fr ([va, vb, pt b2, pt b3, pt b4, pt b5, pt b6, u, u, u, u, v11, v12, v13] ++ us 18) ?_
  change wpListS _ _ _ _ [_] ⟨_, []⟩ _
  refine wpListS_yld rfl ?_
  refine yld_storeBox (R' := .nat (Nat.gcd x y)) (b := b6) rfl rfl aggNat.size B6 (shNat _) h13 (shNat _) (St.nat _) (by decide) g_b6 fun w3 P3 E3 B' => ⟨fun _ => Kept.put KK P3 (fun _ hk => (by cases hk)), ?_⟩
  replace KK := Kept.put KK P3 (fun _ hk => (by cases hk))
  have W3 : Grow w w3 := W2.put P3 g_b6
  replace B2 := B2.put (St.nat _) P3 E3 n_b2_b6
  replace B3 := B3.put (St.nat _) P3 E3 n_b3_b6
  replace B4 := B4.put (St.nat _) P3 E3 n_b4_b6
  replace B5 := B5.put (St.nat _) P3 E3 n_b5_b6
  replace B6 := B'; clear B'
  refine nx ?_
  refine wp_seq ?_
  refine wp_seq ?_
  refine rg (fun c d v a w h => NL c d v a w h) [(14, .nat (Nat.gcd x y)), (15, .eq (.bool (decide ((Nat.gcd x y) = 0))))] [] [] [] 32 2 ?_ ?_
  · refine so [] (fun w4 hw4 => .fin (yld_loadBox rfl rfl aggNat (B6.grow hw4) (shNat _))) ?_
    exact so [0] (fun w4 hw4 => by rintro v14 h14; exact .fin (yld_call rfl cal_nat_Nat_Zero rfl (cNatZero h14))) (.nil _ _)
  rintro w4 hw4 v14 - _ rfl -
  have W4 : Grow w w4 := W3.trans hw4
  replace B2 := B2.grow hw4
  replace B3 := B3.grow hw4
  replace B4 := B4.grow hw4
  replace B5 := B5.grow hw4
  replace B6 := B6.grow hw4
  refine fr ([va, vb, pt b2, pt b3, pt b4, pt b5, pt b6, u, u, u, u, v11, v12, v13, v14, .bool (decide ((Nat.gcd x y) = 0))] ++ us 16) ?_
  refine nx ?_
  refine wp_cond_split (t := decide ((Nat.gcd x y) = 0)) rfl (fun hc1 => ?_) (fun hc1 => ?_)
  · refine wp_seq ?_
    refine rg (fun c d v a w h => NL c d v a w h) [(16, .nat (x)), (17, .nat (y))] [] [1] [b3] 32 2 ?_ ?_
    · refine so [] (fun w5 hw5 => .fin (yld_loadBox rfl rfl aggNat (B2.grow hw5) (shNat _))) ?_
      exact sl [] (fun w5 hw5 => .fin (lazy_loadBox rfl rfl aggNat (B3.grow hw5) (shNat _) (by simp))) (.nil _ _)
    rintro w5 hw5 v16 h16 v17 h17 -
    have W5 : Grow w w5 := W4.trans hw5
    replace B2 := B2.grow hw5
    replace B3 := B3.grow hw5
    replace B4 := B4.grow hw5
    replace B5 := B5.grow hw5
    replace B6 := B6.grow hw5
    have KK : Kept [b3] w5 w5 := fun _ _ => rfl
    refine fr ([va, vb, pt b2, pt b3, pt b4, pt b5, pt b6, u, u, u, u, v11, v12, v13, v14, .bool (decide ((Nat.gcd x y) = 0)), v16, v17] ++ us 14) ?_
    change wpListS _ _ _ _ [_, _] ⟨_, []⟩ _
    refine wpListS_yld rfl ?_
    refine yld_storeBox (R' := .nat (x)) (b := b4) rfl rfl aggNat.size B4 (shNat _) h16 (shNat _) (St.nat _) (by decide) g_b4 fun w6 P6 E6 B' => ⟨fun _ => Kept.put KK P6 (by simp only [List.mem_cons, List.not_mem_nil, or_false, forall_eq]; exact n_b3_b4), ?_⟩
    replace KK := Kept.put KK P6 (by simp only [List.mem_cons, List.not_mem_nil, or_false, forall_eq]; exact n_b3_b4)
    have W6 : Grow w w6 := W5.put P6 g_b4
    replace B2 := B2.put (St.nat _) P6 E6 n_b2_b4
    replace B3 := B3.put (St.nat _) P6 E6 n_b3_b4
    replace B5 := B5.put (St.nat _) P6 E6 (Ne.symm n_b4_b5)
    replace B6 := B6.put (St.nat _) P6 E6 (Ne.symm n_b4_b6)
    replace B4 := B'; clear B'
    replace h17 := MR.put h17 (St.nat _) E6
    change wpListS _ _ _ _ [_] ⟨_, []⟩ _
    refine wpListS_yld rfl ?_
    refine yld_storeBox (R' := .nat (y)) (b := b5) rfl rfl aggNat.size B5 (shNat _) h17 (shNat _) (St.nat _) (by decide) g_b5 fun w7 P7 E7 B' => ⟨fun _ => Kept.put KK P7 (by simp only [List.mem_cons, List.not_mem_nil, or_false, forall_eq]; exact n_b3_b5), ?_⟩
    replace KK := Kept.put KK P7 (by simp only [List.mem_cons, List.not_mem_nil, or_false, forall_eq]; exact n_b3_b5)
    have W7 : Grow w w7 := W6.put P7 g_b5
    replace B2 := B2.put (St.nat _) P7 E7 n_b2_b5
    replace B3 := B3.put (St.nat _) P7 E7 n_b3_b5
    replace B4 := B4.put (St.nat _) P7 E7 n_b4_b5
    replace B6 := B6.put (St.nat _) P7 E7 (Ne.symm n_b5_b6)
    replace B5 := B'; clear B'
    refine nx ?_
    have BR : Box w7 b4 31 (.nat (x / Nat.gcd x y)) := (by have e : (x : Nat) = x / Nat.gcd x y := (by first | rfl | (have h0 : Nat.gcd x y = 0 := of_decide_eq_true hc1; rw [Nat.gcd_eq_zero_iff] at h0; simp [h0.1, h0.2])); rw [← e]; exact B4)
    have BR2 : Box w7 b5 31 (.nat (y / Nat.gcd x y)) := (by have e : (y : Nat) = y / Nat.gcd x y := (by first | rfl | (have h0 : Nat.gcd x y = 0 := of_decide_eq_true hc1; rw [Nat.gcd_eq_zero_iff] at h0; simp [h0.1, h0.2])); rw [← e]; exact B5)
    refine wp_ret ?_
    change bodyPost Try.prog Try.f78 (Ret (.tup2 (.nat (x / Nat.gcd x y)) (.nat (y / Nat.gcd x y))) w) .ret _ _
    exact body_cell2 (b := b4) (b' := b5) rfl rfl aggNat BR (shNat _) rfl aggNat BR2 (shNat _) rfl W7
  · refine wp_skip ?_
    change Code.wp _ _ _ ⟨_, []⟩ _
    refine wp_seq ?_
    refine rg (fun c d v a w h => NL c d v a w h) [(19, .nat (x)), (20, .nat (Nat.gcd x y)), (21, .tup2 (.nat (x / (Nat.gcd x y))) (.eq (.bool (!decide ((Nat.gcd x y) = 0))))), (18, .tup2 (.nat (x / (Nat.gcd x y))) (.eq (.bool (!decide ((Nat.gcd x y) = 0))))), (22, .nat (x / (Nat.gcd x y))), (23, .eq (.bool (!decide ((Nat.gcd x y) = 0)))), (7, .ptr 31 (.nat (0)))] [6] [5] [] 32 7 ?_ ?_
    · refine so [] (fun w8 hw8 => .fin (yld_loadBox rfl rfl aggNat (B2.grow hw8) (shNat _))) ?_
      refine so [] (fun w8 hw8 => .fin (yld_loadBox rfl rfl aggNat (B6.grow hw8) (shNat _))) ?_
      refine so [0, 1] (fun w8 hw8 => by rintro v19 h19 v20 h20; exact .fin (yld_call rfl cal_quot_Div rfl (cQuotDiv h19 h20 (by first | assumption | omega)))) ?_
      refine so [2] (fun w8 hw8 => by rintro _ ⟨x21_0, x21_1, rfl, hx21_0, hx21_1⟩; exact .fin (yld_move rfl ⟨Grow.refl _, ⟨x21_0, x21_1, rfl, hx21_0, hx21_1⟩⟩)) ?_
      refine so [3] (fun w8 hw8 => by rintro _ ⟨x18_0, x18_1, rfl, hx18_0, hx18_1⟩; exact .fin (yld_extract rfl rfl rfl ⟨Grow.refl _, hx18_0⟩)) ?_
      refine sl [3] (fun w8 hw8 => by rintro _ ⟨x18_0, x18_1, rfl, hx18_0, hx18_1⟩; exact .fin (⟨_, fun w2 _ => pure_extract rfl rfl rfl w2, hx18_1⟩)) ?_
      exact sn [] (fun w8 hw8 => .fin (yld_newAlloc rfl zeroNat zNat)) (.nil _ _)
    rintro w8 hw8 v19 - v20 - v21 - v18 - v22 h22 _ rfl _ ⟨b7, rfl, B7⟩ hN
    have W8 : Grow w w8 := W4.trans hw8
    have g_b7 : w.heap.size ≤ b7 := Nat.le_trans W4.size hN.1.1
    have n_b3_b7 : b3 ≠ b7 := Nat.ne_of_lt (Nat.lt_of_lt_of_le B3.lt hN.1.1)
    have n_b4_b7 : b4 ≠ b7 := Nat.ne_of_lt (Nat.lt_of_lt_of_le B4.lt hN.1.1)
    have n_b5_b7 : b5 ≠ b7 := Nat.ne_of_lt (Nat.lt_of_lt_of_le B5.lt hN.1.1)
    have n_b6_b7 : b6 ≠ b7 := Nat.ne_of_lt (Nat.lt_of_lt_of_le B6.lt hN.1.1)
    clear hN
    replace B3 := B3.grow hw8
    replace B4 := B4.grow hw8
    replace B5 := B5.grow hw8
    replace B6 := B6.grow hw8
    have KK : Kept [] w8 w8 := fun _ _ => rfl
    refine fr ([va, vb, pt b2, pt b3, pt b4, pt b5, pt b6, pt b7, u, u, u, v11, v12, v13, v14, .bool (decide ((Nat.gcd x y) = 0)), u, u, v18, v19, v20, v21, v22, .bool (!decide ((Nat.gcd x y) = 0))] ++ us 8) ?_
    change wpListS _ _ _ _ [_, _] ⟨_, []⟩ _
    refine wpListS_yld rfl ?_
    refine yld_storeBox (R' := .nat (x / (Nat.gcd x y))) (b := b7) rfl rfl aggNat.size B7 (shNat _) h22 (shNat _) (St.nat _) (by decide) g_b7 fun w9 P9 E9 B' => ⟨fun _ => Kept.put KK P9 (fun _ hk => (by cases hk)), ?_⟩
    replace KK := Kept.put KK P9 (fun _ hk => (by cases hk))
    have W9 : Grow w w9 := W8.put P9 g_b7
    replace B3 := B3.put (St.nat _) P9 E9 n_b3_b7
    replace B4 := B4.put (St.nat _) P9 E9 n_b4_b7
    replace B5 := B5.put (St.nat _) P9 E9 n_b5_b7
    replace B6 := B6.put (St.nat _) P9 E9 n_b6_b7
    replace B7 := B'; clear B'
    change wpListS _ _ _ _ [_] ⟨_, []⟩ _
    refine wpListS_yld rfl ?_
    refine yld_assign rfl ⟨fun _ => KK, ?_⟩
    refine wpListS_nil ?_
    change Code.wp _ _ _ ⟨List.toArray (List.set _ 8 _), []⟩ _
    refine wp_seq ?_
    refine rg (fun c d v a w h => NL c d v a w h) [(25, .nat (y)), (26, .nat (Nat.gcd x y)), (27, .tup2 (.nat (y / (Nat.gcd x y))) (.eq (.bool (!decide ((Nat.gcd x y) = 0))))), (24, .tup2 (.nat (y / (Nat.gcd x y))) (.eq (.bool (!decide ((Nat.gcd x y) = 0))))), (28, .nat (y / (Nat.gcd x y))), (29, .eq (.bool (!decide ((Nat.gcd x y) = 0)))), (9, .ptr 31 (.nat (0)))] [6] [5] [] 32 7 ?_ ?_
    · refine so [] (fun w10 hw10 => .fin (yld_loadBox rfl rfl aggNat (B3.grow hw10) (shNat _))) ?_
      refine so [] (fun w10 hw10 => .fin (yld_loadBox rfl rfl aggNat (B6.grow hw10) (shNat _))) ?_
      refine so [0, 1] (fun w10 hw10 => by rintro v25 h25 v26 h26; exact .fin (yld_call rfl cal_quot_Div rfl (cQuotDiv h25 h26 (by first | assumption | omega)))) ?_
      refine so [2] (fun w10 hw10 => by rintro _ ⟨x27_0, x27_1, rfl, hx27_0, hx27_1⟩; exact .fin (yld_move rfl ⟨Grow.refl _, ⟨x27_0, x27_1, rfl, hx27_0, hx27_1⟩⟩)) ?_
      refine so [3] (fun w10 hw10 => by rintro _ ⟨x24_0, x24_1, rfl, hx24_0, hx24_1⟩; exact .fin (yld_extract rfl rfl rfl ⟨Grow.refl _, hx24_0⟩)) ?_
      refine sl [3] (fun w10 hw10 => by rintro _ ⟨x24_0, x24_1, rfl, hx24_0, hx24_1⟩; exact .fin (⟨_, fun w2 _ => pure_extract rfl rfl rfl w2, hx24_1⟩)) ?_
      exact sn [] (fun w10 hw10 => .fin (yld_newAlloc rfl zeroNat zNat)) (.nil _ _)
    rintro w10 hw10 v25 - v26 - v27 - v24 - v28 h28 _ rfl _ ⟨b9, rfl, B9⟩ hN
    have W10 : Grow w w10 := W9.trans hw10
    have g_b9 : w.heap.size ≤ b9 := Nat.le_trans W9.size hN.1.1
    have n_b4_b9 : b4 ≠ b9 := Nat.ne_of_lt (Nat.lt_of_lt_of_le B4.lt hN.1.1)
    have n_b5_b9 : b5 ≠ b9 := Nat.ne_of_lt (Nat.lt_of_lt_of_le B5.lt hN.1.1)
    have n_b7_b9 : b7 ≠ b9 := Nat.ne_of_lt (Nat.lt_of_lt_of_le B7.lt hN.1.1)
    clear hN
    replace B4 := B4.grow hw10
    replace B5 := B5.grow hw10
    replace B7 := B7.grow hw10
    have KK : Kept [] w10 w10 := fun _ _ => rfl
    refine fr [va, vb, pt b2, pt b3, pt b4, pt b5, pt b6, pt b7, .bool (!decide ((Nat.gcd x y) = 0)), pt b9, u, v11, v12, v13, v14, .bool (decide ((Nat.gcd x y) = 0)), u, u, v18, v19, v20, v21, v22, .bool (!decide ((Nat.gcd x y) = 0)), v24, v25, v26, v27, v28, .bool (!decide ((Nat.gcd x y) = 0)), u, u] ?_
    change wpListS _ _ _ _ [_, _] ⟨_, []⟩ _
    refine wpListS_yld rfl ?_
    refine yld_storeBox (R' := .nat (y / (Nat.gcd x y))) (b := b9) rfl rfl aggNat.size B9 (shNat _) h28 (shNat _) (St.nat _) (by decide) g_b9 fun w11 P11 E11 B' => ⟨fun _ => Kept.put KK P11 (fun _ hk => (by cases hk)), ?_⟩
    replace KK := Kept.put KK P11 (fun _ hk => (by cases hk))
    have W11 : Grow w w11 := W10.put P11 g_b9
    replace B4 := B4.put (St.nat _) P11 E11 n_b4_b9
    replace B5 := B5.put (St.nat _) P11 E11 n_b5_b9
    replace B7 := B7.put (St.nat _) P11 E11 n_b7_b9
    replace B9 := B'; clear B'
    change wpListS _ _ _ _ [_] ⟨_, []⟩ _
    refine wpListS_yld rfl ?_
    refine yld_assign rfl ⟨fun _ => KK, ?_⟩
    refine wpListS_nil ?_
    change Code.wp _ _ _ ⟨List.toArray (List.set _ 10 _), []⟩ _
    refine wp_seq ?_
    refine rg (fun c d v a w h => NL c d v a w h) [(30, .nat (x / (Nat.gcd x y))), (31, .nat (y / (Nat.gcd x y)))] [] [1] [b9] 32 2 ?_ ?_
    · refine so [] (fun w12 hw12 => .fin (yld_loadBox rfl rfl aggNat (B7.grow hw12) (shNat _))) ?_
      exact sl [] (fun w12 hw12 => .fin (lazy_loadBox rfl rfl aggNat (B9.grow hw12) (shNat _) (by simp))) (.nil _ _)
    rintro w12 hw12 v30 h30 v31 h31 -
    have W12 : Grow w w12 := W11.trans hw12
    replace B4 := B4.grow hw12
    replace B5 := B5.grow hw12
    have KK : Kept [b9] w12 w12 := fun _ _ => rfl
    refine fr [va, vb, pt b2, pt b3, pt b4, pt b5, pt b6, pt b7, .bool (!decide ((Nat.gcd x y) = 0)), pt b9, .bool (!decide ((Nat.gcd x y) = 0)), v11, v12, v13, v14, .bool (decide ((Nat.gcd x y) = 0)), u, u, v18, v19, v20, v21, v22, .bool (!decide ((Nat.gcd x y) = 0)), v24, v25, v26, v27, v28, .bool (!decide ((Nat.gcd x y) = 0)), v30, v31] ?_
    change wpListS _ _ _ _ [_, _] ⟨_, []⟩ _
    refine wpListS_yld rfl ?_
    refine yld_storeBox (R' := .nat (x / (Nat.gcd x y))) (b := b4) rfl rfl aggNat.size B4 (shNat _) h30 (shNat _) (St.nat _) (by decide) g_b4 fun w13 P13 E13 B' => ⟨fun _ => Kept.put KK P13 (by simp only [List.mem_cons, List.not_mem_nil, or_false, forall_eq]; exact (Ne.symm n_b4_b9)), ?_⟩
    replace KK := Kept.put KK P13 (by simp only [List.mem_cons, List.not_mem_nil, or_false, forall_eq]; exact (Ne.symm n_b4_b9))
    have W13 : Grow w w13 := W12.put P13 g_b4
    replace B5 := B5.put (St.nat _) P13 E13 (Ne.symm n_b4_b5)
    replace B4 := B'; clear B'
    replace h31 := MR.put h31 (St.nat _) E13
    change wpListS _ _ _ _ [_] ⟨_, []⟩ _
    refine wpListS_yld rfl ?_
    refine yld_storeBox (R' := .nat (y / (Nat.gcd x y))) (b := b5) rfl rfl aggNat.size B5 (shNat _) h31 (shNat _) (St.nat _) (by decide) g_b5 fun w14 P14 E14 B' => ⟨fun _ => Kept.put KK P14 (by simp only [List.mem_cons, List.not_mem_nil, or_false, forall_eq]; exact (Ne.symm n_b5_b9)), ?_⟩
    have W14 : Grow w w14 := W13.put P14 g_b5
    replace B4 := B4.put (St.nat _) P14 E14 n_b4_b5
    replace B5 := B'; clear B'
    refine nx ?_
    have BR : Box w14 b4 31 (.nat (x / Nat.gcd x y)) := (by have e : (x / (Nat.gcd x y) : Nat) = x / Nat.gcd x y := (by first | rfl | (have h0 : Nat.gcd x y = 0 := of_decide_eq_true hc1; rw [Nat.gcd_eq_zero_iff] at h0; simp [h0.1, h0.2])); rw [← e]; exact B4)
    have BR2 : Box w14 b5 31 (.nat (y / Nat.gcd x y)) := (by have e : (y / (Nat.gcd x y) : Nat) = y / Nat.gcd x y := (by first | rfl | (have h0 : Nat.gcd x y = 0 := of_decide_eq_true hc1; rw [Nat.gcd_eq_zero_iff] at h0; simp [h0.1, h0.2])); rw [← e]; exact B5)
    refine wp_ret ?_
    change bodyPost Try.prog Try.f78 (Ret (.tup2 (.nat (x / Nat.gcd x y)) (.nat (y / Nat.gcd x y))) w) .ret _ _
    exact body_cell2 (b := b4) (b' := b5) rfl rfl aggNat BR (shNat _) rfl aggNat BR2 (shNat _) rfl W14
set_option maxRecDepth 100000 in
set_option maxHeartbeats 2000000 in
theorem cIntMul {y z : Int} {va : Value} {vb : Value} {w : World}  (ha : (MR.int (y)).R w va) (hb : (MR.int (z)).R w vb) (hs : nw y.natAbs + nw z.natAbs ≤ LIM) : Calls Try.prog 51 #[va, vb] w (Ret (.int (y * z)) w) := by
  refine calls_enter (a := ⟨List.toArray ([va, vb] ++ us 14), []⟩) Try.func51 rfl (by kernel_rfl) ?_
  have NL : NoLook (bodyPost Try.prog Try.f51 (Ret (.int (y * z)) w)) := noLook_body
  refine wp_seq ?_
  refine rg (fun c d v a w h => NL c d v a w h) [(2, .ptr 33 (.int (y))), (3, .ptr 33 (.int (z))), (4, .ptr 33 (.int (0)))] [0, 1, 2] [] [] 16 3 ?_ ?_
  · refine sn [] (fun w1 hw1 => .fin (yld_newBox rfl rfl (MR.mono _ hw1 ha))) ?_
    refine sn [] (fun w1 hw1 => .fin (yld_newBox rfl rfl (MR.mono _ hw1 hb))) ?_
    exact sn [] (fun w1 hw1 => .fin (yld_newAlloc rfl zeroInt zInt)) (.nil _ _)
  rintro w1 hw1 _ ⟨b2, rfl, B2⟩ _ ⟨b3, rfl, B3⟩ _ ⟨b4, rfl, B4⟩ hN
  have W1 : Grow w w1 := (Grow.refl w).trans hw1
  have g_b4 : w.heap.size ≤ b4 := Nat.le_trans (Grow.refl w).size hN.2.2.2.2.1.1
  clear hN
  refine fr ([va, vb, pt b2, pt b3, pt b4] ++ us 11) ?_
  refine nx ?_
  refine wp_seq ?_
  refine rg (fun c d v a w h => NL c d v a w h) [(5, .eq (.pointer (some ⟨b2, 0, none⟩))), (6, .eq (.bool (decide (y < 0)))), (7, .eq (.pointer (some ⟨b3, 0, none⟩))), (8, .eq (.bool (decide (z < 0)))), (9, .eq (.bool ((decide (y < 0)) != (decide (z < 0))))), (10, .eq (.pointer (some ⟨b2, 1, none⟩))), (11, .nat ((y).natAbs)), (12, .eq (.pointer (some ⟨b3, 1, none⟩))), (13, .nat ((z).natAbs)), (14, .nat (((y).natAbs) * ((z).natAbs))), (15, .int (signed ((decide (y < 0)) != (decide (z < 0))) (((y).natAbs) * ((z).natAbs))))] [] [] [] 16 11 ?_ ?_
  · refine so [] (fun w2 hw2 => .fin (yld_fieldAddr rfl rfl fldInt0 ⟨Grow.refl _, rfl⟩)) ?_
    refine so [0] (fun w2 hw2 => by rintro _ rfl; exact .fin (yld_loadOne rfl rfl oneBool (B2.grow hw2) (paIntBelow _))) ?_
    refine so [] (fun w2 hw2 => .fin (yld_fieldAddr rfl rfl fldInt0 ⟨Grow.refl _, rfl⟩)) ?_
    refine so [2] (fun w2 hw2 => by rintro _ rfl; exact .fin (yld_loadOne rfl rfl oneBool (B3.grow hw2) (paIntBelow _))) ?_
    refine so [1, 3] (fun w2 hw2 => by rintro _ rfl _ rfl; exact .fin (yld_bneq rfl Try.underlying4 rfl rfl ⟨Grow.refl _, rfl⟩)) ?_
    refine so [] (fun w2 hw2 => .fin (yld_fieldAddr rfl rfl fldInt1 ⟨Grow.refl _, rfl⟩)) ?_
    refine so [5] (fun w2 hw2 => by rintro _ rfl; exact .fin (yld_loadPart rfl rfl aggNat (B2.grow hw2) (paIntAbs _))) ?_
    refine so [] (fun w2 hw2 => .fin (yld_fieldAddr rfl rfl fldInt1 ⟨Grow.refl _, rfl⟩)) ?_
    refine so [7] (fun w2 hw2 => by rintro _ rfl; exact .fin (yld_loadPart rfl rfl aggNat (B3.grow hw2) (paIntAbs _))) ?_
    refine so [6, 8] (fun w2 hw2 => by rintro v11 h11 v13 h13; exact .fin (yld_call rfl cal_prod_Mul rfl (cMul h11 h13 hs))) ?_
    exact so [4, 9] (fun w2 hw2 => by rintro _ rfl v14 h14; exact .fin (yld_call rfl cal_integer_New rfl (cNew h14))) (.nil _ _)
  rintro w2 hw2 v5 - v6 - v7 - v8 - v9 - v10 - v11 - v12 - v13 - v14 - v15 h15 -
  have W2 : Grow w w2 := W1.trans hw2
  replace B4 := B4.grow hw2
  have KK : Kept [] w2 w2 := fun _ _ => rfl
  refine fr [va, vb, pt b2, pt b3, pt b4, v5, v6, v7, v8, v9, v10, v11, v12, v13, v14, v15] ?_
  change wpListS _ _ _ _ [_] ⟨_, []⟩ _
  refine wpListS_yld rfl ?_
  refine yld_storeBox (R' := .int (signed ((decide (y < 0)) != (decide (z < 0))) (((y).natAbs) * ((z).natAbs)))) (b := b4) rfl rfl aggInt.size B4 (shInt _) h15 (shInt _) (St.int _) (by decide) g_b4 fun w3 P3 E3 B' => ⟨fun _ => Kept.put KK P3 (fun _ hk => (by cases hk)), ?_⟩
  have W3 : Grow w w3 := W2.put P3 g_b4
  replace B4 := B'; clear B'
  refine nx ?_
  have BR : Box w3 b4 33 (.int (y * z)) := (by have e : (signed ((decide (y < 0)) != (decide (z < 0))) (((y).natAbs) * ((z).natAbs)) : Int) = y * z := (signed_mul y z); rw [← e]; exact B4)
  refine wp_ret ?_
  change bodyPost Try.prog Try.f51 (Ret (.int (y * z)) w) .ret _ _
  exact body_cell (b := b4) rfl rfl aggInt BR (shInt _) rfl W3
set_option maxRecDepth 100000 in
set_option maxHeartbeats 2000000 in
theorem cRatBare {q : Rat} {va : Value} {vb : Value} {w : World}  (ha : (MR.int (q.num)).R w va) (hb : (MR.nat (q.den)).R w vb)  : Calls Try.prog 80 #[va, vb] w (Ret (.rat (q)) w) := by
  refine calls_enter (a := ⟨List.toArray ([va, vb] ++ us 20), []⟩) Try.func80 rfl (by kernel_rfl) ?_
  have NL : NoLook (bodyPost Try.prog Try.f80 (Ret (.rat (q)) w)) := noLook_body
  refine wp_seq ?_
  refine rg (fun c d v a w h => NL c d v a w h) [(2, .ptr 33 (.int (q.num))), (3, .ptr 31 (.nat (q.den))), (4, .ptr 35 (.rat (0)))] [0, 1, 2] [] [] 22 3 ?_ ?_
  · refine sn [] (fun w1 hw1 => .fin (yld_newBox rfl rfl (MR.mono _ hw1 ha))) ?_
    refine sn [] (fun w1 hw1 => .fin (yld_newBox rfl rfl (MR.mono _ hw1 hb))) ?_
    exact sn [] (fun w1 hw1 => .fin (yld_newAlloc rfl zeroRat zRat)) (.nil _ _)
  rintro w1 hw1 _ ⟨b2, rfl, B2⟩ _ ⟨b3, rfl, B3⟩ _ ⟨b4, rfl, B4⟩ hN
  have W1 : Grow w w1 := (Grow.refl w).trans hw1
  have n_b2_b4 : b2 ≠ b4 := hN.2.1 2 (by simp)
  have n_b3_b4 : b3 ≠ b4 := hN.2.2.2.1 2 (by simp)
  have g_b4 : w.heap.size ≤ b4 := Nat.le_trans (Grow.refl w).size hN.2.2.2.2.1.1
  clear hN
  refine fr ([va, vb, pt b2, pt b3, pt b4] ++ us 17) ?_
  refine nx ?_
  refine wp_seq ?_
  refine wp_seq ?_
  refine rg (fun c d v a w h => NL c d v a w h) [(8, .nat (q.den)), (9, .tup2 (.eq (.int .u64 ((uintV q.den : Nat)))) (.eq (.bool (uintOk q.den)))), (7, .tup2 (.eq (.int .u64 ((uintV q.den : Nat)))) (.eq (.bool (uintOk q.den)))), (10, .eq (.int .u64 ((uintV q.den : Nat)))), (11, .eq (.bool (uintOk q.den))), (5, .eq (.int .u64 ((uintV q.den : Nat)))), (6, .eq (.bool (uintOk q.den)))] [] [] [] 22 7 ?_ ?_
  · refine so [] (fun w2 hw2 => .fin (yld_loadBox rfl rfl aggNat (B3.grow hw2) (shNat _))) ?_
    refine so [0] (fun w2 hw2 => by rintro v8 h8; exact .fin (yld_call rfl cal_nat_Nat_Uint rfl (cNatUint h8))) ?_
    refine so [1] (fun w2 hw2 => by rintro _ ⟨x9_0, x9_1, rfl, hx9_0, hx9_1⟩; exact .fin (yld_move rfl ⟨Grow.refl _, ⟨x9_0, x9_1, rfl, hx9_0, hx9_1⟩⟩)) ?_
    refine so [2] (fun w2 hw2 => by rintro _ ⟨x7_0, x7_1, rfl, hx7_0, hx7_1⟩; exact .fin (yld_extract rfl rfl rfl ⟨Grow.refl _, hx7_0⟩)) ?_
    refine so [2] (fun w2 hw2 => by rintro _ ⟨x7_0, x7_1, rfl, hx7_0, hx7_1⟩; exact .fin (yld_extract rfl rfl rfl ⟨Grow.refl _, hx7_1⟩)) ?_
    refine so [3] (fun w2 hw2 => by rintro _ rfl; exact .fin (yld_assign rfl ⟨Grow.refl _, rfl⟩)) ?_
    exact so [4] (fun w2 hw2 => by rintro _ rfl; exact .fin (yld_assign rfl ⟨Grow.refl _, rfl⟩)) (.nil _ _)
  rintro w2 hw2 v8 - v9 - v7 - v10 - v11 - _ rfl _ rfl -
  have W2 : Grow w w2 := W1.trans hw2
  replace B2 := B2.grow hw2
  replace B3 := B3.grow hw2
  replace B4 := B4.grow hw2
  refine fr ([va, vb, pt b2, pt b3, pt b4, .int .u64 ((uintV q.den : Nat)), .bool (uintOk q.den), v7, v8, v9, v10, v11] ++ us 10) ?_
  refine nx ?_
  refine wp_seq ?_
  obtain ⟨x4, ex4⟩ : ∃ c : Bool, c = (uintOk q.den) := ⟨_, rfl⟩
  obtain ⟨x5, ex5⟩ : ∃ c : Bool, c = (((uintV q.den : Nat) : Int) == (1 : Int)) := ⟨_, rfl⟩
  obtain ⟨x6, ex6⟩ : ∃ c : Bool, c = ((x4 && x5)) := ⟨_, rfl⟩
  refine rg (fun c d v a w h => NL c d v a w h) [(12, .eq (.bool (x4))), (13, .eq (.bool (x4))), (14, .opt ((x4 == true)) (.eq (.int .u64 ((uintV q.den : Nat))))), (15, .opt ((x4 == true)) (.eq (.bool (x5)))), (16, .eq (.bool (x6)))] [] [] [] 22 5 ?_ ?_
  · refine so [] (fun w3 hw3 => .fin (yld_eqTo (c := .bool (uintOk q.den)) (yld_move rfl ⟨Grow.refl _, rfl⟩) (congrArg Value.bool ex4.symm))) ?_
    refine so [0] (fun w3 hw3 => by rintro _ rfl; exact .fin (yld_move rfl ⟨Grow.refl _, rfl⟩)) ?_
    refine sg (c := (x4 == true)) 13 [1] (fun w3 hw3 => by rintro _ rfl; exact .fin (⟨guard_eq, fun hc => yld_move rfl ⟨Grow.refl _, rfl⟩⟩)) ?_
    refine sg (c := (x4 == true)) 13 [1, 2] (fun w3 hw3 => by rintro _ rfl v14 h14; exact .fin (⟨guard_eq, fun hc => yld_eqTo (c := .bool (((uintV q.den : Nat) : Int) == (1 : Int))) (yld_eql rfl (show v14 = .int .u64 ((uintV q.den : Nat)) from (h14.1 (by revert hc; exact fun h => h))) rfl ⟨Grow.refl _, rfl⟩) (congrArg Value.bool ex5.symm)⟩)) ?_
    exact so [1, 3] (fun w3 hw3 => by rintro _ rfl v15 h15; exact .fin (yld_eqTo (c := .bool ((x4 && x5))) (yld_pick_and rfl rfl (fun ht => h15.1 (by revert ht; cases x4 <;> decide)) rfl ⟨Grow.refl _, rfl⟩) (congrArg Value.bool ex6.symm))) (.nil _ _)
  rintro w3 hw3 _ rfl _ rfl v14 - v15 - _ rfl -
  have W3 : Grow w w3 := W2.trans hw3
  replace B2 := B2.grow hw3
  replace B3 := B3.grow hw3
  replace B4 := B4.grow hw3
  subst ex4
  subst ex5
  subst ex6
  refine fr ([va, vb, pt b2, pt b3, pt b4, .int .u64 ((uintV q.den : Nat)), .bool (uintOk q.den), v7, v8, v9, v10, v11, .bool ((uintOk q.den)), .bool ((uintOk q.den)), v14, v15, .bool ((((uintOk q.den) && (((uintV q.den : Nat) : Int) == (1 : Int)))))] ++ us 5) ?_
  refine nx ?_
  refine wp_cond_split (t := (((uintOk q.den) && (((uintV q.den : Nat) : Int) == (1 : Int))))) rfl (fun hc1 => ?_) (fun hc1 => ?_)
  · refine wp_seq ?_
    refine rg (fun c d v a w h => NL c d v a w h) [(17, .int (q.num)), (18, .rat (((q.num : Int) : Rat)))] [] [] [] 22 2 ?_ ?_
    · refine so [] (fun w7 hw7 => .fin (yld_loadBox rfl rfl aggInt (B2.grow hw7) (shInt _))) ?_
      exact so [0] (fun w7 hw7 => by rintro v17 h17; exact .fin (yld_buildRat1 rfl h17)) (.nil _ _)
    rintro w7 hw7 v17 - v18 h18 -
    have W7 : Grow w w7 := W3.trans hw7
    replace B2 := B2.grow hw7
    replace B3 := B3.grow hw7
    replace B4 := B4.grow hw7
    have KK : Kept [] w7 w7 := fun _ _ => rfl
    refine fr ([va, vb, pt b2, pt b3, pt b4, .int .u64 ((uintV q.den : Nat)), .bool (uintOk q.den), v7, v8, v9, v10, v11, .bool ((uintOk q.den)), .bool ((uintOk q.den)), v14, v15, .bool ((((uintOk q.den) && (((uintV q.den : Nat) : Int) == (1 : Int))))), v17, v18] ++ us 3) ?_
    change wpListS _ _ _ _ [_] ⟨_, []⟩ _
    refine wpListS_yld rfl ?_
    refine yld_storeBox (R' := .rat (((q.num : Int) : Rat))) (b := b4) rfl rfl aggRat.size B4 (shRat _) h18 (shRat _) (St.rat _) (by decide) g_b4 fun w8 P8 E8 B' => ⟨fun _ => Kept.put KK P8 (fun _ hk => (by cases hk)), ?_⟩
    replace KK := Kept.put KK P8 (fun _ hk => (by cases hk))
    have W8 : Grow w w8 := W7.put P8 g_b4
    replace B2 := B2.put (St.int _) P8 E8 n_b2_b4
    replace B3 := B3.put (St.nat _) P8 E8 n_b3_b4
    replace B4 := B'; clear B'
    refine nx ?_
    have BR : Box w8 b4 35 (.rat (q)) := (by have e : (((q.num : Int) : Rat) : Rat) = q := (den_one_eq (by rw [uint_one] at hc1; simpa using hc1)); rw [← e]; exact B4)
    refine wp_ret ?_
    change bodyPost Try.prog Try.f80 (Ret (.rat (q)) w) .ret _ _
    exact body_cell (b := b4) rfl rfl aggRat BR (shRat _) rfl W8
  · refine wp_skip ?_
    change Code.wp _ _ _ ⟨_, []⟩ _
    refine wp_seq ?_
    refine rg (fun c d v a w h => NL c d v a w h) [(19, .int (q.num)), (20, .nat (q.den)), (21, .rat (q))] [] [] [] 22 3 ?_ ?_
    · refine so [] (fun w9 hw9 => .fin (yld_loadBox rfl rfl aggInt (B2.grow hw9) (shInt _))) ?_
      refine so [] (fun w9 hw9 => .fin (yld_loadBox rfl rfl aggNat (B3.grow hw9) (shNat _))) ?_
      exact so [0, 1] (fun w9 hw9 => by rintro v19 h19 v20 h20; exact .fin (yld_buildRat2 (q := q) rfl h19 (denW_ne (q := q) (by rw [uint_one] at hc1; simpa using hc1) ▸ h20))) (.nil _ _)
    rintro w9 hw9 v19 - v20 - v21 h21 -
    have W9 : Grow w w9 := W3.trans hw9
    replace B4 := B4.grow hw9
    have KK : Kept [] w9 w9 := fun _ _ => rfl
    refine fr [va, vb, pt b2, pt b3, pt b4, .int .u64 ((uintV q.den : Nat)), .bool (uintOk q.den), v7, v8, v9, v10, v11, .bool ((uintOk q.den)), .bool ((uintOk q.den)), v14, v15, .bool ((((uintOk q.den) && (((uintV q.den : Nat) : Int) == (1 : Int))))), u, u, v19, v20, v21] ?_
    change wpListS _ _ _ _ [_] ⟨_, []⟩ _
    refine wpListS_yld rfl ?_
    refine yld_storeBox (R' := .rat (q)) (b := b4) rfl rfl aggRat.size B4 (shRat _) h21 (shRat _) (St.rat _) (by decide) g_b4 fun w10 P10 E10 B' => ⟨fun _ => Kept.put KK P10 (fun _ hk => (by cases hk)), ?_⟩
    have W10 : Grow w w10 := W9.put P10 g_b4
    replace B4 := B'; clear B'
    refine nx ?_
    have BR : Box w10 b4 35 (.rat (q)) := B4
    refine wp_ret ?_
    change bodyPost Try.prog Try.f80 (Ret (.rat (q)) w) .ret _ _
    exact body_cell (b := b4) rfl rfl aggRat BR (shRat _) rfl W10
end Go.Proofs.Ytngghjhmfpmilaa
