/- actuarylaw08.Is, actuarylaw02.Is. -/
import Derived.Test.YtngghjhmfpmilaaLawT
import Derived.Deep.LoopGhost
namespace Go.Proofs.Ytngghjhmfpmilaa
open Go.RowKit
theorem cal_rat_Rat_Num : Callable Try.prog 74 := callable_of Try.func74 rfl (by kernel_rfl)
theorem cal_rat_Same : Callable Try.prog 28 := callable_of Try.func28 rfl (by kernel_rfl)
theorem cal_rat_Of : Callable Try.prog 59 := callable_of Try.func59 rfl (by kernel_rfl)
theorem nw_small {x : Nat} (h : x < 18446744073709551616) : nw x ≤ 1 := nw_le_of h
theorem szq_small (p : Int) {d : Int} (hd : d ≠ 0) (h1 : -9223372036854775808 ≤ p) (h2 : p < 9223372036854775808) (h3 : -9223372036854775808 ≤ d) (h4 : d < 9223372036854775808) : szq (Rat.divInt p d) ≤ 2 := by
  have h := szq_divInt p d hd
  have n1 := nw_small (x := p.natAbs) (by omega)
  have n2 := nw_small (x := d.natAbs) (by omega)
  omega
theorem cmpV_zero (a b : Int) : (cmpV a b == 0) = decide (a = b) := by
  unfold cmpV
  by_cases h : a < b
  · have : a ≠ b := by omega
    simp [h, this]
  · by_cases e : a = b <;> simp [h, e]
theorem is_eq {q : Rat} {p d : Int} (hd : d ≠ 0) : (((!decide (d = 0) && decide (q = Rat.divInt p d)) && (cmpV q.num (Rat.divInt p d).num == 0)) && (cmpV ((q.den : Nat) : Int) (((Rat.divInt p d).den : Nat) : Int) == 0)) = decide (q = Rat.divInt p d) := by
  rw [cmpV_zero, cmpV_zero, decide_eq_false hd]
  by_cases e : q = Rat.divInt p d
  · rw [decide_eq_true e]; subst e; simp
  · simp [e]
theorem cNatWord {x k : Nat} {va : Value} {w : World} (ha : (MR.nat x).R w va) : Calls Try.prog 92 #[va, .int .i64 ((k : Nat) : Int)] w (Ret (.eq (.int .u64 ((wd x k : Nat) : Int))) w) :=
  (nWord (fun _ => False) va x k (by omega) w ha).mono fun _ _ ⟨e, h2⟩ => ⟨_, e, h2, rfl⟩
set_option maxRecDepth 100000 in
set_option maxHeartbeats 2000000 in
theorem cIs8 {q : Rat} {p d : Int} {va : Value} {w : World}  (ha : (MR.rat (q)).R w va) (hd : d ≠ 0) (h1 : -9223372036854775808 ≤ p) (h2 : p < 9223372036854775808) (h3 : -9223372036854775808 ≤ d) (h4 : d < 9223372036854775808) (hs : szq q ≤ 8589934592) : Calls Try.prog 48 #[va, .int .i64 (p), .int .i64 (d)] w (Ret (.eq (.bool (decide (q = Rat.divInt p d)))) w) := by
  have _ := hs
  have hs2 := szq_small p hd h1 h2 h3 h4
  refine calls_enter (a := ⟨List.toArray ([va, .int .i64 (p), .int .i64 (d)] ++ us 34), []⟩) Try.func48 rfl (by kernel_rfl) ?_
  have NL : NoLook (bodyPost Try.prog Try.f48 (Ret (.eq (.bool (decide (q = Rat.divInt p d)))) w)) := noLook_body
  refine wp_seq ?_
  refine rg (fun c d v a w h => NL c d v a w h) [(3, .ptr 35 (.rat (q))), (6, .eq (.bool (false)))] [0] [] [] 37 2 ?_ ?_
  · refine sn [] (fun w1 hw1 => .fin (yld_newBox rfl rfl (MR.mono _ hw1 ha))) ?_
    exact so [] (fun w1 hw1 => .fin (yld_assign rfl ⟨Grow.refl _, rfl⟩)) (.nil _ _)
  rintro w1 hw1 _ ⟨b3, rfl, B3⟩ _ rfl hN
  have W1 : Grow w w1 := (Grow.refl w).trans hw1
  clear hN
  refine fr ([va, .int .i64 (p), .int .i64 (d), pt b3, u, u, .bool (false)] ++ us 30) ?_
  refine nx ?_
  refine wp_seq ?_
  refine rg (fun c d v a w h => NL c d v a w h) [(10, .eq (.int .i64 (p))), (11, .eq (.int .i64 (d))), (12, .tup2 (.rat (Rat.divInt p d)) (.eq (.bool (!decide (d = 0))))), (9, .tup2 (.rat (Rat.divInt p d)) (.eq (.bool (!decide (d = 0))))), (13, .rat (Rat.divInt p d)), (14, .eq (.bool (!decide (d = 0)))), (7, .ptr 35 (.rat (0)))] [6] [5] [] 37 7 ?_ ?_
  · refine so [] (fun w2 hw2 => .fin (yld_move rfl ⟨Grow.refl _, rfl⟩)) ?_
    refine so [] (fun w2 hw2 => .fin (yld_move rfl ⟨Grow.refl _, rfl⟩)) ?_
    refine so [0, 1] (fun w2 hw2 => by rintro _ rfl _ rfl; exact .fin (yld_call rfl cal_rat_Of rfl (cRatOf (p := p) (q := d) (by omega) (by omega) (by omega) (by omega)))) ?_
    refine so [2] (fun w2 hw2 => by rintro _ ⟨x12_0, x12_1, rfl, hx12_0, hx12_1⟩; exact .fin (yld_move rfl ⟨Grow.refl _, ⟨x12_0, x12_1, rfl, hx12_0, hx12_1⟩⟩)) ?_
    refine so [3] (fun w2 hw2 => by rintro _ ⟨x9_0, x9_1, rfl, hx9_0, hx9_1⟩; exact .fin (yld_extract rfl rfl rfl ⟨Grow.refl _, hx9_0⟩)) ?_
    refine sl [3] (fun w2 hw2 => by rintro _ ⟨x9_0, x9_1, rfl, hx9_0, hx9_1⟩; exact .fin (⟨_, fun w2 _ => pure_extract rfl rfl rfl w2, hx9_1⟩)) ?_
    exact sn [] (fun w2 hw2 => .fin (yld_newAlloc rfl zeroRat zRat)) (.nil _ _)
  rintro w2 hw2 v10 - v11 - v12 - v9 - v13 h13 _ rfl _ ⟨b7, rfl, B7⟩ hN
  have W2 : Grow w w2 := W1.trans hw2
  have g_b7 : w.heap.size ≤ b7 := Nat.le_trans W1.size hN.1.1
  have n_b3_b7 : b3 ≠ b7 := Nat.ne_of_lt (Nat.lt_of_lt_of_le B3.lt hN.1.1)
  clear hN
  replace B3 := B3.grow hw2
  have KK : Kept [] w2 w2 := fun _ _ => rfl
  refine fr ([va, .int .i64 (p), .int .i64 (d), pt b3, u, u, .bool (false), pt b7, u, v9, v10, v11, v12, v13, .bool (!decide (d = 0))] ++ us 22) ?_
  change wpListS _ _ _ _ [_, _] ⟨_, []⟩ _
  refine wpListS_yld rfl ?_
  refine yld_storeBox (R' := .rat (Rat.divInt p d)) (b := b7) rfl rfl aggRat.size B7 (shRat _) h13 (shRat _) (St.rat _) (by decide) g_b7 fun w3 P3 E3 B' => ⟨fun _ => Kept.put KK P3 (fun _ hk => (by cases hk)), ?_⟩
  replace KK := Kept.put KK P3 (fun _ hk => (by cases hk))
  have W3 : Grow w w3 := W2.put P3 g_b7
  replace B3 := B3.put (St.rat _) P3 E3 n_b3_b7
  replace B7 := B'; clear B'
  change wpListS _ _ _ _ [_] ⟨_, []⟩ _
  refine wpListS_yld rfl ?_
  refine yld_assign rfl ⟨fun _ => KK, ?_⟩
  refine wpListS_nil ?_
  change Code.wp _ _ _ ⟨List.toArray (List.set _ 8 _), []⟩ _
  refine wp_seq ?_
  obtain ⟨x5, ex5⟩ : ∃ c : Bool, c = (!decide (d = 0)) := ⟨_, rfl⟩
  obtain ⟨x6, ex6⟩ : ∃ c : Bool, c = (decide (q = (Rat.divInt p d))) := ⟨_, rfl⟩
  obtain ⟨x7, ex7⟩ : ∃ c : Bool, c = ((x5 && x6)) := ⟨_, rfl⟩
  obtain ⟨x8, ex8⟩ : ∃ c : Bool, c = ((cmpV q.num ((Rat.divInt p d).num) : Int) == (0 : Int)) := ⟨_, rfl⟩
  obtain ⟨x9, ex9⟩ : ∃ c : Bool, c = ((x7 && x8)) := ⟨_, rfl⟩
  obtain ⟨x10, ex10⟩ : ∃ c : Bool, c = ((cmpV ((q.den : Nat)) (((Rat.divInt p d).den : Nat)) : Int) == (0 : Int)) := ⟨_, rfl⟩
  obtain ⟨x11, ex11⟩ : ∃ c : Bool, c = ((x9 && x10)) := ⟨_, rfl⟩
  refine rg (fun c d v a w h => NL c d v a w h) [(15, .eq (.bool (x5))), (16, .eq (.bool (x5))), (17, .opt ((x5 == true)) (.rat (q))), (18, .opt ((x5 == true)) (.rat (Rat.divInt p d))), (19, .opt ((x5 == true)) (.eq (.bool (x6)))), (20, .eq (.bool (x7))), (21, .eq (.bool (x7))), (22, .opt ((x7 == true)) (.rat (q))), (23, .opt ((x7 == true)) (.int (q.num))), (24, .opt ((x7 == true)) (.rat (Rat.divInt p d))), (25, .opt ((x7 == true)) (.int ((Rat.divInt p d).num))), (26, .opt ((x7 == true)) (.eq (.int .i64 (cmpV q.num ((Rat.divInt p d).num))))), (27, .opt ((x7 == true)) (.eq (.bool (x8)))), (28, .eq (.bool (x9))), (29, .eq (.bool (x9))), (30, .opt ((x9 == true)) (.rat (q))), (31, .opt ((x9 == true)) (.nat (q.den))), (32, .opt ((x9 == true)) (.rat (Rat.divInt p d))), (33, .opt ((x9 == true)) (.nat ((Rat.divInt p d).den))), (34, .opt ((x9 == true)) (.eq (.int .i64 (cmpV ((q.den : Nat)) (((Rat.divInt p d).den : Nat)))))), (35, .opt ((x9 == true)) (.eq (.bool (x10)))), (36, .eq (.bool (x11))), (6, .eq (.bool (x11)))] [] [] [] 37 23 ?_ ?_
  · refine so [] (fun w4 hw4 => .fin (yld_eqTo (c := .bool (!decide (d = 0))) (yld_move rfl ⟨Grow.refl _, rfl⟩) (congrArg Value.bool ex5.symm))) ?_
    refine so [0] (fun w4 hw4 => by rintro _ rfl; exact .fin (yld_move rfl ⟨Grow.refl _, rfl⟩)) ?_
    refine sg (c := (x5 == true)) 16 [1] (fun w4 hw4 => by rintro _ rfl; exact .fin (⟨guard_eq, fun hc => yld_loadBox rfl rfl aggRat (B3.grow hw4) (shRat _)⟩)) ?_
    refine sg (c := (x5 == true)) 16 [1] (fun w4 hw4 => by rintro _ rfl; exact .fin (⟨guard_eq, fun hc => yld_loadBox rfl rfl aggRat (B7.grow hw4) (shRat _)⟩)) ?_
    refine sg (c := (x5 == true)) 16 [1, 2, 3] (fun w4 hw4 => by rintro _ rfl v17 h17 v18 h18; exact .fin (⟨guard_eq, fun hc => yld_eqTo (c := .bool (decide (q = (Rat.divInt p d)))) (yld_call rfl cal_rat_Same rfl (cRatSame (h17.1 (by revert hc; exact fun h => h)) (h18.1 (by revert hc; exact fun h => h)) (by omega))) (congrArg Value.bool ex6.symm)⟩)) ?_
    refine so [1, 4] (fun w4 hw4 => by rintro _ rfl v19 h19; exact .fin (yld_eqTo (c := .bool ((x5 && x6))) (yld_pick_and rfl rfl (fun ht => h19.1 (by revert ht; cases x5 <;> decide)) rfl ⟨Grow.refl _, rfl⟩) (congrArg Value.bool ex7.symm))) ?_
    refine so [5] (fun w4 hw4 => by rintro _ rfl; exact .fin (yld_move rfl ⟨Grow.refl _, rfl⟩)) ?_
    refine sg (c := (x7 == true)) 21 [6] (fun w4 hw4 => by rintro _ rfl; exact .fin (⟨guard_eq, fun hc => yld_loadBox rfl rfl aggRat (B3.grow hw4) (shRat _)⟩)) ?_
    refine sg (c := (x7 == true)) 21 [6, 7] (fun w4 hw4 => by rintro _ rfl v22 h22; exact .fin (⟨guard_eq, fun hc => yld_call rfl cal_rat_Rat_Num rfl (cRatNum (h22.1 (by revert hc; exact fun h => h)))⟩)) ?_
    refine sg (c := (x7 == true)) 21 [6] (fun w4 hw4 => by rintro _ rfl; exact .fin (⟨guard_eq, fun hc => yld_loadBox rfl rfl aggRat (B7.grow hw4) (shRat _)⟩)) ?_
    refine sg (c := (x7 == true)) 21 [6, 9] (fun w4 hw4 => by rintro _ rfl v24 h24; exact .fin (⟨guard_eq, fun hc => yld_call rfl cal_rat_Rat_Num rfl (cRatNum (h24.1 (by revert hc; exact fun h => h)))⟩)) ?_
    refine sg (c := (x7 == true)) 21 [6, 8, 10] (fun w4 hw4 => by rintro _ rfl v23 h23 v25 h25; exact .fin (⟨guard_eq, fun hc => yld_call rfl cal_integer_Cmp rfl (cIntCmp (h23.1 (by revert hc; exact fun h => h)) (h25.1 (by revert hc; exact fun h => h)))⟩)) ?_
    refine sg (c := (x7 == true)) 21 [6, 11] (fun w4 hw4 => by rintro _ rfl v26 h26; exact .fin (⟨guard_eq, fun hc => yld_eqTo (c := .bool ((cmpV q.num ((Rat.divInt p d).num) : Int) == (0 : Int))) (yld_eql rfl (show v26 = .int .i64 (cmpV q.num ((Rat.divInt p d).num)) from (h26.1 (by revert hc; exact fun h => h))) rfl ⟨Grow.refl _, rfl⟩) (congrArg Value.bool ex8.symm)⟩)) ?_
    refine so [6, 12] (fun w4 hw4 => by rintro _ rfl v27 h27; exact .fin (yld_eqTo (c := .bool ((x7 && x8))) (yld_pick_and rfl rfl (fun ht => h27.1 (by revert ht; cases x7 <;> decide)) rfl ⟨Grow.refl _, rfl⟩) (congrArg Value.bool ex9.symm))) ?_
    refine so [13] (fun w4 hw4 => by rintro _ rfl; exact .fin (yld_move rfl ⟨Grow.refl _, rfl⟩)) ?_
    refine sg (c := (x9 == true)) 29 [14] (fun w4 hw4 => by rintro _ rfl; exact .fin (⟨guard_eq, fun hc => yld_loadBox rfl rfl aggRat (B3.grow hw4) (shRat _)⟩)) ?_
    refine sg (c := (x9 == true)) 29 [14, 15] (fun w4 hw4 => by rintro _ rfl v30 h30; exact .fin (⟨guard_eq, fun hc => yld_call rfl cal_rat_Rat_Den rfl (cRatDen (h30.1 (by revert hc; exact fun h => h)))⟩)) ?_
    refine sg (c := (x9 == true)) 29 [14] (fun w4 hw4 => by rintro _ rfl; exact .fin (⟨guard_eq, fun hc => yld_loadBox rfl rfl aggRat (B7.grow hw4) (shRat _)⟩)) ?_
    refine sg (c := (x9 == true)) 29 [14, 17] (fun w4 hw4 => by rintro _ rfl v32 h32; exact .fin (⟨guard_eq, fun hc => yld_call rfl cal_rat_Rat_Den rfl (cRatDen (h32.1 (by revert hc; exact fun h => h)))⟩)) ?_
    refine sg (c := (x9 == true)) 29 [14, 16, 18] (fun w4 hw4 => by rintro _ rfl v31 h31 v33 h33; exact .fin (⟨guard_eq, fun hc => yld_call rfl cal_nat_Cmp rfl (cNatCmp (h31.1 (by revert hc; exact fun h => h)) (h33.1 (by revert hc; exact fun h => h)))⟩)) ?_
    refine sg (c := (x9 == true)) 29 [14, 19] (fun w4 hw4 => by rintro _ rfl v34 h34; exact .fin (⟨guard_eq, fun hc => yld_eqTo (c := .bool ((cmpV ((q.den : Nat)) (((Rat.divInt p d).den : Nat)) : Int) == (0 : Int))) (yld_eql rfl (show v34 = .int .i64 (cmpV ((q.den : Nat)) (((Rat.divInt p d).den : Nat))) from (h34.1 (by revert hc; exact fun h => h))) rfl ⟨Grow.refl _, rfl⟩) (congrArg Value.bool ex10.symm)⟩)) ?_
    refine so [14, 20] (fun w4 hw4 => by rintro _ rfl v35 h35; exact .fin (yld_eqTo (c := .bool ((x9 && x10))) (yld_pick_and rfl rfl (fun ht => h35.1 (by revert ht; cases x9 <;> decide)) rfl ⟨Grow.refl _, rfl⟩) (congrArg Value.bool ex11.symm))) ?_
    exact so [21] (fun w4 hw4 => by rintro _ rfl; exact .fin (yld_assign rfl ⟨Grow.refl _, rfl⟩)) (.nil _ _)
  rintro w4 hw4 _ rfl _ rfl v17 - v18 - v19 - _ rfl _ rfl v22 - v23 - v24 - v25 - v26 - v27 - _ rfl _ rfl v30 - v31 - v32 - v33 - v34 - v35 - _ rfl _ rfl -
  have W4 : Grow w w4 := W3.trans hw4
  subst ex5
  subst ex6
  subst ex7
  subst ex8
  subst ex9
  subst ex10
  subst ex11
  refine fr [va, .int .i64 (p), .int .i64 (d), pt b3, u, u, .bool ((((((((!decide (d = 0)) && (decide (q = (Rat.divInt p d))))) && ((cmpV q.num ((Rat.divInt p d).num) : Int) == (0 : Int)))) && ((cmpV ((q.den : Nat)) (((Rat.divInt p d).den : Nat)) : Int) == (0 : Int))))), pt b7, .bool (!decide (d = 0)), v9, v10, v11, v12, v13, .bool (!decide (d = 0)), .bool ((!decide (d = 0))), .bool ((!decide (d = 0))), v17, v18, v19, .bool ((((!decide (d = 0)) && (decide (q = (Rat.divInt p d)))))), .bool ((((!decide (d = 0)) && (decide (q = (Rat.divInt p d)))))), v22, v23, v24, v25, v26, v27, .bool ((((((!decide (d = 0)) && (decide (q = (Rat.divInt p d))))) && ((cmpV q.num ((Rat.divInt p d).num) : Int) == (0 : Int))))), .bool ((((((!decide (d = 0)) && (decide (q = (Rat.divInt p d))))) && ((cmpV q.num ((Rat.divInt p d).num) : Int) == (0 : Int))))), v30, v31, v32, v33, v34, v35, .bool ((((((((!decide (d = 0)) && (decide (q = (Rat.divInt p d))))) && ((cmpV q.num ((Rat.divInt p d).num) : Int) == (0 : Int)))) && ((cmpV ((q.den : Nat)) (((Rat.divInt p d).den : Nat)) : Int) == (0 : Int)))))] ?_
  refine nx ?_
  refine wp_ret ?_
  change bodyPost Try.prog Try.f48 (Ret (.eq (.bool (decide (q = Rat.divInt p d)))) w) .ret _ _
  exact body_slot rfl (by show Value.bool _ = Value.bool _; rw [show ((((((((!decide (d = 0)) && (decide (q = (Rat.divInt p d))))) && ((cmpV q.num ((Rat.divInt p d).num) : Int) == (0 : Int)))) && ((cmpV ((q.den : Nat)) (((Rat.divInt p d).den : Nat)) : Int) == (0 : Int))))) = (decide (q = Rat.divInt p d)) from (is_eq hd)]) rfl W4
end Go.Proofs.Ytngghjhmfpmilaa
