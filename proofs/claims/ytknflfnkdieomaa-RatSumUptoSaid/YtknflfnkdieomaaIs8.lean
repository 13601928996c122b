/- actuarylaw08.Is, actuarylaw02.Is. -/
import Derived.Test.YtknflfnkdieomaaMake8
import Derived.Deep.LoopGhost
namespace Go.Proofs.Ytknflfnkdieomaa
open Go.RowKit
theorem cal_rat_Rat_Num : Callable Try.prog 28 := callable_of Try.func28 rfl (by kernel_rfl)
theorem cal_rat_Same : Callable Try.prog 34 := callable_of Try.func34 rfl (by kernel_rfl)
theorem cal_rat_Of : Callable Try.prog 59 := callable_of Try.func59 rfl (by kernel_rfl)
theorem nw_small {x : Nat} (h : x < 18446744073709551616) : nw x ≤ 1 := nw_le_of h
theorem szq_small (p : Int) {d : Int} (hd : d ≠ 0) (h1 : -9223372036854775808 ≤ p) (h2 : p < 9223372036854775808) (h3 : -9223372036854775808 ≤ d) (h4 : d < 9223372036854775808) : szq (Rat.divInt p d) ≤ 2 := by
  have h := szq_divInt p d hd
  have n1 := nw_small (x := p.natAbs) (by omega)
  have n2 := nw_small (x := d.natAbs) (by omega)
  omega
theorem cmpV_zero (a b : Int) : (cmpV a b == 0) = decide (a = b) := by
  unfold cmpV
  by_cases h : a < b
  · have : a ≠ b := by omega
    simp [h, this]
  · by_cases e : a = b <;> simp [h, e]
theorem is_eq {q : Rat} {p d : Int} (hd : d ≠ 0) : (((!decide (d = 0) && decide (q = Rat.divInt p d)) && (cmpV q.num (Rat.divInt p d).num == 0)) && (cmpV ((q.den : Nat) : Int) (((Rat.divInt p d).den : Nat) : Int) == 0)) = decide (q = Rat.divInt p d) := by
  rw [cmpV_zero, cmpV_zero, decide_eq_false hd]
  by_cases e : q = Rat.divInt p d
  · rw [decide_eq_true e]; subst e; simp
  · simp [e]
theorem cNatWord {x k : Nat} {va : Value} {w : World} (ha : (MR.nat x).R w va) : Calls Try.prog 89 #[va, .int .i64 ((k : Nat) : Int)] w (Ret (.eq (.int .u64 ((wd x k : Nat) : Int))) w) :=
  (nWord (fun _ => False) va x k (by omega) w ha).mono fun _ _ ⟨e, h2⟩ => ⟨_, e, h2, rfl⟩
set_option maxRecDepth 100000 in
set_option maxHeartbeats 2000000 in
theorem cIs8 {q : Rat} {p d : Int} {va : Value} {w : World}  (ha : (MR.rat (q)).R w va) (hd : d ≠ 0) (h1 : -9223372036854775808 ≤ p) (h2 : p < 9223372036854775808) (h3 : -9223372036854775808 ≤ d) (h4 : d < 9223372036854775808) (hs : szq q ≤ 8589934592) : Calls Try.prog 54 #[va, .int .i64 (p), .int .i64 (d)] w (Ret (.eq (.bool (decide (q = Rat.divInt p d)))) w) := by
  have _ := hs
  have hs2 := szq_small p hd h1 h2 h3 h4
  refine calls_enter (a := ⟨List.toArray ([va, .int .i64 (p), .int .i64 (d)] ++ us 34), []⟩) Try.func54 rfl (by kernel_rfl) ?_
  have NL : NoLook (bodyPost Try.prog Try.f54 (Ret (.eq (.bool (decide (q = Rat.divInt p d)))) w)) := noLook_body
  refine wp_seq ?_
  refine rg (fun c d v a w h => NL c d v a w h) [(3, .ptr 37 (.rat (q))), (6, .eq (.bool (false)))] [0] [] [] 37 2 ?_ ?_
  · refine sn [] (fun w1 hw1 => .fin (yld_newBox rfl rfl (MR.mono _ hw1 ha))) ?_
    exact so [] (fun w1 hw1 => .fin (yld_assign rfl ⟨Grow.refl _, rfl⟩)) (.nil _ _)
  rintro w1 hw1 _ ⟨b3, rfl, B3⟩ _ rfl hN
  have W1 : Grow w w1 := (Grow.refl w).trans hw1
  clear hN
  refine fr ([va, .int .i64 (p), .int .i64 (d), pt b3, u, u, .bool (false)] ++ us 30) ?_
  refine nx ?_
  refine wp_seq ?_
  refine rg (fun c d v a w h => NL c d v a w h) [(10, .eq (.int .i64 (p))), (11, .eq (.int .i64 (d))), (12, .tup2 (.rat (Rat.divInt p d)) (.eq (.bool (!decide (d = 0))))), (9, .tup2 (.rat (Rat.divInt p d)) (.eq (.bool (!decide (d = 0))))), (13, .rat (Rat.divInt p d)), (14, .eq (.bool (!decide (d = 0)))), (7, .ptr 37 (.rat (0)))] [6] [5] [] 37 7 ?_ ?_
  · refine so [] (fun w2 hw2 => .fin (yld_move rfl ⟨Grow.refl _, rfl⟩)) ?_
    refine so [] (fun w2 hw2 => .fin (yld_move rfl ⟨Grow.refl _, rfl⟩)) ?_
    refine so [0, 1] (fun w2 hw2 => by rintro _ rfl _ rfl; exact .fin (yld_call rfl cal_rat_Of rfl (cRatOf (p := p) (q := d) (by omega) (by omega) (by omega) (by omega)))) ?_
    refine so [2] (fun w2 hw2 => by rintro _ ⟨x12_0, x12_1, rfl, hx12_0, hx12_1⟩; exact .fin (yld_move rfl ⟨Grow.refl _, ⟨x12_0, x12_1, rfl, hx12_0, hx12_1⟩⟩)) ?_
    refine so [3] (fun w2 hw2 => by rintro _ ⟨x9_0, x9_1, rfl, hx9_0, hx9_1⟩; exact .fin (yld_extract rfl rfl rfl ⟨Grow.refl _, hx9_0⟩)) ?_
    refine sl [3] (fun w2 hw2 => by rintro _ ⟨x9_0, x9_1, rfl, hx9_0, hx9_1⟩; exact .fin (⟨_, fun w2 _ => pure_extract rfl rfl rfl w2, hx9_1⟩)) ?_
    exact sn [] (fun w2 hw2 => .fin (yld_newAlloc rfl zeroRat zRat)) (.nil _ _)
  rintro w2 hw2 v10 - v11 - v12 - v9 - v13 h13 _ rfl _ ⟨b7, rfl, B7⟩ hN
  have W2 : Grow w w2 := W1.trans hw2
  have g_b7 : w.heap.size ≤ b7 := Nat.le_trans W1.size hN.1.1
  have n_b3_b7 : b3 ≠ b7 := Nat.ne_of_lt (Nat.lt_of_lt_of_le B3.lt hN.1.1)
  clear hN
  replace B3 := B3.grow hw2
  have KK : Kept [] w2 w2 := fun _ _ => rfl
  refine fr ([va, .int .i64 (p), .int .i64 (d), pt b3, u, u, .bool (false), pt b7, u, v9, v10, v11, v12, v13, .bool (!decide (d = 0))] ++ us 22) ?_
  change wpListS _ _ _ _ [_, _] ⟨_, []⟩ _
  refine wpListS_yld rfl ?_
  refine yld_storeBox (R' := .rat (Rat.divInt p d)) (b := b7) rfl rfl aggRat.size B7 (shRat _) h13 (shRat _) (St.rat _) (by decide) g_b7 fun w3 P3 E3 B' => ⟨fun _ => Kept.put KK P3 (fun _ hk => (by cases hk)), ?_⟩
  replace KK := Kept.put KK P3 (fun _ hk => (by cases hk))
  have W3 : Grow w w3 := W2.put P3 g_b7
  replace B3 := B3.put (St.rat _) P3 E3 n_b3_b7
  replace B7 := B'; clear B'
  change wpListS _ _ _ _ [_] ⟨_, []⟩ _
  refine wpListS_yld rfl ?_
  refine yld_assign rfl ⟨fun _ => KK, ?_⟩
  refine wpListS_nil ?_
  change Code.wp _ _ _ ⟨List.toArray (List.set _ 8 _), []⟩ _
  refine wp_seq ?_
  obtain ⟨x5, ex5⟩ : ∃ c : Bool, c = (!decide (d = 0)) := ⟨_, rfl⟩
  obtain ⟨x6, ex6⟩ : ∃ c : Bool, c = (decide (q = (Rat.divInt p d))) := ⟨_, rfl⟩
  obtain ⟨x7, ex7⟩ : ∃ c : Bool, c = ((x5 && x6)) := ⟨_, rfl⟩
  obtain ⟨x8, ex8⟩ : ∃ c : Bool, c = ((cmpV q.num ((Rat.divInt p d).num) : Int) == (0 : Int)) := ⟨_, rfl⟩
  obtain ⟨x9, ex9⟩ : ∃ c : Bool, c = ((x7 && x8)) := ⟨_, rfl⟩
  obtain ⟨x10, ex10⟩ : ∃ c : Bool, c = ((cmpV ((q.den : Nat)) (((Rat.divInt p d).den : Nat)) : Int) == (0 : Int)) := ⟨_, rfl⟩
  obtain ⟨x11, ex11⟩ : ∃ c : Bool, c = ((x9 && x10)) := ⟨_, rfl⟩
  refine rg (fun c d v a w h => NL c d v a w h) [(15, .eq (.bool (x5))), (16, .eq (.bool (x5))), (17, .opt ((x5 == true)) (.rat (q))), (18, .opt ((x5 == true)) (.rat (Rat.divInt p d))), (19, .opt ((x5 == true)) (.eq (.bool (x6)))), (20, .eq (.bool (x7))), (21, .eq (.bool (x7))), (22, .opt ((x7 == true)) (.rat (q))), (23, .opt ((x7 == true)) (.int (q.num))), (24, .opt ((x7 == true)) (.rat (Rat.divInt p d))), (25, .opt ((x7 == true)) (.int ((Rat.divInt p d).num))), (26, .opt ((x7 == true)) (.eq (.int .i64 (cmpV q.num ((Rat.divInt p d).num))))), (27, .opt ((x7 == true)) (.eq (.bool (x8)))), (28, .eq (.bool (x9))), (29, .eq (.bool (x9))), (30, .opt ((x9 == true)) (.rat (q))), (31, .opt ((x9 == true)) (.nat (q.den))), (32, .opt ((x9 == true)) (.rat (Rat.divInt p d))), (33, .opt ((x9 == true)) (.nat ((Rat.divInt p d).den))), (34, .opt ((x9 == true)) (.eq (.int .i64 (cmpV ((q.den : Nat)) (((Rat.divInt p d).den : Nat)))))), (35, .opt ((x9 == true)) (.eq (.bool (x10)))), (36, .eq (.bool (x11))), (6, .eq (.bool (x11)))] [] [] [] 37 23 ?_ ?_
  · refine so [] (fun w4 hw4 => .fin (yld_eqTo (c := .bool (!decide (d = 0))) (yld_move rfl ⟨Grow.refl _, rfl⟩) (congrArg Value.bool ex5.symm))) ?_
    refine so [0] (fun w4 hw4 => by rintro _ rfl; exact .fin (yld_move rfl ⟨Grow.refl _, rfl⟩)) ?_
    refine sg (c := (x5 == true)) 16 [1] (fun w4 hw4 => by rintro _ rfl; exact .fin (⟨guard_eq, fun hc => yld_loadBox rfl rfl aggRat (B3.grow hw4) (shRat _)⟩)) ?_
    refine sg (c := (x5 == true)) 16 [1] (fun w4 hw4 => by rintro _ rfl; exact .fin (⟨guard_eq, fun hc => yld_loadBox rfl rfl aggRat (B7.grow hw4) (shRat _)⟩)) ?_
    refine sg (c := (x5 == true)) 16 [1, 2, 3] (fun w4 hw4 => by rintro _ rfl v17 h17 v18 h18; exact .fin (⟨guard_eq, fun hc => yld_eqTo (c := .bool (decide (q = (Rat.divInt p d)))) (yld_call rfl cal_rat_Same rfl (cRatSame (h17.1 (by revert hc; exact fun h => h)) (h18.1 (by revert hc; exact fun h => h)) (by omega))) (congrArg Value.bool ex6.symm)⟩)) ?_
    refine so [1, 4] (fun w4 hw4 => by rintro _ rfl v19 h19; exact .fin (yld_eqTo (c := .bool ((x5 && x6))) (yld_pick_and rfl rfl (fun ht => h19.1 (by revert ht; cases x5 <;> decide)) rfl ⟨Grow.refl _, rfl⟩) (congrArg Value.bool ex7.symm))) ?_
    refine so [5] (fun w4 hw4 => by rintro _ rfl; exact .fin (yld_move rfl ⟨Grow.refl _, rfl⟩)) ?_
    refine sg (c := (x7 == true)) 21 [6] (fun w4 hw4 => by rintro _ rfl; exact .fin (⟨guard_eq, fun hc => yld_loadBox rfl rfl aggRat (B3.grow hw4) (shRat _)⟩)) ?_
    refine sg (c := (x7 == true)) 21 [6, 7] (fun w4 hw4 => by rintro _ rfl v22 h22; exact .fin (⟨guard_eq, fun hc => yld_call rfl cal_rat_Rat_Num rfl (cRatNum (h22.1 (by revert hc; exact fun h => h)))⟩)) ?_
    refine sg (c := (x7 == true)) 21 [6] (fun w4 hw4 => by rintro _ rfl; exact .fin (⟨guard_eq, fun hc => yld_loadBox rfl rfl aggRat (B7.grow hw4) (shRat _)⟩)) ?_
    refine sg (c := (x7 == true)) 21 [6, 9] (fun w4 hw4 => by rintro _ rfl v24 h24; exact .fin (⟨guard_eq, fun hc => yld_call rfl cal_rat_Rat_Num rfl (cRatNum (h24.1 (by revert hc; exact fun h => h)))⟩)) ?_
    refine sg (c := (x7 == true)) 21 [6, 8, 10] (fun w4 hw4 => by rintro _ rfl v23 h23 v25 h25; exact .fin (⟨guard_eq, fun hc => yld_call rfl cal_integer_Cmp rfl (cIntCmp (h23.1 (by revert hc; exact fun h => h)) (h25.1 (by revert hc; exact fun h => h)))⟩)) ?_
    refine sg (c := (x7 == true)) 21 [6, 11] (fun w4 hw4 => by rintro _ rfl v26 h26; exact .fin (⟨guard_eq, fun hc => yld_eqTo (c := .bool ((cmpV q.num ((Rat.divInt p d).num) : Int) == (0 : Int))) (yld_eql rfl (show v26 = .int .i64 (cmpV q.num ((Rat.divInt p d).num)) from (h26.1 (by revert hc; exact fun h => h))) rfl ⟨Grow.refl _, rfl⟩) (congrArg Value.bool ex8.symm)⟩)) ?_
    refine so [6, 12] (fun w4 hw4 => by rintro _ rfl v27 h27; exact .fin (yld_eqTo (c := .bool ((x7 && x8))) (yld_pick_and rfl rfl (fun ht => h27.1 (by revert ht; cases x7 <;> decide)) rfl ⟨Grow.refl _, rfl⟩) (congrArg Value.bool ex9.symm))) ?_
    refine so [13] (fun w4 hw4 => by rintro _ rfl; exact .fin (yld_move rfl ⟨Grow.refl _, rfl⟩)) ?_
    refine sg (c := (x9 == true)) 29 [14] (fun w4 hw4 => by rintro _ rfl; exact .fin (⟨guard_eq, fun hc => yld_loadBox rfl rfl aggRat (B3.grow hw4) (shRat _)⟩)) ?_
    refine sg (c := (x9 == true)) 29 [14, 15] (fun w4 hw4 => by rintro _ rfl v30 h30; exact .fin (⟨guard_eq, fun hc => yld_call rfl cal_rat_Rat_Den rfl (cRatDen (h30.1 (by revert hc; exact fun h => h)))⟩)) ?_
    refine sg (c := (x9 == true)) 29 [14] (fun w4 hw4 => by rintro _ rfl; exact .fin (⟨guard_eq, fun hc => yld_loadBox rfl rfl aggRat (B7.grow hw4) (shRat _)⟩)) ?_
    refine sg (c := (x9 == true)) 29 [14, 17] (fun w4 hw4 => by rintro _ rfl v32 h32; exact .fin (⟨guard_eq, fun hc => yld_call rfl cal_rat_Rat_Den rfl (cRatDen (h32.1 (by revert hc; exact fun h => h)))⟩)) ?_
    refine sg (c := (x9 == true)) 29 [14, 16, 18] (fun w4 hw4 => by rintro _ rfl v31 h31 v33 h33; exact .fin (⟨guard_eq, fun hc => yld_call rfl cal_nat_Cmp rfl (cNatCmp (h31.1 (by revert hc; exact fun h => h)) (h33.1 (by revert hc; exact fun h => h)))⟩)) ?_
    refine sg (c := (x9 == true)) 29 [14, 19] (fun w4 hw4 => by rintro _ rfl v34 h34; exact .fin (⟨guard_eq, fun hc => yld_eqTo (c := .bool ((cmpV ((q.den : Nat)) (((Rat.divInt p d).den : Nat)) : Int) == (0 : Int))) (yld_eql rfl (show v34 = .int .i64 (cmpV ((q.den : Nat)) (((Rat.divInt p d).den : Nat))) from (h34.1 (by revert hc; exact fun h => h))) rfl ⟨Grow.refl _, rfl⟩) (congrArg Value.bool ex10.symm)⟩)) ?_
    refine so [14, 20] (fun w4 hw4 => by rintro _ rfl v35 h35; exact .fin (yld_eqTo (c := .bool ((x9 && x10))) (yld_pick_and rfl rfl (fun ht => h35.1 (by revert ht; cases x9 <;> decide)) rfl ⟨Grow.refl _, rfl⟩) (congrArg Value.bool ex11.symm))) ?_
    exact so [21] (fun w4 hw4 => by rintro _ rfl; exact .fin (yld_assign rfl ⟨Grow.refl _, rfl⟩)) (.nil _ _)
  rintro w4 hw4 _ rfl _ rfl v17 - v18 - v19 - _ rfl _ rfl v22 - v23 - v24 - v25 - v26 - v27 - _ rfl _ rfl v30 - v31 - v32 - v33 - v34 - v35 - _ rfl _ rfl -
  have W4 : Grow w w4 := W3.trans hw4
  subst ex5
  subst ex6
  subst ex7
  subst ex8
  subst ex9
  subst ex10
  subst ex11
  refine fr [va, .int .i64 (p), .int .i64 (d), pt b3, u, u, .bool ((((((((!decide (d = 0)) && (decide (q = (Rat.divInt p d))))) && ((cmpV q.num ((Rat.divInt p d).num) : Int) == (0 : Int)))) && ((cmpV ((q.den : Nat)) (((Rat.divInt p d).den : Nat)) : Int) == (0 : Int))))), pt b7, .bool (!decide (d = 0)), v9, v10, v11, v12, v13, .bool (!decide (d = 0)), .bool ((!decide (d = 0))), .bool ((!decide (d = 0))), v17, v18, v19, .bool ((((!decide (d = 0)) && (decide (q = (Rat.divInt p d)))))), .bool ((((!decide (d = 0)) && (decide (q = (Rat.divInt p d)))))), v22, v23, v24, v25, v26, v27, .bool ((((((!decide (d = 0)) && (decide (q = (Rat.divInt p d))))) && ((cmpV q.num ((Rat.divInt p d).num) : Int) == (0 : Int))))), .bool ((((((!decide (d = 0)) && (decide (q = (Rat.divInt p d))))) && ((cmpV q.num ((Rat.divInt p d).num) : Int) == (0 : Int))))), v30, v31, v32, v33, v34, v35, .bool ((((((((!decide (d = 0)) && (decide (q = (Rat.divInt p d))))) && ((cmpV q.num ((Rat.divInt p d).num) : Int) == (0 : Int)))) && ((cmpV ((q.den : Nat)) (((Rat.divInt p d).den : Nat)) : Int) == (0 : Int)))))] ?_
  refine nx ?_
  refine wp_ret ?_
  change bodyPost Try.prog Try.f54 (Ret (.eq (.bool (decide (q = Rat.divInt p d)))) w) .ret _ _
  exact body_slot rfl (by show Value.bool _ = Value.bool _; rw [show ((((((((!decide (d = 0)) && (decide (q = (Rat.divInt p d))))) && ((cmpV q.num ((Rat.divInt p d).num) : Int) == (0 : Int)))) && ((cmpV ((q.den : Nat)) (((Rat.divInt p d).den : Nat)) : Int) == (0 : Int))))) = (decide (q = Rat.divInt p d)) from (is_eq hd)]) rfl W4
set_option maxRecDepth 100000 in
set_option maxHeartbeats 2000000 in
theorem cIs2 {x : Nat} {l : List Nat} {va : Value} {vb : Value} {w : World}  (ha : (MR.nat (x)).R w va) (hb : (MR.lits (l)).R w vb) (hl : nw x = l.length) (he : ∀ i, i < l.length → wd x i = l.getD i 0) (hsm : l.length ≤ 1099511627776) : Calls Try.prog 61 #[va, vb] w (Ret (.eq (.bool (true))) w) := by
  have _ := hsm
  refine calls_enter (a := ⟨List.toArray ([va, vb] ++ us 44), []⟩) Try.func61 rfl (by kernel_rfl) ?_
  have NL : NoLook (bodyPost Try.prog Try.f61 (Ret (.eq (.bool (true))) w)) := noLook_body
  refine wp_seq ?_
  refine rg (fun c d v a w h => NL c d v a w h) [(2, .ptr 33 (.nat (x))), (4, .eq (.bool (false)))] [0] [] [] 46 2 ?_ ?_
  · refine sn [] (fun w1 hw1 => .fin (yld_newBox rfl rfl (MR.mono _ hw1 ha))) ?_
    exact so [] (fun w1 hw1 => .fin (yld_assign rfl ⟨Grow.refl _, rfl⟩)) (.nil _ _)
  rintro w1 hw1 _ ⟨b2, rfl, B2⟩ _ rfl hN
  have W1 : Grow w w1 := (Grow.refl w).trans hw1
  clear hN
  replace ha := MR.mono _ hw1 ha
  replace hb := MR.mono _ hw1 hb
  refine fr ([va, vb, pt b2, u, .bool (false)] ++ us 41) ?_
  refine nx ?_
  refine wp_seq ?_
  refine rg (fun c d v a w h => NL c d v a w h) [(7, .nat (x)), (8, .uns (wd (x)) (nw (x))), (5, .uns (wd (x)) (nw (x)))] [] [] [] 46 3 ?_ ?_
  · refine so [] (fun w2 hw2 => .fin (yld_loadBox rfl rfl aggNat (B2.grow hw2) (shNat _))) ?_
    refine so [0] (fun w2 hw2 => by rintro v7 h7; exact .fin (yld_call rfl cal_nat_Nat_Words rfl (cNatWords h7))) ?_
    exact so [1] (fun w2 hw2 => by rintro v8 h8; exact .fin (yld_assign rfl ⟨Grow.refl _, h8⟩)) (.nil _ _)
  rintro w2 hw2 v7 - v8 - v5 h5 -
  have W2 : Grow w w2 := W1.trans hw2
  replace B2 := B2.grow hw2
  replace ha := MR.mono _ hw2 ha
  replace hb := MR.mono _ hw2 hb
  refine fr ([va, vb, pt b2, u, .bool (false), v5, u, v7, v8] ++ us 37) ?_
  refine nx ?_
  refine wp_seq ?_
  refine wp_seq ?_
  obtain ⟨x4, ex4⟩ : ∃ c : Bool, c = ((((nw (x) : Nat) : Int) : Int) != (((l.length : Nat) : Int) : Int)) := ⟨_, rfl⟩
  obtain ⟨x5, ex5⟩ : ∃ c : Bool, c = ((((nw x : Nat) : Int) : Int) != (((nw (x) : Nat) : Int) : Int)) := ⟨_, rfl⟩
  obtain ⟨x6, ex6⟩ : ∃ c : Bool, c = ((x4 || x5)) := ⟨_, rfl⟩
  refine rg (fun c d v a w h => NL c d v a w h) [(9, .uns (wd (x)) (nw (x))), (10, .eq (.int .i64 (((nw (x) : Nat) : Int)))), (11, .lits (l)), (12, .eq (.int .i64 (((l.length : Nat) : Int)))), (13, .eq (.bool (x4))), (14, .eq (.bool (x4))), (15, .opt ((x4 == false)) (.nat (x))), (16, .opt ((x4 == false)) (.eq (.int .i64 (((nw x : Nat) : Int))))), (17, .opt ((x4 == false)) (.uns (wd (x)) (nw (x)))), (18, .opt ((x4 == false)) (.eq (.int .i64 (((nw (x) : Nat) : Int))))), (19, .opt ((x4 == false)) (.eq (.bool (x5)))), (20, .eq (.bool (x6)))] [] [] [] 46 12 ?_ ?_
  · refine so [] (fun w3 hw3 => .fin (yld_move rfl ⟨Grow.refl _, (MR.mono _ hw3 h5)⟩)) ?_
    refine so [0] (fun w3 hw3 => by rintro v9 h9; exact .fin (yld_lenU rfl h9)) ?_
    refine so [] (fun w3 hw3 => .fin (yld_move rfl ⟨Grow.refl _, (MR.mono _ hw3 hb)⟩)) ?_
    refine so [2] (fun w3 hw3 => by rintro v11 h11; exact .fin (yld_lenL rfl h11)) ?_
    refine so [1, 3] (fun w3 hw3 => by rintro _ rfl _ rfl; exact .fin (yld_eqTo (c := .bool ((((nw (x) : Nat) : Int) : Int) != (((l.length : Nat) : Int) : Int))) (yld_neq rfl rfl rfl ⟨Grow.refl _, rfl⟩) (congrArg Value.bool ex4.symm))) ?_
    refine so [4] (fun w3 hw3 => by rintro _ rfl; exact .fin (yld_move rfl ⟨Grow.refl _, rfl⟩)) ?_
    refine sg (c := (x4 == false)) 14 [5] (fun w3 hw3 => by rintro _ rfl; exact .fin (⟨guard_eq, fun hc => yld_loadBox rfl rfl aggNat (B2.grow hw3) (shNat _)⟩)) ?_
    refine sg (c := (x4 == false)) 14 [5, 6] (fun w3 hw3 => by rintro _ rfl v15 h15; exact .fin (⟨guard_eq, fun hc => yld_call rfl cal_nat_Nat_Len rfl (cNatLen (h15.1 (by revert hc; exact fun h => h)))⟩)) ?_
    refine sg (c := (x4 == false)) 14 [5] (fun w3 hw3 => by rintro _ rfl; exact .fin (⟨guard_eq, fun hc => yld_move rfl ⟨Grow.refl _, (MR.mono _ hw3 h5)⟩⟩)) ?_
    refine sg (c := (x4 == false)) 14 [5, 8] (fun w3 hw3 => by rintro _ rfl v17 h17; exact .fin (⟨guard_eq, fun hc => yld_lenU rfl (h17.1 (by revert hc; exact fun h => h))⟩)) ?_
    refine sg (c := (x4 == false)) 14 [5, 7, 9] (fun w3 hw3 => by rintro _ rfl v16 h16 v18 h18; exact .fin (⟨guard_eq, fun hc => yld_eqTo (c := .bool ((((nw x : Nat) : Int) : Int) != (((nw (x) : Nat) : Int) : Int))) (yld_neq rfl (show v16 = .int .i64 (((nw x : Nat) : Int)) from (h16.1 (by revert hc; exact fun h => h))) (show v18 = .int .i64 (((nw (x) : Nat) : Int)) from (h18.1 (by revert hc; exact fun h => h))) ⟨Grow.refl _, rfl⟩) (congrArg Value.bool ex5.symm)⟩)) ?_
    exact so [5, 10] (fun w3 hw3 => by rintro _ rfl v19 h19; exact .fin (yld_eqTo (c := .bool ((x4 || x5))) (yld_pick_or rfl rfl rfl (fun ht => h19.1 (by revert ht; cases x4 <;> decide)) ⟨Grow.refl _, rfl⟩) (congrArg Value.bool ex6.symm))) (.nil _ _)
  rintro w3 hw3 v9 - v10 - v11 - v12 - _ rfl _ rfl v15 - v16 - v17 - v18 - v19 - _ rfl -
  have W3 : Grow w w3 := W2.trans hw3
  replace B2 := B2.grow hw3
  replace ha := MR.mono _ hw3 ha
  replace hb := MR.mono _ hw3 hb
  replace h5 := MR.mono _ hw3 h5
  subst ex4
  subst ex5
  subst ex6
  refine fr ([va, vb, pt b2, u, .bool (false), v5, u, v7, v8, v9, v10, v11, v12, .bool (((((nw (x) : Nat) : Int) : Int) != (((l.length : Nat) : Int) : Int))), .bool (((((nw (x) : Nat) : Int) : Int) != (((l.length : Nat) : Int) : Int))), v15, v16, v17, v18, v19, .bool (((((((nw (x) : Nat) : Int) : Int) != (((l.length : Nat) : Int) : Int)) || ((((nw x : Nat) : Int) : Int) != (((nw (x) : Nat) : Int) : Int)))))] ++ us 25) ?_
  refine nx ?_
  have hc6 : (((((((nw (x) : Nat) : Int) : Int) != (((l.length : Nat) : Int) : Int)) || ((((nw x : Nat) : Int) : Int) != (((nw (x) : Nat) : Int) : Int))))) = false := by simp [hl]
  refine wp_cond_false (by show Value.bool _ = _; rw [hc6]) ?_
  refine wp_skip ?_
  change Code.wp _ _ _ ⟨_, []⟩ _
  refine wp_seq ?_
  refine wp_seq ?_
  refine rg (fun c d v a w h => NL c d v a w h) [(6, .eq (.int .i64 (0)))] [] [] [] 46 1 ?_ ?_
  · exact so [] (fun w8 hw8 => .fin (yld_assign rfl ⟨Grow.refl _, rfl⟩)) (.nil _ _)
  rintro w8 hw8 _ rfl -
  have W8 : Grow w w8 := W3.trans hw8
  replace B2 := B2.grow hw8
  replace ha := MR.mono _ hw8 ha
  replace hb := MR.mono _ hw8 hb
  replace h5 := MR.mono _ hw8 h5
  refine fr ([va, vb, pt b2, u, .bool (false), v5, .int .i64 (0), v7, v8, v9, v10, v11, v12, .bool (((((nw (x) : Nat) : Int) : Int) != (((l.length : Nat) : Int) : Int))), .bool (((((nw (x) : Nat) : Int) : Int) != (((l.length : Nat) : Int) : Int))), v15, v16, v17, v18, v19, .bool (((((((nw (x) : Nat) : Int) : Int) != (((l.length : Nat) : Int) : Int)) || ((((nw x : Nat) : Int) : Int) != (((nw (x) : Nat) : Int) : Int)))))] ++ us 25) ?_
  refine nx ?_
  refine wp_block ?_
  refine wp_loop_ghost (fun nn ac9 w9 => ∃ (k : Nat), nn = nw x - k ∧ (k ≤ nw x) ∧ ∃ tt9 : Nat → Value, ac9 = ⟨List.toArray [va, vb, pt b2, u, (tt9 4), v5, It k, v7, v8, v9, v10, v11, v12, .bool (((((nw (x) : Nat) : Int) : Int) != (((l.length : Nat) : Int) : Int))), .bool (((((nw (x) : Nat) : Int) : Int) != (((l.length : Nat) : Int) : Int))), v15, v16, v17, v18, v19, .bool (((((((nw (x) : Nat) : Int) : Int) != (((l.length : Nat) : Int) : Int)) || ((((nw x : Nat) : Int) : Int) != (((nw (x) : Nat) : Int) : Int))))), (tt9 21), (tt9 22), (tt9 23), (tt9 24), (tt9 25), (tt9 26), (tt9 27), (tt9 28), (tt9 29), (tt9 30), (tt9 31), (tt9 32), (tt9 33), (tt9 34), (tt9 35), (tt9 36), (tt9 37), (tt9 38), (tt9 39), (tt9 40), (tt9 41), (tt9 42), (tt9 43), (tt9 44), (tt9 45)], []⟩ ∧ Grow w w9 ∧ Box w9 b2 33 (.nat (x)) ∧ (MR.nat (x)).R w9 va ∧ (MR.lits (l)).R w9 vb ∧ (MR.uns (wd (x)) (nw (x))).R w9 v5) (nw x - 0) ⟨0, rfl, Nat.zero_le _, fun d => ([.bool (false), v5, .int .i64 (0), v7, v8, v9, v10, v11, v12, .bool (((((nw (x) : Nat) : Int) : Int) != (((l.length : Nat) : Int) : Int))), .bool (((((nw (x) : Nat) : Int) : Int) != (((l.length : Nat) : Int) : Int))), v15, v16, v17, v18, v19, .bool (((((((nw (x) : Nat) : Int) : Int) != (((l.length : Nat) : Int) : Int)) || ((((nw x : Nat) : Int) : Int) != (((nw (x) : Nat) : Int) : Int))))), u, u, u, u, u, u, u, u, u, u, u, u, u, u, u, u, u, u, u, u, u, u, u, u, u] : List Value).getD (d - 4) undef, by kernel_rfl, W8, B2, ha, hb, h5⟩ ?_
  clear B2 ha hb h5
  rintro nn9 _ w9 ⟨k, hnn9, hinv, tt9, rfl, W9, B2, ha, hb, h5⟩
  refine wp_seq ?_
  refine wp_seq ?_
  refine rg (fun c d v a w h => NL c d v a w h) [(21, .eq (.int .i64 (((k : Nat) : Int)))), (22, .uns (wd (x)) (nw (x))), (23, .eq (.int .i64 (((nw (x) : Nat) : Int)))), (24, .eq (.bool (decide ((((k : Nat) : Int) : Int) < (((nw (x) : Nat) : Int) : Int)))))] [] [] [] 46 4 ?_ ?_
  · refine so [] (fun w10 hw10 => .fin (yld_move rfl ⟨Grow.refl _, rfl⟩)) ?_
    refine so [] (fun w10 hw10 => .fin (yld_move rfl ⟨Grow.refl _, (MR.mono _ hw10 h5)⟩)) ?_
    refine so [1] (fun w10 hw10 => by rintro v22 h22; exact .fin (yld_lenU rfl h22)) ?_
    exact so [0, 2] (fun w10 hw10 => by rintro _ rfl _ rfl; exact .fin (yld_lss rfl rfl rfl ⟨Grow.refl _, rfl⟩)) (.nil _ _)
  rintro w10 hw10 v21 - v22 - v23 - _ rfl -
  have W10 : Grow w w10 := W9.trans hw10
  replace B2 := B2.grow hw10
  replace ha := MR.mono _ hw10 ha
  replace hb := MR.mono _ hw10 hb
  replace h5 := MR.mono _ hw10 h5
  refine fr [va, vb, pt b2, u, (tt9 4), v5, It k, v7, v8, v9, v10, v11, v12, .bool (((((nw (x) : Nat) : Int) : Int) != (((l.length : Nat) : Int) : Int))), .bool (((((nw (x) : Nat) : Int) : Int) != (((l.length : Nat) : Int) : Int))), v15, v16, v17, v18, v19, .bool (((((((nw (x) : Nat) : Int) : Int) != (((l.length : Nat) : Int) : Int)) || ((((nw x : Nat) : Int) : Int) != (((nw (x) : Nat) : Int) : Int))))), v21, v22, v23, .bool (decide ((((k : Nat) : Int) : Int) < (((nw (x) : Nat) : Int) : Int))), (tt9 25), (tt9 26), (tt9 27), (tt9 28), (tt9 29), (tt9 30), (tt9 31), (tt9 32), (tt9 33), (tt9 34), (tt9 35), (tt9 36), (tt9 37), (tt9 38), (tt9 39), (tt9 40), (tt9 41), (tt9 42), (tt9 43), (tt9 44), (tt9 45)] ?_
  refine nx ?_
  refine wp_cond_split (t := decide ((((k : Nat) : Int) : Int) < (((nw (x) : Nat) : Int) : Int))) rfl (fun hc1 => ?_) (fun hc1 => ?_)
  · have hk : k < nw x := by have := of_decide_eq_true hc1; omega
    refine wp_skip ?_
    change Code.wp _ _ _ ⟨_, []⟩ _
    refine wp_seq ?_
    refine wp_block ?_
    refine wp_seq ?_
    obtain ⟨x12, ex12⟩ : ∃ c : Bool, c = (((((wd (x)) k : Nat) : Int) : Int) != (((l.getD k 0 : Nat) : Int) : Int)) := ⟨_, rfl⟩
    obtain ⟨x13, ex13⟩ : ∃ c : Bool, c = ((((wd x k : Nat) : Int) : Int) != ((((wd (x)) k : Nat) : Int) : Int)) := ⟨_, rfl⟩
    obtain ⟨x14, ex14⟩ : ∃ c : Bool, c = ((x12 || x13)) := ⟨_, rfl⟩
    refine rg (fun c d v a w h => NL c d v a w h) [(27, .uns (wd (x)) (nw (x))), (28, .eq (.int .i64 (((k : Nat) : Int)))), (29, .wptr ((wd (x)) k)), (30, .eq (.int .u64 ((((wd (x)) k : Nat) : Int)))), (31, .lits (l)), (32, .eq (.int .i64 (((k : Nat) : Int)))), (33, .wptr (l.getD k 0)), (34, .eq (.int .u64 (((l.getD k 0 : Nat) : Int)))), (35, .eq (.bool (x12))), (36, .eq (.bool (x12))), (37, .opt ((x12 == false)) (.nat (x))), (38, .opt ((x12 == false)) (.eq (.int .i64 (((k : Nat) : Int))))), (39, .opt ((x12 == false)) (.eq (.int .u64 (((wd x k : Nat) : Int))))), (40, .opt ((x12 == false)) (.uns (wd (x)) (nw (x)))), (41, .opt ((x12 == false)) (.eq (.int .i64 (((k : Nat) : Int))))), (42, .opt ((x12 == false)) (.wptr ((wd (x)) k))), (43, .opt ((x12 == false)) (.eq (.int .u64 ((((wd (x)) k : Nat) : Int))))), (44, .opt ((x12 == false)) (.eq (.bool (x13)))), (45, .eq (.bool (x14)))] [] [] [] 46 19 ?_ ?_
    · refine so [] (fun w11 hw11 => .fin (yld_move rfl ⟨Grow.refl _, (MR.mono _ hw11 h5)⟩)) ?_
      refine so [] (fun w11 hw11 => .fin (yld_move rfl ⟨Grow.refl _, rfl⟩)) ?_
      refine so [0, 1] (fun w11 hw11 => by rintro v27 h27 _ rfl; exact .fin (yld_indexU (k := k) rfl h27 rfl (hk))) ?_
      refine so [2] (fun w11 hw11 => by rintro v29 h29; exact .fin (yld_loadW rfl h29)) ?_
      refine so [] (fun w11 hw11 => .fin (yld_move rfl ⟨Grow.refl _, (MR.mono _ hw11 hb)⟩)) ?_
      refine so [] (fun w11 hw11 => .fin (yld_move rfl ⟨Grow.refl _, rfl⟩)) ?_
      refine so [4, 5] (fun w11 hw11 => by rintro v31 h31 _ rfl; exact .fin (yld_indexL (k := k) rfl h31 rfl (by omega))) ?_
      refine so [6] (fun w11 hw11 => by rintro v33 h33; exact .fin (yld_loadW rfl h33)) ?_
      refine so [3, 7] (fun w11 hw11 => by rintro _ rfl _ rfl; exact .fin (yld_eqTo (c := .bool (((((wd (x)) k : Nat) : Int) : Int) != (((l.getD k 0 : Nat) : Int) : Int))) (yld_neq rfl rfl rfl ⟨Grow.refl _, rfl⟩) (congrArg Value.bool ex12.symm))) ?_
      refine so [8] (fun w11 hw11 => by rintro _ rfl; exact .fin (yld_move rfl ⟨Grow.refl _, rfl⟩)) ?_
      refine sg (c := (x12 == false)) 36 [9] (fun w11 hw11 => by rintro _ rfl; exact .fin (⟨guard_eq, fun hc => yld_loadBox rfl rfl aggNat (B2.grow hw11) (shNat _)⟩)) ?_
      refine sg (c := (x12 == false)) 36 [9] (fun w11 hw11 => by rintro _ rfl; exact .fin (⟨guard_eq, fun hc => yld_move rfl ⟨Grow.refl _, rfl⟩⟩)) ?_
      refine sg (c := (x12 == false)) 36 [9, 10, 11] (fun w11 hw11 => by rintro _ rfl v37 h37 v38 h38; exact .fin (⟨guard_eq, fun hc => (by have ev38 : v38 = .int .i64 (((k : Nat) : Int)) := (show v38 = .int .i64 (((k : Nat) : Int)) from (h38.1 (by revert hc; exact fun h => h))); subst ev38; exact yld_call rfl cal_nat_Nat_Word rfl (cNatWord (k := k) (h37.1 (by revert hc; exact fun h => h))))⟩)) ?_
      refine sg (c := (x12 == false)) 36 [9] (fun w11 hw11 => by rintro _ rfl; exact .fin (⟨guard_eq, fun hc => yld_move rfl ⟨Grow.refl _, (MR.mono _ hw11 h5)⟩⟩)) ?_
      refine sg (c := (x12 == false)) 36 [9] (fun w11 hw11 => by rintro _ rfl; exact .fin (⟨guard_eq, fun hc => yld_move rfl ⟨Grow.refl _, rfl⟩⟩)) ?_
      refine sg (c := (x12 == false)) 36 [9, 13, 14] (fun w11 hw11 => by rintro _ rfl v40 h40 v41 h41; exact .fin (⟨guard_eq, fun hc => yld_indexU (k := k) rfl (h40.1 (by revert hc; exact fun h => h)) (show v41 = .int .i64 (((k : Nat) : Int)) from (h41.1 (by revert hc; exact fun h => h))) (hk)⟩)) ?_
      refine sg (c := (x12 == false)) 36 [9, 15] (fun w11 hw11 => by rintro _ rfl v42 h42; exact .fin (⟨guard_eq, fun hc => yld_loadW rfl (h42.1 (by revert hc; exact fun h => h))⟩)) ?_
      refine sg (c := (x12 == false)) 36 [9, 12, 16] (fun w11 hw11 => by rintro _ rfl v39 h39 v43 h43; exact .fin (⟨guard_eq, fun hc => yld_eqTo (c := .bool ((((wd x k : Nat) : Int) : Int) != ((((wd (x)) k : Nat) : Int) : Int))) (yld_neq rfl (show v39 = .int .u64 (((wd x k : Nat) : Int)) from (h39.1 (by revert hc; exact fun h => h))) (show v43 = .int .u64 ((((wd (x)) k : Nat) : Int)) from (h43.1 (by revert hc; exact fun h => h))) ⟨Grow.refl _, rfl⟩) (congrArg Value.bool ex13.symm)⟩)) ?_
      exact so [9, 17] (fun w11 hw11 => by rintro _ rfl v44 h44; exact .fin (yld_eqTo (c := .bool ((x12 || x13))) (yld_pick_or rfl rfl rfl (fun ht => h44.1 (by revert ht; cases x12 <;> decide)) ⟨Grow.refl _, rfl⟩) (congrArg Value.bool ex14.symm))) (.nil _ _)
    rintro w11 hw11 v27 - v28 - v29 - v30 - v31 - v32 - v33 - v34 - _ rfl _ rfl v37 - v38 - v39 - v40 - v41 - v42 - v43 - v44 - _ rfl -
    have W11 : Grow w w11 := W10.trans hw11
    replace B2 := B2.grow hw11
    replace ha := MR.mono _ hw11 ha
    replace hb := MR.mono _ hw11 hb
    replace h5 := MR.mono _ hw11 h5
    subst ex12
    subst ex13
    subst ex14
    refine fr [va, vb, pt b2, u, (tt9 4), v5, It k, v7, v8, v9, v10, v11, v12, .bool (((((nw (x) : Nat) : Int) : Int) != (((l.length : Nat) : Int) : Int))), .bool (((((nw (x) : Nat) : Int) : Int) != (((l.length : Nat) : Int) : Int))), v15, v16, v17, v18, v19, .bool (((((((nw (x) : Nat) : Int) : Int) != (((l.length : Nat) : Int) : Int)) || ((((nw x : Nat) : Int) : Int) != (((nw (x) : Nat) : Int) : Int))))), v21, v22, v23, .bool (decide ((((k : Nat) : Int) : Int) < (((nw (x) : Nat) : Int) : Int))), (tt9 25), (tt9 26), v27, v28, v29, v30, v31, v32, v33, v34, .bool ((((((wd (x)) k : Nat) : Int) : Int) != (((l.getD k 0 : Nat) : Int) : Int))), .bool ((((((wd (x)) k : Nat) : Int) : Int) != (((l.getD k 0 : Nat) : Int) : Int))), v37, v38, v39, v40, v41, v42, v43, v44, .bool ((((((((wd (x)) k : Nat) : Int) : Int) != (((l.getD k 0 : Nat) : Int) : Int)) || ((((wd x k : Nat) : Int) : Int) != ((((wd (x)) k : Nat) : Int) : Int)))))] ?_
    refine nx ?_
    have hc14 : ((((((((wd (x)) k : Nat) : Int) : Int) != (((l.getD k 0 : Nat) : Int) : Int)) || ((((wd x k : Nat) : Int) : Int) != ((((wd (x)) k : Nat) : Int) : Int))))) = false := by rw [he k (by omega)]; simp
    refine wp_cond_false (by show Value.bool _ = _; rw [hc14]) ?_
    refine wp_skip ?_
    change Code.wp _ _ _ ⟨_, []⟩ _
    refine rg (fun c d v a w h => NL c d v a w h) [(25, .eq (.int .i64 (((k : Nat) : Int)))), (26, .eq (.int .i64 (((k + 1 : Nat) : Int))))] [] [] [] 46 2 ?_ ?_
    · refine so [] (fun w16 hw16 => .fin (yld_move rfl ⟨Grow.refl _, rfl⟩)) ?_
      exact so [0] (fun w16 hw16 => by rintro _ rfl; exact .fin (yld_add rfl rfl rfl (r := ((k + 1 : Nat) : Int)) (by rw [IntKind.wrap_i64]; omega) ⟨Grow.refl _, rfl⟩)) (.nil _ _)
    rintro w16 hw16 v25 - _ rfl -
    have W16 : Grow w w16 := W11.trans hw16
    replace B2 := B2.grow hw16
    replace ha := MR.mono _ hw16 ha
    replace hb := MR.mono _ hw16 hb
    replace h5 := MR.mono _ hw16 h5
    have KK : Kept [] w16 w16 := fun _ _ => rfl
    refine fr [va, vb, pt b2, u, (tt9 4), v5, It k, v7, v8, v9, v10, v11, v12, .bool (((((nw (x) : Nat) : Int) : Int) != (((l.length : Nat) : Int) : Int))), .bool (((((nw (x) : Nat) : Int) : Int) != (((l.length : Nat) : Int) : Int))), v15, v16, v17, v18, v19, .bool (((((((nw (x) : Nat) : Int) : Int) != (((l.length : Nat) : Int) : Int)) || ((((nw x : Nat) : Int) : Int) != (((nw (x) : Nat) : Int) : Int))))), v21, v22, v23, .bool (decide ((((k : Nat) : Int) : Int) < (((nw (x) : Nat) : Int) : Int))), v25, It (k + 1), v27, v28, v29, v30, v31, v32, v33, v34, .bool ((((((wd (x)) k : Nat) : Int) : Int) != (((l.getD k 0 : Nat) : Int) : Int))), .bool ((((((wd (x)) k : Nat) : Int) : Int) != (((l.getD k 0 : Nat) : Int) : Int))), v37, v38, v39, v40, v41, v42, v43, v44, .bool ((((((((wd (x)) k : Nat) : Int) : Int) != (((l.getD k 0 : Nat) : Int) : Int)) || ((((wd x k : Nat) : Int) : Int) != ((((wd (x)) k : Nat) : Int) : Int)))))] ?_
    change wpListS _ _ _ _ [_] ⟨_, []⟩ _
    refine wpListS_yld rfl ?_
    refine yld_assign rfl ⟨fun _ => KK, ?_⟩
    refine wpListS_nil ?_
    refine ⟨_, ?_, k + 1, rfl, (by omega), fun d => ([(tt9 4), v5, It (k + 1), v7, v8, v9, v10, v11, v12, .bool (((((nw (x) : Nat) : Int) : Int) != (((l.length : Nat) : Int) : Int))), .bool (((((nw (x) : Nat) : Int) : Int) != (((l.length : Nat) : Int) : Int))), v15, v16, v17, v18, v19, .bool (((((((nw (x) : Nat) : Int) : Int) != (((l.length : Nat) : Int) : Int)) || ((((nw x : Nat) : Int) : Int) != (((nw (x) : Nat) : Int) : Int))))), v21, v22, v23, .bool (decide ((((k : Nat) : Int) : Int) < (((nw (x) : Nat) : Int) : Int))), v25, It (k + 1), v27, v28, v29, v30, v31, v32, v33, v34, .bool ((((((wd (x)) k : Nat) : Int) : Int) != (((l.getD k 0 : Nat) : Int) : Int))), .bool ((((((wd (x)) k : Nat) : Int) : Int) != (((l.getD k 0 : Nat) : Int) : Int))), v37, v38, v39, v40, v41, v42, v43, v44, .bool ((((((((wd (x)) k : Nat) : Int) : Int) != (((l.getD k 0 : Nat) : Int) : Int)) || ((((wd x k : Nat) : Int) : Int) != ((((wd (x)) k : Nat) : Int) : Int)))))] : List Value).getD (d - 4) undef, by kernel_rfl, W16, B2, ha, hb, h5⟩
    rw [hnn9]; omega
  · refine wp_exit ?_
    change Code.wp _ _ _ ⟨_, []⟩ _
    refine wp_seq ?_
    refine rg (fun c d v a w h => NL c d v a w h) [(4, .eq (.bool (true)))] [] [] [] 46 1 ?_ ?_
    · exact so [] (fun w17 hw17 => .fin (yld_assign rfl ⟨Grow.refl _, rfl⟩)) (.nil _ _)
    rintro w17 hw17 _ rfl -
    have W17 : Grow w w17 := W10.trans hw17
    refine fr [va, vb, pt b2, u, .bool (true), v5, It k, v7, v8, v9, v10, v11, v12, .bool (((((nw (x) : Nat) : Int) : Int) != (((l.length : Nat) : Int) : Int))), .bool (((((nw (x) : Nat) : Int) : Int) != (((l.length : Nat) : Int) : Int))), v15, v16, v17, v18, v19, .bool (((((((nw (x) : Nat) : Int) : Int) != (((l.length : Nat) : Int) : Int)) || ((((nw x : Nat) : Int) : Int) != (((nw (x) : Nat) : Int) : Int))))), v21, v22, v23, .bool (decide ((((k : Nat) : Int) : Int) < (((nw (x) : Nat) : Int) : Int))), (tt9 25), (tt9 26), (tt9 27), (tt9 28), (tt9 29), (tt9 30), (tt9 31), (tt9 32), (tt9 33), (tt9 34), (tt9 35), (tt9 36), (tt9 37), (tt9 38), (tt9 39), (tt9 40), (tt9 41), (tt9 42), (tt9 43), (tt9 44), (tt9 45)] ?_
    refine nx ?_
    refine wp_ret ?_
    change bodyPost Try.prog Try.f61 (Ret (.eq (.bool (true))) w) .ret _ _
    exact body_slot rfl rfl rfl W17
end Go.Proofs.Ytknflfnkdieomaa
