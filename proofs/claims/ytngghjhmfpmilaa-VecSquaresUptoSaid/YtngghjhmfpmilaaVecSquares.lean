/- actuarylaw10.VecSquares, its walk. -/
import Derived.Test.YtngghjhmfpmilaaVecP
import Derived.Deep.LoopGhost
namespace Go.Proofs.Ytngghjhmfpmilaa
open Go.RowKit
theorem cal_actuarylaw10_awake : Callable Try.prog 11 := callable_of Try.func11 rfl (by kernel_rfl)
theorem cal_actuarylaw10_Make : Callable Try.prog 12 := callable_of Try.func12 rfl (by kernel_rfl)
theorem cal_rat_Rat_Sign : Callable Try.prog 23 := callable_of Try.func23 rfl (by kernel_rfl)
theorem cal_vec_Vec_Zero : Callable Try.prog 25 := callable_of Try.func25 rfl (by kernel_rfl)
set_option maxRecDepth 100000 in
set_option maxHeartbeats 2000000 in
theorem vecSquares {Pa Da : Nat → Int} {na : Nat}  {va : Value} {w : World}  (ha : (MR.sl (fun k => w.heap.size ≤ k) 2 (fun i => .eq (.agg #[.int .i64 (Pa i), .int .i64 (Da i)])) (na)).R w va) (hna : na ≤ 1048576) (hra : ∀ i, i < na → R64 (Pa i) ∧ R64 (Da i))  : Calls Try.prog 5 #[va] w (Ret (.eq (.bool (true))) w) := by
  obtain ⟨Qa, hQa⟩ : ∃ q : Nat → Rat, q = fun j0 => fracQ (Pa j0) (Da j0) := ⟨_, rfl⟩
  have sQa : ∀ i, i < na → szq (Qa i) ≤ 2 := fun i hi => by rw [hQa]; exact szq_frac (hra i hi).1 (hra i hi).2
  have hB := Nat.le_refl w.heap.size
  refine calls_enter (a := ⟨List.toArray ([va] ++ us 28), []⟩) Try.func5 rfl (by kernel_rfl) ?_
  have NL : NoLook (bodyPost Try.prog Try.f5 (Ret (.eq (.bool (true))) w)) := noLook_body
  refine wp_seq ?_
  refine rg (fun c d v a w h => NL c d v a w h) [(2, .eq (.bool (false)))] [] [] [] 29 1 ?_ ?_
  · exact so [] (fun w1 hw1 => .fin (yld_assign rfl ⟨Grow.refl _, rfl⟩)) (.nil _ _)
  rintro w1 hw1 _ rfl -
  have W1 : Grow w w1 := (Grow.refl w).trans hw1
  have z1 : w.heap.size ≤ w1.heap.size := hw1.size
  replace ha := MR.mono _ hw1 ha
  refine fr ([va, u, .bool (false)] ++ us 26) ?_
  refine nx ?_
  refine wp_seq ?_
  refine wp_seq ?_
  refine rg (fun c d v a w h => NL c d v a w h) [(6, .eq (.bool (true))), (7, .eq (.bool (!true)))] [] [] [] 29 2 ?_ ?_
  · refine so [] (fun w2 hw2 => .fin (yld_call rfl cal_actuarylaw10_awake rfl (cAwake10))) ?_
    exact so [0] (fun w2 hw2 => by rintro _ rfl; exact .fin (yld_not rfl rfl ⟨Grow.refl _, rfl⟩)) (.nil _ _)
  rintro w2 hw2 _ rfl _ rfl -
  have W2 : Grow w w2 := W1.trans hw2
  have z2 : w1.heap.size ≤ w2.heap.size := hw2.size
  replace ha := MR.mono _ hw2 ha
  refine fr ([va, u, .bool (false), u, u, u, .bool (true), .bool (!true)] ++ us 21) ?_
  refine nx ?_
  refine wp_cond_false rfl ?_
  refine wp_skip ?_
  change Code.wp _ _ _ ⟨_, []⟩ _
  refine wp_seq ?_
  refine rg (fun c d v a w h => NL c d v a w h) [(8, .sl (fun k => w.heap.size ≤ k) 2 (fun i => .eq (.agg #[.int .i64 (Pa i), .int .i64 (Da i)])) (na)), (9, .ownv (w.heap.size) (fun _ => False) (Qa) (na)), (3, .ownv (w.heap.size) (fun _ => False) (Qa) (na))] [] [] [] 29 3 ?_ ?_
  · refine so [] (fun w3 hw3 => .fin (yld_move rfl ⟨Grow.refl _, (MR.mono _ hw3 ha)⟩)) ?_
    refine soP [(8, .sl (fun k => w.heap.size ≤ k) 2 (fun i => .eq (.agg #[.int .i64 (Pa i), .int .i64 (Da i)])) (na))] (fun w3 hw3 => by rintro v8 h8; exact .fin (yld_as (R := .ownv (w.heap.size) (fun _ => False) (fun j0 => fracQ (Pa j0) (Da j0)) (na)) (R2 := .ownv (w.heap.size) (fun _ => False) (Qa) (na)) (yld_call rfl cal_actuarylaw10_Make rfl (cMake10 (P := Pa) (D := Da) (B := w.heap.size) (F := fun _ => False) (Grow.trans W2 hw3).size (fun _ h => h.elim) (sl_own h8 fun _ h => h.elim) (by omega) hra)) (fun h => by rw [hQa]; exact h))) ?_
    exact soP [(9, .ownv (w.heap.size) (fun _ => False) (Qa) (na))] (fun w3 hw3 => by rintro v9 h9; exact .fin (yld_assign rfl ⟨Grow.refl _, h9⟩)) (.nil _ _)
  rintro w3 hw3 v8 - v9 - v3 h3 -
  have W3 : Grow w w3 := W2.trans hw3
  have z3 : w2.heap.size ≤ w3.heap.size := hw3.size
  replace h3 := ownv_own (F' := fun k => w3.heap.size ≤ k) h3 (fun k hk => .inr hk)
  refine fr ([va, u, .bool (false), v3, u, u, .bool (true), .bool (!true), v8, v9] ++ us 19) ?_
  refine nx ?_
  refine wp_seq ?_
  refine rg (fun c d v a w h => NL c d v a w h) [(11, .eq (v3)), (12, .eq (v3)), (13, .tup2 (.rat (if na = na then dotQ Qa Qa na else 0)) (.eq (.bool (decide (na = na))))), (10, .tup2 (.rat (if na = na then dotQ Qa Qa na else 0)) (.eq (.bool (decide (na = na))))), (14, .rat (if na = na then dotQ Qa Qa na else 0)), (15, .eq (.bool (decide (na = na)))), (4, .ptr 35 (.rat (0)))] [6] [5] [] 29 7 ?_ ?_
  · refine so [] (fun w4 hw4 => .fin (yld_move rfl ⟨Grow.refl _, rfl⟩)) ?_
    refine so [] (fun w4 hw4 => .fin (yld_move rfl ⟨Grow.refl _, rfl⟩)) ?_
    refine so [0, 1] (fun w4 hw4 => by rintro v11 e11 v12 e12; subst v11; subst v12; exact .fin (yld_call rfl cal_vec_Dot rfl (cDot (vec0 (ownv_vec (MR.mono _ hw4 h3))) (vec0 (ownv_vec (MR.mono _ hw4 h3))) (dot_ok sQa sQa (by decide) hna)))) ?_
    refine so [2] (fun w4 hw4 => by rintro _ ⟨x13_0, x13_1, rfl, hx13_0, hx13_1⟩; exact .fin (yld_move rfl ⟨Grow.refl _, ⟨x13_0, x13_1, rfl, hx13_0, hx13_1⟩⟩)) ?_
    refine so [3] (fun w4 hw4 => by rintro _ ⟨x10_0, x10_1, rfl, hx10_0, hx10_1⟩; exact .fin (yld_extract rfl rfl rfl ⟨Grow.refl _, hx10_0⟩)) ?_
    refine sl [3] (fun w4 hw4 => by rintro _ ⟨x10_0, x10_1, rfl, hx10_0, hx10_1⟩; exact .fin (⟨_, fun w2 _ => pure_extract rfl rfl rfl w2, hx10_1⟩)) ?_
    exact sn [] (fun w4 hw4 => .fin (yld_newAlloc rfl zeroRat zRat)) (.nil _ _)
  rintro w4 hw4 v11 e11 v12 e12 v13 - v10 - v14 h14 _ rfl _ ⟨b4, rfl, B4⟩ hN
  have W4 : Grow w w4 := W3.trans hw4
  have z4 : w3.heap.size ≤ w4.heap.size := hw4.size
  subst v11
  subst v12
  have g_b4 : w.heap.size ≤ b4 := Nat.le_trans W3.size hN.1.1
  have y_b4 : w3.heap.size ≤ b4 ∧ b4 < w4.heap.size := hN.1
  clear hN
  replace h3 := MR.mono _ hw4 h3
  have KK : Kept [] w4 w4 := fun _ _ => rfl
  refine fr ((va :: u :: .bool (false) :: v3 :: pt b4 :: u :: .bool (true) :: .bool (!true) :: v8 :: v9 :: v10 :: v3 :: v3 :: v13 :: v14 :: .bool (decide (na = na)) :: []) ++ us 13) ?_
  change wpListS _ _ _ _ [_, _] ⟨_, []⟩ _
  refine wpListS_yld rfl ?_
  refine yld_storeBox (R' := .rat (if na = na then dotQ Qa Qa na else 0)) (b := b4) rfl rfl aggRat.size B4 (shRat _) h14 (shRat _) (St.rat _) (by decide) g_b4 fun w5 P5 E5 B' => ⟨fun _ => Kept.put KK P5 (fun _ hk => (by cases hk)), ?_⟩
  replace KK := Kept.put KK P5 (fun _ hk => (by cases hk))
  have W5 : Grow w w5 := W4.put P5 g_b4
  have z5 : w4.heap.size ≤ w5.heap.size := Nat.le_of_eq P5.size.symm
  replace h3 := StF.ownv (Put.extB P5 B4 (by decide) (by omega)) h3
  replace B4 := B'; clear B'
  change wpListS _ _ _ _ [_] ⟨_, []⟩ _
  refine wpListS_yld rfl ?_
  refine yld_assign rfl ⟨fun _ => KK, ?_⟩
  refine wpListS_nil ?_
  change Code.wp _ _ _ ⟨List.toArray (List.set _ 5 _), []⟩ _
  refine wp_seq ?_
  obtain ⟨x7, ex7⟩ : ∃ c : Bool, c = (decide (na = na)) := ⟨_, rfl⟩
  obtain ⟨x8, ex8⟩ : ∃ c : Bool, c = (decide (((if na = na then dotQ Qa Qa na else 0).num.sign : Int) ≥ (0 : Int))) := ⟨_, rfl⟩
  obtain ⟨x9, ex9⟩ : ∃ c : Bool, c = ((x7 && x8)) := ⟨_, rfl⟩
  obtain ⟨x10, ex10⟩ : ∃ c : Bool, c = (decide ((if na = na then dotQ Qa Qa na else 0) = 0)) := ⟨_, rfl⟩
  obtain ⟨x11, ex11⟩ : ∃ c : Bool, c = (decide (firstV Qa na < 0)) := ⟨_, rfl⟩
  obtain ⟨x12, ex12⟩ : ∃ c : Bool, c = (x10 == x11) := ⟨_, rfl⟩
  obtain ⟨x13, ex13⟩ : ∃ c : Bool, c = ((x9 && x12)) := ⟨_, rfl⟩
  refine rg (fun c d v a w h => NL c d v a w h) ((16, .eq (.bool (x7))) :: (17, .eq (.bool (x7))) :: (18, .opt ((x7 == true)) (.rat (if na = na then dotQ Qa Qa na else 0))) :: (19, .opt ((x7 == true)) (.eq (.int .i64 ((if na = na then dotQ Qa Qa na else 0).num.sign)))) :: (20, .opt ((x7 == true)) (.eq (.bool (x8)))) :: (21, .eq (.bool (x9))) :: (22, .eq (.bool (x9))) :: (23, .opt ((x9 == true)) (.rat (if na = na then dotQ Qa Qa na else 0))) :: (24, .opt ((x9 == true)) (.eq (.bool (x10)))) :: (25, .opt ((x9 == true)) (.eq (v3))) :: (26, .opt ((x9 == true)) (.eq (.bool (x11)))) :: (27, .opt ((x9 == true)) (.eq (.bool (x12)))) :: (28, .eq (.bool (x13))) :: (2, .eq (.bool (x13))) :: []) [] [] [] 29 14 ?_ ?_
  · refine so [] (fun w6 hw6 => .fin (yld_eqTo (c := .bool (decide (na = na))) (yld_move rfl ⟨Grow.refl _, rfl⟩) (congrArg Value.bool ex7.symm))) ?_
    refine so [0] (fun w6 hw6 => by rintro _ rfl; exact .fin (yld_move rfl ⟨Grow.refl _, rfl⟩)) ?_
    refine sg (c := (x7 == true)) 17 [1] (fun w6 hw6 => by rintro _ rfl; exact .fin (⟨guard_eq, fun hc => yld_loadBox rfl rfl aggRat (B4.grow hw6) (shRat _)⟩)) ?_
    refine sg (c := (x7 == true)) 17 [1, 2] (fun w6 hw6 => by rintro _ rfl v18 h18; exact .fin (⟨guard_eq, fun hc => yld_call rfl cal_rat_Rat_Sign rfl (cRatSign (h18.1 (by revert hc; exact fun h => h)))⟩)) ?_
    refine sg (c := (x7 == true)) 17 [1, 3] (fun w6 hw6 => by rintro _ rfl v19 h19; exact .fin (⟨guard_eq, fun hc => yld_eqTo (c := .bool (decide (((if na = na then dotQ Qa Qa na else 0).num.sign : Int) ≥ (0 : Int)))) (yld_geq rfl (show v19 = .int .i64 ((if na = na then dotQ Qa Qa na else 0).num.sign) from (h19.1 (by revert hc; exact fun h => h))) rfl ⟨Grow.refl _, rfl⟩) (congrArg Value.bool ex8.symm)⟩)) ?_
    refine so [1, 4] (fun w6 hw6 => by rintro _ rfl v20 h20; exact .fin (yld_eqTo (c := .bool ((x7 && x8))) (yld_pick_and rfl rfl (fun ht => h20.1 (by revert ht; cases x7 <;> decide)) rfl ⟨Grow.refl _, rfl⟩) (congrArg Value.bool ex9.symm))) ?_
    refine so [5] (fun w6 hw6 => by rintro _ rfl; exact .fin (yld_move rfl ⟨Grow.refl _, rfl⟩)) ?_
    refine sg (c := (x9 == true)) 22 [6] (fun w6 hw6 => by rintro _ rfl; exact .fin (⟨guard_eq, fun hc => yld_loadBox rfl rfl aggRat (B4.grow hw6) (shRat _)⟩)) ?_
    refine sg (c := (x9 == true)) 22 [6, 7] (fun w6 hw6 => by rintro _ rfl v23 h23; exact .fin (⟨guard_eq, fun hc => yld_eqTo (c := .bool (decide ((if na = na then dotQ Qa Qa na else 0) = 0))) (yld_call rfl cal_rat_Rat_Zero rfl (cRatZero (h23.1 (by revert hc; exact fun h => h)))) (congrArg Value.bool ex10.symm)⟩)) ?_
    refine sg (c := (x9 == true)) 22 [6] (fun w6 hw6 => by rintro _ rfl; exact .fin (⟨guard_eq, fun hc => yld_move rfl ⟨Grow.refl _, rfl⟩⟩)) ?_
    refine sg (c := (x9 == true)) 22 [6, 9] (fun w6 hw6 => by rintro _ rfl v25 h25; exact .fin (⟨guard_eq, fun hc => yld_eqTo (c := .bool (decide (firstV Qa na < 0))) ((by have ev25 : v25 = v3 := (show v25 = v3 from (h25.1 (by revert hc; exact fun h => h))); subst ev25; exact yld_call rfl cal_vec_Vec_Zero rfl (cVecZero (vec0 (ownv_vec (MR.mono _ hw6 h3)))))) (congrArg Value.bool ex11.symm)⟩)) ?_
    refine sg (c := (x9 == true)) 22 [6, 8, 10] (fun w6 hw6 => by rintro _ rfl v24 h24 v26 h26; exact .fin (⟨guard_eq, fun hc => yld_eqTo (c := .bool (x10 == x11)) (yld_beq rfl Try.underlying4 (show v24 = .bool (x10) from (h24.1 (by revert hc; exact fun h => h))) (show v26 = .bool (x11) from (h26.1 (by revert hc; exact fun h => h))) ⟨Grow.refl _, rfl⟩) (congrArg Value.bool ex12.symm)⟩)) ?_
    refine so [6, 11] (fun w6 hw6 => by rintro _ rfl v27 h27; exact .fin (yld_eqTo (c := .bool ((x9 && x12))) (yld_pick_and rfl rfl (fun ht => h27.1 (by revert ht; cases x9 <;> decide)) rfl ⟨Grow.refl _, rfl⟩) (congrArg Value.bool ex13.symm))) ?_
    exact so [12] (fun w6 hw6 => by rintro _ rfl; exact .fin (yld_assign rfl ⟨Grow.refl _, rfl⟩)) (.nil _ _)
  rintro w6 hw6 _ rfl _ rfl v18 - v19 - v20 - _ rfl _ rfl v23 - v24 - v25 - v26 - v27 - _ rfl _ rfl -
  have W6 : Grow w w6 := W5.trans hw6
  have z6 : w5.heap.size ≤ w6.heap.size := hw6.size
  subst ex7
  subst ex8
  subst ex9
  subst ex10
  subst ex11
  subst ex12
  subst ex13
  refine fr (va :: u :: .bool ((((((decide (na = na)) && (decide (((if na = na then dotQ Qa Qa na else 0).num.sign : Int) ≥ (0 : Int))))) && ((decide ((if na = na then dotQ Qa Qa na else 0) = 0)) == (decide (firstV Qa na < 0)))))) :: v3 :: pt b4 :: .bool (decide (na = na)) :: .bool (true) :: .bool (!true) :: v8 :: v9 :: v10 :: v3 :: v3 :: v13 :: v14 :: .bool (decide (na = na)) :: .bool ((decide (na = na))) :: .bool ((decide (na = na))) :: v18 :: v19 :: v20 :: .bool ((((decide (na = na)) && (decide (((if na = na then dotQ Qa Qa na else 0).num.sign : Int) ≥ (0 : Int)))))) :: .bool ((((decide (na = na)) && (decide (((if na = na then dotQ Qa Qa na else 0).num.sign : Int) ≥ (0 : Int)))))) :: v23 :: v24 :: v25 :: v26 :: v27 :: .bool ((((((decide (na = na)) && (decide (((if na = na then dotQ Qa Qa na else 0).num.sign : Int) ≥ (0 : Int))))) && ((decide ((if na = na then dotQ Qa Qa na else 0) = 0)) == (decide (firstV Qa na < 0)))))) :: []) ?_
  refine nx ?_
  refine wp_ret ?_
  change bodyPost Try.prog Try.f5 (Ret (.eq (.bool (true))) w) .ret _ _
  exact body_slot rfl (by show Value.bool _ = Value.bool _; rw [show ((((((decide (na = na)) && (decide (((if na = na then dotQ Qa Qa na else 0).num.sign : Int) ≥ (0 : Int))))) && ((decide ((if na = na then dotQ Qa Qa na else 0) = 0)) == (decide (firstV Qa na < 0)))))) = (true) from (squares1 Qa na)]) rfl W6
end Go.Proofs.Ytngghjhmfpmilaa
