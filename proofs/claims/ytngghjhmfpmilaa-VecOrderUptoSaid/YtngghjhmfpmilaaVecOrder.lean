/- actuarylaw10.VecOrder, its walk. -/
import Derived.Test.YtngghjhmfpmilaaVecO
import Derived.Deep.LoopGhost
namespace Go.Proofs.Ytngghjhmfpmilaa
open Go.RowKit
theorem cal_actuarylaw10_awake : Callable Try.prog 11 := callable_of Try.func11 rfl (by kernel_rfl)
theorem cal_actuarylaw10_Make : Callable Try.prog 12 := callable_of Try.func12 rfl (by kernel_rfl)
theorem cal_vec_Vec_Copy : Callable Try.prog 14 := callable_of Try.func14 rfl (by kernel_rfl)
set_option maxRecDepth 100000 in
set_option maxHeartbeats 2000000 in
theorem vecOrder {Pa Da : Nat → Int} {na : Nat} {Pb Db : Nat → Int} {nb : Nat} {Pc Dc : Nat → Int} {nc : Nat}  {va : Value} {vb : Value} {vc : Value} {w : World}  (ha : (MR.sl (fun k => w.heap.size ≤ k) 2 (fun i => .eq (.agg #[.int .i64 (Pa i), .int .i64 (Da i)])) (na)).R w va) (hb : (MR.sl (fun k => w.heap.size ≤ k) 2 (fun i => .eq (.agg #[.int .i64 (Pb i), .int .i64 (Db i)])) (nb)).R w vb) (hc : (MR.sl (fun k => w.heap.size ≤ k) 2 (fun i => .eq (.agg #[.int .i64 (Pc i), .int .i64 (Dc i)])) (nc)).R w vc) (hna : na ≤ 1048576) (hra : ∀ i, i < na → R64 (Pa i) ∧ R64 (Da i)) (hnb : nb ≤ 1048576) (hrb : ∀ i, i < nb → R64 (Pb i) ∧ R64 (Db i)) (hnc : nc ≤ 1048576) (hrc : ∀ i, i < nc → R64 (Pc i) ∧ R64 (Dc i))  : Calls Try.prog 3 #[va, vb, vc] w (Ret (.eq (.bool (true))) w) := by
  have _ := hnc
  have _ := hnb
  have _ := hna
  obtain ⟨Qa, hQa⟩ : ∃ q : Nat → Rat, q = fun j0 => fracQ (Pa j0) (Da j0) := ⟨_, rfl⟩
  have sQa : ∀ i, i < na → szq (Qa i) ≤ 2 := fun i hi => by rw [hQa]; exact szq_frac (hra i hi).1 (hra i hi).2
  obtain ⟨Qb, hQb⟩ : ∃ q : Nat → Rat, q = fun j0 => fracQ (Pb j0) (Db j0) := ⟨_, rfl⟩
  have sQb : ∀ i, i < nb → szq (Qb i) ≤ 2 := fun i hi => by rw [hQb]; exact szq_frac (hrb i hi).1 (hrb i hi).2
  obtain ⟨Qc, hQc⟩ : ∃ q : Nat → Rat, q = fun j0 => fracQ (Pc j0) (Dc j0) := ⟨_, rfl⟩
  have sQc : ∀ i, i < nc → szq (Qc i) ≤ 2 := fun i hi => by rw [hQc]; exact szq_frac (hrc i hi).1 (hrc i hi).2
  have hB := Nat.le_refl w.heap.size
  obtain ⟨Qw, hQw⟩ : ∃ q : Nat → Rat, q = fun j0 => Qa j0 + ((1 : Int) : Rat) := ⟨_, rfl⟩
  have s1 : szq (((1 : Int) : Rat)) ≤ 2 := sb_int (by decide) (by decide)
  have tw : ∀ i j, j < na → szq (mixQ Qw Qa i j) ≤ 9 := fun i j hj => by
    unfold mixQ
    split
    · rw [hQw]; exact sb_add (sQa j hj) s1
    · exact Nat.le_trans (sQa j hj) (by decide)
  refine calls_enter (a := ⟨List.toArray ([va, vb, vc] ++ us 75), []⟩) Try.func3 rfl (by kernel_rfl) ?_
  have NL : NoLook (bodyPost Try.prog Try.f3 (Ret (.eq (.bool (true))) w)) := noLook_body
  refine wp_seq ?_
  refine rg (fun c d v a w h => NL c d v a w h) [(6, .eq (.bool (false)))] [] [] [] 78 1 ?_ ?_
  · exact so [] (fun w1 hw1 => .fin (yld_assign rfl ⟨Grow.refl _, rfl⟩)) (.nil _ _)
  rintro w1 hw1 _ rfl -
  have W1 : Grow w w1 := (Grow.refl w).trans hw1
  have z1 : w.heap.size ≤ w1.heap.size := hw1.size
  replace ha := MR.mono _ hw1 ha
  replace hb := MR.mono _ hw1 hb
  replace hc := MR.mono _ hw1 hc
  refine fr ([va, vb, vc, u, u, u, .bool (false)] ++ us 71) ?_
  refine nx ?_
  refine wp_seq ?_
  refine wp_seq ?_
  refine rg (fun c d v a w h => NL c d v a w h) [(12, .eq (.bool (true))), (13, .eq (.bool (!true)))] [] [] [] 78 2 ?_ ?_
  · refine so [] (fun w2 hw2 => .fin (yld_call rfl cal_actuarylaw10_awake rfl (cAwake10))) ?_
    exact so [0] (fun w2 hw2 => by rintro _ rfl; exact .fin (yld_not rfl rfl ⟨Grow.refl _, rfl⟩)) (.nil _ _)
  rintro w2 hw2 _ rfl _ rfl -
  have W2 : Grow w w2 := W1.trans hw2
  have z2 : w1.heap.size ≤ w2.heap.size := hw2.size
  replace ha := MR.mono _ hw2 ha
  replace hb := MR.mono _ hw2 hb
  replace hc := MR.mono _ hw2 hc
  refine fr ((va :: vb :: vc :: u :: u :: u :: .bool (false) :: u :: u :: u :: u :: u :: .bool (true) :: .bool (!true) :: []) ++ us 64) ?_
  refine nx ?_
  refine wp_cond_false rfl ?_
  refine wp_skip ?_
  change Code.wp _ _ _ ⟨_, []⟩ _
  refine wp_seq ?_
  refine rg (fun c d v a w h => NL c d v a w h) [(14, .sl (fun k => w.heap.size ≤ k) 2 (fun i => .eq (.agg #[.int .i64 (Pa i), .int .i64 (Da i)])) (na)), (15, .ownv (w.heap.size) (fun k => k < w2.heap.size) (Qa) (na)), (16, .sl (fun k => w.heap.size ≤ k) 2 (fun i => .eq (.agg #[.int .i64 (Pb i), .int .i64 (Db i)])) (nb)), (17, .ownv (w.heap.size) (fun k => k < w2.heap.size) (Qb) (nb)), (18, .sl (fun k => w.heap.size ≤ k) 2 (fun i => .eq (.agg #[.int .i64 (Pc i), .int .i64 (Dc i)])) (nc)), (19, .ownv (w.heap.size) (fun k => k < w2.heap.size) (Qc) (nc)), (7, .ownv (w.heap.size) (fun k => k < w2.heap.size) (Qa) (na)), (8, .ownv (w.heap.size) (fun k => k < w2.heap.size) (Qb) (nb)), (9, .ownv (w.heap.size) (fun k => k < w2.heap.size) (Qc) (nc))] [] [] [] 78 9 ?_ ?_
  · refine so [] (fun w3 hw3 => .fin (yld_move rfl ⟨Grow.refl _, (MR.mono _ hw3 ha)⟩)) ?_
    refine soP [(14, .sl (fun k => w.heap.size ≤ k) 2 (fun i => .eq (.agg #[.int .i64 (Pa i), .int .i64 (Da i)])) (na))] (fun w3 hw3 => by rintro v14 h14; exact .fin (yld_as (R := .ownv (w.heap.size) (fun k => k < w2.heap.size) (fun j0 => fracQ (Pa j0) (Da j0)) (na)) (R2 := .ownv (w.heap.size) (fun k => k < w2.heap.size) (Qa) (na)) (yld_call rfl cal_actuarylaw10_Make rfl (cMake10 (P := Pa) (D := Da) (B := w.heap.size) (F := fun k => k < w2.heap.size) (Grow.trans W2 hw3).size (fun k hk => Nat.lt_of_lt_of_le hk hw3.size) (sl_own h14 fun _ h => h.elim) (by omega) hra)) (fun h => by rw [hQa]; exact h))) ?_
    refine so [] (fun w3 hw3 => .fin (yld_move rfl ⟨Grow.refl _, (MR.mono _ hw3 hb)⟩)) ?_
    refine soP [(16, .sl (fun k => w.heap.size ≤ k) 2 (fun i => .eq (.agg #[.int .i64 (Pb i), .int .i64 (Db i)])) (nb))] (fun w3 hw3 => by rintro v16 h16; exact .fin (yld_as (R := .ownv (w.heap.size) (fun k => k < w2.heap.size) (fun j0 => fracQ (Pb j0) (Db j0)) (nb)) (R2 := .ownv (w.heap.size) (fun k => k < w2.heap.size) (Qb) (nb)) (yld_call rfl cal_actuarylaw10_Make rfl (cMake10 (P := Pb) (D := Db) (B := w.heap.size) (F := fun k => k < w2.heap.size) (Grow.trans W2 hw3).size (fun k hk => Nat.lt_of_lt_of_le hk hw3.size) (sl_own h16 fun _ h => h.elim) (by omega) hrb)) (fun h => by rw [hQb]; exact h))) ?_
    refine so [] (fun w3 hw3 => .fin (yld_move rfl ⟨Grow.refl _, (MR.mono _ hw3 hc)⟩)) ?_
    refine soP [(18, .sl (fun k => w.heap.size ≤ k) 2 (fun i => .eq (.agg #[.int .i64 (Pc i), .int .i64 (Dc i)])) (nc))] (fun w3 hw3 => by rintro v18 h18; exact .fin (yld_as (R := .ownv (w.heap.size) (fun k => k < w2.heap.size) (fun j0 => fracQ (Pc j0) (Dc j0)) (nc)) (R2 := .ownv (w.heap.size) (fun k => k < w2.heap.size) (Qc) (nc)) (yld_call rfl cal_actuarylaw10_Make rfl (cMake10 (P := Pc) (D := Dc) (B := w.heap.size) (F := fun k => k < w2.heap.size) (Grow.trans W2 hw3).size (fun k hk => Nat.lt_of_lt_of_le hk hw3.size) (sl_own h18 fun _ h => h.elim) (by omega) hrc)) (fun h => by rw [hQc]; exact h))) ?_
    refine soP [(15, .ownv (w.heap.size) (fun k => k < w2.heap.size) (Qa) (na))] (fun w3 hw3 => by rintro v15 h15; exact .fin (yld_assign rfl ⟨Grow.refl _, h15⟩)) ?_
    refine soP [(17, .ownv (w.heap.size) (fun k => k < w2.heap.size) (Qb) (nb))] (fun w3 hw3 => by rintro v17 h17; exact .fin (yld_assign rfl ⟨Grow.refl _, h17⟩)) ?_
    exact soP [(19, .ownv (w.heap.size) (fun k => k < w2.heap.size) (Qc) (nc))] (fun w3 hw3 => by rintro v19 h19; exact .fin (yld_assign rfl ⟨Grow.refl _, h19⟩)) (.nil _ _)
  rintro w3 hw3 v14 - v15 - v16 - v17 - v18 - v19 - v7 h7 v8 h8 v9 h9 -
  have W3 : Grow w w3 := W2.trans hw3
  have z3 : w2.heap.size ≤ w3.heap.size := hw3.size
  replace h7 := ownv_own (F' := fun k => (k < w2.heap.size) ∨ w3.heap.size ≤ k) h7 (fun k hk => hk)
  replace h8 := ownv_own (F' := fun k => (k < w2.heap.size) ∨ w3.heap.size ≤ k) h8 (fun k hk => hk)
  replace h9 := ownv_own (F' := fun k => (k < w2.heap.size) ∨ w3.heap.size ≤ k) h9 (fun k hk => hk)
  replace ha := MR.mono _ hw3 ha
  replace hb := MR.mono _ hw3 hb
  replace hc := MR.mono _ hw3 hc
  refine fr ((va :: vb :: vc :: u :: u :: u :: .bool (false) :: v7 :: v8 :: v9 :: u :: u :: .bool (true) :: .bool (!true) :: v14 :: v15 :: v16 :: v17 :: v18 :: v19 :: []) ++ us 58) ?_
  refine nx ?_
  refine wp_seq ?_
  refine wp_seq ?_
  obtain ⟨x5, ex5⟩ : ∃ c : Bool, c = ((cmpVec Qa na Qb nb : Int) != (-(cmpVec Qb nb Qa na) : Int)) := ⟨_, rfl⟩
  obtain ⟨x6, ex6⟩ : ∃ c : Bool, c = (decide ((cmpVec Qa na Qb nb : Int) ≤ (0 : Int))) := ⟨_, rfl⟩
  obtain ⟨x7, ex7⟩ : ∃ c : Bool, c = (decide ((cmpVec Qb nb Qc nc : Int) ≤ (0 : Int))) := ⟨_, rfl⟩
  obtain ⟨x8, ex8⟩ : ∃ c : Bool, c = ((x6 && x7)) := ⟨_, rfl⟩
  obtain ⟨x9, ex9⟩ : ∃ c : Bool, c = (decide ((cmpVec Qa na Qc nc : Int) > (0 : Int))) := ⟨_, rfl⟩
  obtain ⟨x10, ex10⟩ : ∃ c : Bool, c = ((x8 && x9)) := ⟨_, rfl⟩
  obtain ⟨x11, ex11⟩ : ∃ c : Bool, c = ((x5 || x10)) := ⟨_, rfl⟩
  refine rg (fun c d v a w h => NL c d v a w h) ((20, .eq (v7)) :: (21, .eq (v8)) :: (22, .eq (.int .i64 (cmpVec Qa na Qb nb))) :: (23, .eq (v8)) :: (24, .eq (v7)) :: (25, .eq (.int .i64 (cmpVec Qb nb Qa na))) :: (26, .eq (.int .i64 (-(cmpVec Qb nb Qa na)))) :: (27, .eq (.bool (x5))) :: (28, .eq (.bool (x5))) :: (29, .opt ((x5 == false)) (.eq (v7))) :: (30, .opt ((x5 == false)) (.eq (v8))) :: (31, .opt ((x5 == false)) (.eq (.int .i64 (cmpVec Qa na Qb nb)))) :: (32, .opt ((x5 == false)) (.eq (.bool (x6)))) :: (33, .opt ((x5 == false)) (.eq (.bool (x6)))) :: (34, .opt (((x5 == false) && (x6 == true))) (.eq (v8))) :: (35, .opt (((x5 == false) && (x6 == true))) (.eq (v9))) :: (36, .opt (((x5 == false) && (x6 == true))) (.eq (.int .i64 (cmpVec Qb nb Qc nc)))) :: (37, .opt (((x5 == false) && (x6 == true))) (.eq (.bool (x7)))) :: (38, .opt ((x5 == false)) (.eq (.bool (x8)))) :: (39, .opt ((x5 == false)) (.eq (.bool (x8)))) :: (40, .opt (((x5 == false) && (x8 == true))) (.eq (v7))) :: (41, .opt (((x5 == false) && (x8 == true))) (.eq (v9))) :: (42, .opt (((x5 == false) && (x8 == true))) (.eq (.int .i64 (cmpVec Qa na Qc nc)))) :: (43, .opt (((x5 == false) && (x8 == true))) (.eq (.bool (x9)))) :: (44, .opt ((x5 == false)) (.eq (.bool (x10)))) :: (45, .eq (.bool (x11))) :: []) [] [] [] 78 26 ?_ ?_
  · refine so [] (fun w4 hw4 => .fin (yld_move rfl ⟨Grow.refl _, rfl⟩)) ?_
    refine so [] (fun w4 hw4 => .fin (yld_move rfl ⟨Grow.refl _, rfl⟩)) ?_
    refine so [0, 1] (fun w4 hw4 => by rintro v20 e20 v21 e21; subst v20; subst v21; exact .fin (yld_call rfl cal_vec_Cmp rfl (cVecCmp (vec0 (ownv_vec (MR.mono _ hw4 h7))) (vec0 (ownv_vec (MR.mono _ hw4 h8))) (cm_ok sQa sQb (by decide))))) ?_
    refine so [] (fun w4 hw4 => .fin (yld_move rfl ⟨Grow.refl _, rfl⟩)) ?_
    refine so [] (fun w4 hw4 => .fin (yld_move rfl ⟨Grow.refl _, rfl⟩)) ?_
    refine so [3, 4] (fun w4 hw4 => by rintro v23 e23 v24 e24; subst v23; subst v24; exact .fin (yld_call rfl cal_vec_Cmp rfl (cVecCmp (vec0 (ownv_vec (MR.mono _ hw4 h8))) (vec0 (ownv_vec (MR.mono _ hw4 h7))) (cm_ok sQb sQa (by decide))))) ?_
    refine so [5] (fun w4 hw4 => by rintro _ rfl; exact .fin (yld_neg rfl rfl (r := -(cmpVec Qb nb Qa na)) (vneg_wrap _ _ _ _) ⟨Grow.refl _, rfl⟩)) ?_
    refine so [2, 6] (fun w4 hw4 => by rintro _ rfl _ rfl; exact .fin (yld_eqTo (c := .bool ((cmpVec Qa na Qb nb : Int) != (-(cmpVec Qb nb Qa na) : Int))) (yld_neq rfl rfl rfl ⟨Grow.refl _, rfl⟩) (congrArg Value.bool ex5.symm))) ?_
    refine so [7] (fun w4 hw4 => by rintro _ rfl; exact .fin (yld_move rfl ⟨Grow.refl _, rfl⟩)) ?_
    refine sg (c := (x5 == false)) 28 [8] (fun w4 hw4 => by rintro _ rfl; exact .fin (⟨guard_eq, fun hc => yld_move rfl ⟨Grow.refl _, rfl⟩⟩)) ?_
    refine sg (c := (x5 == false)) 28 [8] (fun w4 hw4 => by rintro _ rfl; exact .fin (⟨guard_eq, fun hc => yld_move rfl ⟨Grow.refl _, rfl⟩⟩)) ?_
    refine sg (c := (x5 == false)) 28 [8, 9, 10] (fun w4 hw4 => by rintro _ rfl v29 h29 v30 h30; exact .fin (⟨guard_eq, fun hc => (by have ev29 : v29 = v7 := (show v29 = v7 from (h29.1 (by revert hc; exact fun h => h))); subst ev29; have ev30 : v30 = v8 := (show v30 = v8 from (h30.1 (by revert hc; exact fun h => h))); subst ev30; exact yld_call rfl cal_vec_Cmp rfl (cVecCmp (vec0 (ownv_vec (MR.mono _ hw4 h7))) (vec0 (ownv_vec (MR.mono _ hw4 h8))) (cm_ok sQa sQb (by decide))))⟩)) ?_
    refine sg (c := (x5 == false)) 28 [8, 11] (fun w4 hw4 => by rintro _ rfl v31 h31; exact .fin (⟨guard_eq, fun hc => yld_eqTo (c := .bool (decide ((cmpVec Qa na Qb nb : Int) ≤ (0 : Int)))) (yld_leq rfl (show v31 = .int .i64 (cmpVec Qa na Qb nb) from (h31.1 (by revert hc; exact fun h => h))) rfl ⟨Grow.refl _, rfl⟩) (congrArg Value.bool ex6.symm)⟩)) ?_
    refine sg (c := (x5 == false)) 28 [8, 12] (fun w4 hw4 => by rintro _ rfl v32 h32; exact .fin (⟨guard_eq, fun hc => yld_move rfl ⟨Grow.refl _, (show v32 = .bool (x6) from (h32.1 (by revert hc; exact fun h => h)))⟩⟩)) ?_
    refine sg (c := ((x5 == false) && (x6 == true))) 33 [13] (fun w4 hw4 => by rintro v33 h33; exact .fin (⟨guard_opt h33, fun hc => yld_move rfl ⟨Grow.refl _, rfl⟩⟩)) ?_
    refine sg (c := ((x5 == false) && (x6 == true))) 33 [13] (fun w4 hw4 => by rintro v33 h33; exact .fin (⟨guard_opt h33, fun hc => yld_move rfl ⟨Grow.refl _, rfl⟩⟩)) ?_
    refine sg (c := ((x5 == false) && (x6 == true))) 33 [13, 14, 15] (fun w4 hw4 => by rintro v33 h33 v34 h34 v35 h35; exact .fin (⟨guard_opt h33, fun hc => (by have ev34 : v34 = v8 := (show v34 = v8 from (h34.1 (by revert hc; exact fun h => h))); subst ev34; have ev35 : v35 = v9 := (show v35 = v9 from (h35.1 (by revert hc; exact fun h => h))); subst ev35; exact yld_call rfl cal_vec_Cmp rfl (cVecCmp (vec0 (ownv_vec (MR.mono _ hw4 h8))) (vec0 (ownv_vec (MR.mono _ hw4 h9))) (cm_ok sQb sQc (by decide))))⟩)) ?_
    refine sg (c := ((x5 == false) && (x6 == true))) 33 [13, 16] (fun w4 hw4 => by rintro v33 h33 v36 h36; exact .fin (⟨guard_opt h33, fun hc => yld_eqTo (c := .bool (decide ((cmpVec Qb nb Qc nc : Int) ≤ (0 : Int)))) (yld_leq rfl (show v36 = .int .i64 (cmpVec Qb nb Qc nc) from (h36.1 (by revert hc; exact fun h => h))) rfl ⟨Grow.refl _, rfl⟩) (congrArg Value.bool ex7.symm)⟩)) ?_
    refine sg (c := (x5 == false)) 28 [8, 13, 17] (fun w4 hw4 => by rintro _ rfl v33 h33 v37 h37; exact .fin (⟨guard_eq, fun hc => yld_eqTo (c := .bool ((x6 && x7))) (yld_pick_and rfl (show v33 = .bool (x6) from (h33.1 (by revert hc; exact fun h => h))) (fun ht => h37.1 (by revert ht; revert hc; cases x5 <;> cases x6 <;> decide)) rfl ⟨Grow.refl _, rfl⟩) (congrArg Value.bool ex8.symm)⟩)) ?_
    refine sg (c := (x5 == false)) 28 [8, 18] (fun w4 hw4 => by rintro _ rfl v38 h38; exact .fin (⟨guard_eq, fun hc => yld_move rfl ⟨Grow.refl _, (show v38 = .bool (x8) from (h38.1 (by revert hc; exact fun h => h)))⟩⟩)) ?_
    refine sg (c := ((x5 == false) && (x8 == true))) 39 [19] (fun w4 hw4 => by rintro v39 h39; exact .fin (⟨guard_opt h39, fun hc => yld_move rfl ⟨Grow.refl _, rfl⟩⟩)) ?_
    refine sg (c := ((x5 == false) && (x8 == true))) 39 [19] (fun w4 hw4 => by rintro v39 h39; exact .fin (⟨guard_opt h39, fun hc => yld_move rfl ⟨Grow.refl _, rfl⟩⟩)) ?_
    refine sg (c := ((x5 == false) && (x8 == true))) 39 [19, 20, 21] (fun w4 hw4 => by rintro v39 h39 v40 h40 v41 h41; exact .fin (⟨guard_opt h39, fun hc => (by have ev40 : v40 = v7 := (show v40 = v7 from (h40.1 (by revert hc; exact fun h => h))); subst ev40; have ev41 : v41 = v9 := (show v41 = v9 from (h41.1 (by revert hc; exact fun h => h))); subst ev41; exact yld_call rfl cal_vec_Cmp rfl (cVecCmp (vec0 (ownv_vec (MR.mono _ hw4 h7))) (vec0 (ownv_vec (MR.mono _ hw4 h9))) (cm_ok sQa sQc (by decide))))⟩)) ?_
    refine sg (c := ((x5 == false) && (x8 == true))) 39 [19, 22] (fun w4 hw4 => by rintro v39 h39 v42 h42; exact .fin (⟨guard_opt h39, fun hc => yld_eqTo (c := .bool (decide ((cmpVec Qa na Qc nc : Int) > (0 : Int)))) (yld_gtr rfl (show v42 = .int .i64 (cmpVec Qa na Qc nc) from (h42.1 (by revert hc; exact fun h => h))) rfl ⟨Grow.refl _, rfl⟩) (congrArg Value.bool ex9.symm)⟩)) ?_
    refine sg (c := (x5 == false)) 28 [8, 19, 23] (fun w4 hw4 => by rintro _ rfl v39 h39 v43 h43; exact .fin (⟨guard_eq, fun hc => yld_eqTo (c := .bool ((x8 && x9))) (yld_pick_and rfl (show v39 = .bool (x8) from (h39.1 (by revert hc; exact fun h => h))) (fun ht => h43.1 (by revert ht; revert hc; cases x5 <;> cases x8 <;> decide)) rfl ⟨Grow.refl _, rfl⟩) (congrArg Value.bool ex10.symm)⟩)) ?_
    exact so [8, 24] (fun w4 hw4 => by rintro _ rfl v44 h44; exact .fin (yld_eqTo (c := .bool ((x5 || x10))) (yld_pick_or rfl rfl rfl (fun ht => h44.1 (by revert ht; cases x5 <;> decide)) ⟨Grow.refl _, rfl⟩) (congrArg Value.bool ex11.symm))) (.nil _ _)
  rintro w4 hw4 v20 e20 v21 e21 v22 - v23 e23 v24 e24 v25 - v26 - _ rfl _ rfl v29 - v30 - v31 - v32 - v33 - v34 - v35 - v36 - v37 - v38 - v39 - v40 - v41 - v42 - v43 - v44 - _ rfl -
  have W4 : Grow w w4 := W3.trans hw4
  have z4 : w3.heap.size ≤ w4.heap.size := hw4.size
  subst v20
  subst v21
  subst v23
  subst v24
  replace ha := MR.mono _ hw4 ha
  replace hb := MR.mono _ hw4 hb
  replace hc := MR.mono _ hw4 hc
  replace h7 := MR.mono _ hw4 h7
  replace h8 := MR.mono _ hw4 h8
  replace h9 := MR.mono _ hw4 h9
  subst ex5
  subst ex6
  subst ex7
  subst ex8
  subst ex9
  subst ex10
  subst ex11
  refine fr ((va :: vb :: vc :: u :: u :: u :: .bool (false) :: v7 :: v8 :: v9 :: u :: u :: .bool (true) :: .bool (!true) :: v14 :: v15 :: v16 :: v17 :: v18 :: v19 :: v7 :: v8 :: v22 :: v8 :: v7 :: v25 :: v26 :: .bool (((cmpVec Qa na Qb nb : Int) != (-(cmpVec Qb nb Qa na) : Int))) :: .bool (((cmpVec Qa na Qb nb : Int) != (-(cmpVec Qb nb Qa na) : Int))) :: v29 :: v30 :: v31 :: v32 :: v33 :: v34 :: v35 :: v36 :: v37 :: v38 :: v39 :: v40 :: v41 :: v42 :: v43 :: v44 :: .bool (((((cmpVec Qa na Qb nb : Int) != (-(cmpVec Qb nb Qa na) : Int)) || (((((decide ((cmpVec Qa na Qb nb : Int) ≤ (0 : Int))) && (decide ((cmpVec Qb nb Qc nc : Int) ≤ (0 : Int))))) && (decide ((cmpVec Qa na Qc nc : Int) > (0 : Int)))))))) :: []) ++ us 32) ?_
  refine nx ?_
  have hc11 : (((((cmpVec Qa na Qb nb : Int) != (-(cmpVec Qb nb Qa na) : Int)) || (((((decide ((cmpVec Qa na Qb nb : Int) ≤ (0 : Int))) && (decide ((cmpVec Qb nb Qc nc : Int) ≤ (0 : Int))))) && (decide ((cmpVec Qa na Qc nc : Int) > (0 : Int)))))))) = false := order1 Qa Qb Qc na nb nc
  refine wp_cond_false (by show Value.bool _ = _; rw [hc11]) ?_
  refine wp_skip ?_
  change Code.wp _ _ _ ⟨_, []⟩ _
  refine wp_seq ?_
  refine rg (fun c d v a w h => NL c d v a w h) [(46, .eq (v7)), (47, .ownv (w.heap.size) (fun k => k < w4.heap.size) (Qa) (na)), (10, .ownv (w.heap.size) (fun k => k < w4.heap.size) (Qa) (na))] [] [] [] 78 3 ?_ ?_
  · refine so [] (fun w13 hw13 => .fin (yld_move rfl ⟨Grow.refl _, rfl⟩)) ?_
    refine so [0] (fun w13 hw13 => by rintro v46 e46; subst v46; exact .fin (yld_call rfl cal_vec_Vec_Copy rfl (cCopy (B := w.heap.size) (F := fun k => k < w4.heap.size) (Grow.trans W4 hw13).size (fun k hk => Nat.lt_of_lt_of_le hk hw13.size) (vec0 (ownv_vec (MR.mono _ hw13 h7))) (by omega)))) ?_
    exact soP [(47, .ownv (w.heap.size) (fun k => k < w4.heap.size) (Qa) (na))] (fun w13 hw13 => by rintro v47 h47; exact .fin (yld_assign rfl ⟨Grow.refl _, h47⟩)) (.nil _ _)
  rintro w13 hw13 v46 e46 v47 - v10 h10 -
  have W13 : Grow w w13 := W4.trans hw13
  have z13 : w4.heap.size ≤ w13.heap.size := hw13.size
  subst v46
  replace h10 := ownv_own (F' := fun k => (k < w4.heap.size) ∨ w13.heap.size ≤ k) h10 (fun k hk => hk)
  replace ha := MR.mono _ hw13 ha
  replace hb := MR.mono _ hw13 hb
  replace hc := MR.mono _ hw13 hc
  replace h7 := MR.mono _ hw13 h7
  replace h8 := MR.mono _ hw13 h8
  replace h9 := MR.mono _ hw13 h9
  refine fr ((va :: vb :: vc :: u :: u :: u :: .bool (false) :: v7 :: v8 :: v9 :: v10 :: u :: .bool (true) :: .bool (!true) :: v14 :: v15 :: v16 :: v17 :: v18 :: v19 :: v7 :: v8 :: v22 :: v8 :: v7 :: v25 :: v26 :: .bool (((cmpVec Qa na Qb nb : Int) != (-(cmpVec Qb nb Qa na) : Int))) :: .bool (((cmpVec Qa na Qb nb : Int) != (-(cmpVec Qb nb Qa na) : Int))) :: v29 :: v30 :: v31 :: v32 :: v33 :: v34 :: v35 :: v36 :: v37 :: v38 :: v39 :: v40 :: v41 :: v42 :: v43 :: v44 :: .bool (((((cmpVec Qa na Qb nb : Int) != (-(cmpVec Qb nb Qa na) : Int)) || (((((decide ((cmpVec Qa na Qb nb : Int) ≤ (0 : Int))) && (decide ((cmpVec Qb nb Qc nc : Int) ≤ (0 : Int))))) && (decide ((cmpVec Qa na Qc nc : Int) > (0 : Int)))))))) :: v7 :: v47 :: []) ++ us 30) ?_
  refine nx ?_
  refine wp_seq ?_
  refine wp_seq ?_
  refine rg (fun c d v a w h => NL c d v a w h) [(11, .eq (.int .i64 (0)))] [] [] [] 78 1 ?_ ?_
  · exact so [] (fun w14 hw14 => .fin (yld_assign rfl ⟨Grow.refl _, rfl⟩)) (.nil _ _)
  rintro w14 hw14 _ rfl -
  have W14 : Grow w w14 := W13.trans hw14
  have z14 : w13.heap.size ≤ w14.heap.size := hw14.size
  replace ha := MR.mono _ hw14 ha
  replace hb := MR.mono _ hw14 hb
  replace hc := MR.mono _ hw14 hc
  replace h7 := MR.mono _ hw14 h7
  replace h8 := MR.mono _ hw14 h8
  replace h9 := MR.mono _ hw14 h9
  replace h10 := MR.mono _ hw14 h10
  refine fr ((va :: vb :: vc :: u :: u :: u :: .bool (false) :: v7 :: v8 :: v9 :: v10 :: .int .i64 (0) :: .bool (true) :: .bool (!true) :: v14 :: v15 :: v16 :: v17 :: v18 :: v19 :: v7 :: v8 :: v22 :: v8 :: v7 :: v25 :: v26 :: .bool (((cmpVec Qa na Qb nb : Int) != (-(cmpVec Qb nb Qa na) : Int))) :: .bool (((cmpVec Qa na Qb nb : Int) != (-(cmpVec Qb nb Qa na) : Int))) :: v29 :: v30 :: v31 :: v32 :: v33 :: v34 :: v35 :: v36 :: v37 :: v38 :: v39 :: v40 :: v41 :: v42 :: v43 :: v44 :: .bool (((((cmpVec Qa na Qb nb : Int) != (-(cmpVec Qb nb Qa na) : Int)) || (((((decide ((cmpVec Qa na Qb nb : Int) ≤ (0 : Int))) && (decide ((cmpVec Qb nb Qc nc : Int) ≤ (0 : Int))))) && (decide ((cmpVec Qa na Qc nc : Int) > (0 : Int)))))))) :: v7 :: v47 :: []) ++ us 30) ?_
  refine nx ?_
  refine wp_block ?_
  refine wp_loop_ghost (fun nn ac15 w15 => ∃ (i : Nat), nn = na - i ∧ (i ≤ na) ∧ ∃ tt15 : Nat → Value, ac15 = ⟨List.toArray ((va :: vb :: vc :: u :: u :: u :: .bool (false) :: v7 :: v8 :: v9 :: v10 :: It i :: .bool (true) :: .bool (!true) :: v14 :: v15 :: v16 :: v17 :: v18 :: v19 :: v7 :: v8 :: v22 :: v8 :: v7 :: v25 :: v26 :: .bool (((cmpVec Qa na Qb nb : Int) != (-(cmpVec Qb nb Qa na) : Int))) :: .bool (((cmpVec Qa na Qb nb : Int) != (-(cmpVec Qb nb Qa na) : Int))) :: v29 :: v30 :: v31 :: v32 :: v33 :: v34 :: v35 :: v36 :: v37 :: v38 :: v39 :: v40 :: v41 :: v42 :: v43 :: v44 :: .bool (((((cmpVec Qa na Qb nb : Int) != (-(cmpVec Qb nb Qa na) : Int)) || (((((decide ((cmpVec Qa na Qb nb : Int) ≤ (0 : Int))) && (decide ((cmpVec Qb nb Qc nc : Int) ≤ (0 : Int))))) && (decide ((cmpVec Qa na Qc nc : Int) > (0 : Int)))))))) :: v7 :: v47 :: (tt15 48) :: (tt15 49) :: (tt15 50) :: (tt15 51) :: (tt15 52) :: (tt15 53) :: (tt15 54) :: (tt15 55) :: (tt15 56) :: (tt15 57) :: (tt15 58) :: (tt15 59) :: (tt15 60) :: (tt15 61) :: (tt15 62) :: []) ++ us 15), []⟩ ∧ Grow w w15 ∧ w14.heap.size ≤ w15.heap.size ∧ (MR.sl (fun k => w.heap.size ≤ k) 2 (fun i => .eq (.agg #[.int .i64 (Pa i), .int .i64 (Da i)])) (na)).R w15 va ∧ (MR.sl (fun k => w.heap.size ≤ k) 2 (fun i => .eq (.agg #[.int .i64 (Pb i), .int .i64 (Db i)])) (nb)).R w15 vb ∧ (MR.sl (fun k => w.heap.size ≤ k) 2 (fun i => .eq (.agg #[.int .i64 (Pc i), .int .i64 (Dc i)])) (nc)).R w15 vc ∧ (MR.ownv (w.heap.size) (fun k => (k < w2.heap.size) ∨ w3.heap.size ≤ k) (Qa) (na)).R w15 v7 ∧ (MR.ownv (w.heap.size) (fun k => (k < w2.heap.size) ∨ w3.heap.size ≤ k) (Qb) (nb)).R w15 v8 ∧ (MR.ownv (w.heap.size) (fun k => (k < w2.heap.size) ∨ w3.heap.size ≤ k) (Qc) (nc)).R w15 v9 ∧ (MR.ownv (w.heap.size) (fun k => k < w4.heap.size) (mixQ Qw Qa i) (na)).R w15 v10) (na - 0) ⟨0, rfl, Nat.zero_le _, fun d => ((.int .i64 (0) :: .bool (true) :: .bool (!true) :: v14 :: v15 :: v16 :: v17 :: v18 :: v19 :: v7 :: v8 :: v22 :: v8 :: v7 :: v25 :: v26 :: .bool (((cmpVec Qa na Qb nb : Int) != (-(cmpVec Qb nb Qa na) : Int))) :: .bool (((cmpVec Qa na Qb nb : Int) != (-(cmpVec Qb nb Qa na) : Int))) :: v29 :: v30 :: v31 :: v32 :: v33 :: v34 :: v35 :: v36 :: v37 :: v38 :: v39 :: v40 :: v41 :: v42 :: v43 :: v44 :: .bool (((((cmpVec Qa na Qb nb : Int) != (-(cmpVec Qb nb Qa na) : Int)) || (((((decide ((cmpVec Qa na Qb nb : Int) ≤ (0 : Int))) && (decide ((cmpVec Qb nb Qc nc : Int) ≤ (0 : Int))))) && (decide ((cmpVec Qa na Qc nc : Int) > (0 : Int)))))))) :: v7 :: v47 :: u :: u :: u :: u :: u :: u :: u :: u :: u :: u :: u :: u :: u :: u :: u :: []) : List Value).getD (d - 11) undef, by kernel_rfl, W14, Nat.le_refl _, ha, hb, hc, h7, h8, h9, (by rw [mixQ_zero]; exact ownv_own h10 (fun k hk => .inl (.inl hk)))⟩ ?_
  clear ha hb hc h7 h8 h9 h10
  rintro nn15 _ w15 ⟨i, hnn15, hinv, tt15, rfl, W15, z15, ha, hb, hc, h7, h8, h9, h10⟩
  replace h10 := ownv_own (F' := fun k => (k < w4.heap.size) ∨ w15.heap.size ≤ k) h10 (fun k hk => hk)
  refine wp_seq ?_
  refine wp_seq ?_
  refine rg (fun c d v a w h => NL c d v a w h) [(48, .eq (.int .i64 (((i : Nat) : Int)))), (49, .eq (v10)), (50, .eq (.int .i64 (((na : Nat) : Int)))), (51, .eq (.bool (decide ((((i : Nat) : Int) : Int) < (((na : Nat) : Int) : Int)))))] [] [] [] 78 4 ?_ ?_
  · refine so [] (fun w16 hw16 => .fin (yld_move rfl ⟨Grow.refl _, rfl⟩)) ?_
    refine so [] (fun w16 hw16 => .fin (yld_move rfl ⟨Grow.refl _, rfl⟩)) ?_
    refine so [1] (fun w16 hw16 => by rintro v49 e49; subst v49; exact .fin (yld_lenO Try.underlying25 rfl rfl (MR.mono _ hw16 h10))) ?_
    exact so [0, 2] (fun w16 hw16 => by rintro _ rfl _ rfl; exact .fin (yld_lss rfl rfl rfl ⟨Grow.refl _, rfl⟩)) (.nil _ _)
  rintro w16 hw16 v48 - v49 e49 v50 - _ rfl -
  have W16 : Grow w w16 := W15.trans hw16
  have z16 : w15.heap.size ≤ w16.heap.size := hw16.size
  subst v49
  replace ha := MR.mono _ hw16 ha
  replace hb := MR.mono _ hw16 hb
  replace hc := MR.mono _ hw16 hc
  replace h7 := MR.mono _ hw16 h7
  replace h8 := MR.mono _ hw16 h8
  replace h9 := MR.mono _ hw16 h9
  replace h10 := MR.mono _ hw16 h10
  refine fr ((va :: vb :: vc :: u :: u :: u :: .bool (false) :: v7 :: v8 :: v9 :: v10 :: It i :: .bool (true) :: .bool (!true) :: v14 :: v15 :: v16 :: v17 :: v18 :: v19 :: v7 :: v8 :: v22 :: v8 :: v7 :: v25 :: v26 :: .bool (((cmpVec Qa na Qb nb : Int) != (-(cmpVec Qb nb Qa na) : Int))) :: .bool (((cmpVec Qa na Qb nb : Int) != (-(cmpVec Qb nb Qa na) : Int))) :: v29 :: v30 :: v31 :: v32 :: v33 :: v34 :: v35 :: v36 :: v37 :: v38 :: v39 :: v40 :: v41 :: v42 :: v43 :: v44 :: .bool (((((cmpVec Qa na Qb nb : Int) != (-(cmpVec Qb nb Qa na) : Int)) || (((((decide ((cmpVec Qa na Qb nb : Int) ≤ (0 : Int))) && (decide ((cmpVec Qb nb Qc nc : Int) ≤ (0 : Int))))) && (decide ((cmpVec Qa na Qc nc : Int) > (0 : Int)))))))) :: v7 :: v47 :: v48 :: v10 :: v50 :: .bool (decide ((((i : Nat) : Int) : Int) < (((na : Nat) : Int) : Int))) :: (tt15 52) :: (tt15 53) :: (tt15 54) :: (tt15 55) :: (tt15 56) :: (tt15 57) :: (tt15 58) :: (tt15 59) :: (tt15 60) :: (tt15 61) :: (tt15 62) :: []) ++ us 15) ?_
  refine nx ?_
  refine wp_cond_split (t := decide ((((i : Nat) : Int) : Int) < (((na : Nat) : Int) : Int))) rfl (fun hcl => ?_) (fun hcl => ?_)
  · have hlt : i < na := by have := of_decide_eq_true hcl; omega
    refine wp_skip ?_
    change Code.wp _ _ _ ⟨_, []⟩ _
    refine wp_seq ?_
    refine wp_block ?_
    refine rg (fun c d v a w h => NL c d v a w h) [(54, .eq (v10)), (55, .eq (.int .i64 (((i : Nat) : Int)))), (56, .eq (v10)), (57, .eq (.int .i64 (((i : Nat) : Int)))), (58, .eq (elemPtr v10 (i))), (59, .rat (Qa i)), (60, .rat (((1 : Int) : Rat))), (61, .rat (Qw i)), (62, .eq (elemPtr v10 (i)))] [] [] [] 78 9 ?_ ?_
    · refine so [] (fun w17 hw17 => .fin (yld_move rfl ⟨Grow.refl _, rfl⟩)) ?_
      refine so [] (fun w17 hw17 => .fin (yld_move rfl ⟨Grow.refl _, rfl⟩)) ?_
      refine so [] (fun w17 hw17 => .fin (yld_move rfl ⟨Grow.refl _, rfl⟩)) ?_
      refine so [] (fun w17 hw17 => .fin (yld_move rfl ⟨Grow.refl _, rfl⟩)) ?_
      refine so [2, 3] (fun w17 hw17 => by rintro v56 e56 _ rfl; subst v56; exact .fin (yld_indexO (k := i) Try.underlying25 rfl rfl (MR.mono _ hw17 h10) rfl rfl (hlt))) ?_
      refine so [4] (fun w17 hw17 => by rintro _ rfl; exact .fin (yld_as (R := .rat ((mixQ Qw Qa i) i)) (R2 := .rat (Qa i)) (yld_loadO rfl rfl (MR.mono _ hw17 h10) (hlt)) (fun h => by rw [mixQ_at] at h; exact h))) ?_
      refine so [] (fun w17 hw17 => .fin (yld_call rfl cal_rat_Int rfl (cRatInt (x := 1) (by omega) (by omega)))) ?_
      refine so [5, 6] (fun w17 hw17 => by rintro v59 h59 v60 h60; exact .fin (yld_as (R := .rat ((Qa i) + (((1 : Int) : Rat)))) (R2 := .rat (Qw i)) (yld_call rfl cal_rat_Add rfl (cRatAdd h59 h60 (sz2 (sQa i hlt) s1 (by decide)))) (fun h => by rw [hQw]; exact h))) ?_
      exact so [0, 1] (fun w17 hw17 => by rintro v54 e54 _ rfl; subst v54; exact .fin (yld_indexO (k := i) Try.underlying25 rfl rfl (MR.mono _ hw17 h10) rfl rfl (hlt))) (.nil _ _)
    rintro w17 hw17 v54 e54 v55 - v56 e56 v57 - v58 - v59 - v60 - v61 h61 _ rfl -
    have W17 : Grow w w17 := W16.trans hw17
    have z17 : w16.heap.size ≤ w17.heap.size := hw17.size
    subst v54
    subst v56
    replace ha := MR.mono _ hw17 ha
    replace hb := MR.mono _ hw17 hb
    replace hc := MR.mono _ hw17 hc
    replace h7 := MR.mono _ hw17 h7
    replace h8 := MR.mono _ hw17 h8
    replace h9 := MR.mono _ hw17 h9
    replace h10 := MR.mono _ hw17 h10
    have KK : Kept [] w17 w17 := fun _ _ => rfl
    refine fr ((va :: vb :: vc :: u :: u :: u :: .bool (false) :: v7 :: v8 :: v9 :: v10 :: It i :: .bool (true) :: .bool (!true) :: v14 :: v15 :: v16 :: v17 :: v18 :: v19 :: v7 :: v8 :: v22 :: v8 :: v7 :: v25 :: v26 :: .bool (((cmpVec Qa na Qb nb : Int) != (-(cmpVec Qb nb Qa na) : Int))) :: .bool (((cmpVec Qa na Qb nb : Int) != (-(cmpVec Qb nb Qa na) : Int))) :: v29 :: v30 :: v31 :: v32 :: v33 :: v34 :: v35 :: v36 :: v37 :: v38 :: v39 :: v40 :: v41 :: v42 :: v43 :: v44 :: .bool (((((cmpVec Qa na Qb nb : Int) != (-(cmpVec Qb nb Qa na) : Int)) || (((((decide ((cmpVec Qa na Qb nb : Int) ≤ (0 : Int))) && (decide ((cmpVec Qb nb Qc nc : Int) ≤ (0 : Int))))) && (decide ((cmpVec Qa na Qc nc : Int) > (0 : Int)))))))) :: v7 :: v47 :: v48 :: v10 :: v50 :: .bool (decide ((((i : Nat) : Int) : Int) < (((na : Nat) : Int) : Int))) :: (tt15 52) :: (tt15 53) :: v10 :: v55 :: v10 :: v57 :: v58 :: v59 :: v60 :: v61 :: elemPtr v10 (i) :: []) ++ us 15) ?_
    change wpListS _ _ _ _ [_] ⟨_, []⟩ _
    refine wpListS_yld rfl ?_
    refine yld_storeO (k := i) (F' := fun k => (k < w4.heap.size) ∨ w15.heap.size ≤ k) rfl rfl h10 (hlt) h61 (fun _ h => h) fun w18 A18 H18 => ⟨fun _ => (fun _ hk => (by cases hk)), ?_⟩
    have W18 : Grow w w18 := A18.grow W17 (Nat.le_refl _)
    have z18 : w17.heap.size ≤ w18.heap.size := A18.size
    replace ha := (StF.sl fun i => StF.eq _) (App.extF A18 (by intro k _ hk; omega)) ha
    replace hb := (StF.sl fun i => StF.eq _) (App.extF A18 (by intro k _ hk; omega)) hb
    replace hc := (StF.sl fun i => StF.eq _) (App.extF A18 (by intro k _ hk; omega)) hc
    replace h7 := StF.ownv (App.extF A18 (by intro k _ hk; omega)) h7
    replace h8 := StF.ownv (App.extF A18 (by intro k _ hk; omega)) h8
    replace h9 := StF.ownv (App.extF A18 (by intro k _ hk; omega)) h9
    have KK : Kept [] w17 w18 := fun _ hk => (by cases hk)
    replace h10 := H18
    refine wpListS_nil ?_
    change Code.wp _ _ _ ⟨_, []⟩ _
    refine rg (fun c d v a w h => NL c d v a w h) [(52, .eq (.int .i64 (((i : Nat) : Int)))), (53, .eq (.int .i64 (((i + 1 : Nat) : Int))))] [] [] [] 78 2 ?_ ?_
    · refine so [] (fun w19 hw19 => .fin (yld_move rfl ⟨Grow.refl _, rfl⟩)) ?_
      exact so [0] (fun w19 hw19 => by rintro _ rfl; exact .fin (yld_add rfl rfl rfl (r := ((i + 1 : Nat) : Int)) (by rw [IntKind.wrap_i64]; omega) ⟨Grow.refl _, rfl⟩)) (.nil _ _)
    rintro w19 hw19 v52 - _ rfl -
    have W19 : Grow w w19 := W18.trans hw19
    have z19 : w18.heap.size ≤ w19.heap.size := hw19.size
    replace ha := MR.mono _ hw19 ha
    replace hb := MR.mono _ hw19 hb
    replace hc := MR.mono _ hw19 hc
    replace h7 := MR.mono _ hw19 h7
    replace h8 := MR.mono _ hw19 h8
    replace h9 := MR.mono _ hw19 h9
    replace h10 := MR.mono _ hw19 h10
    have KK : Kept [] w19 w19 := fun _ _ => rfl
    refine fr ((va :: vb :: vc :: u :: u :: u :: .bool (false) :: v7 :: v8 :: v9 :: v10 :: It i :: .bool (true) :: .bool (!true) :: v14 :: v15 :: v16 :: v17 :: v18 :: v19 :: v7 :: v8 :: v22 :: v8 :: v7 :: v25 :: v26 :: .bool (((cmpVec Qa na Qb nb : Int) != (-(cmpVec Qb nb Qa na) : Int))) :: .bool (((cmpVec Qa na Qb nb : Int) != (-(cmpVec Qb nb Qa na) : Int))) :: v29 :: v30 :: v31 :: v32 :: v33 :: v34 :: v35 :: v36 :: v37 :: v38 :: v39 :: v40 :: v41 :: v42 :: v43 :: v44 :: .bool (((((cmpVec Qa na Qb nb : Int) != (-(cmpVec Qb nb Qa na) : Int)) || (((((decide ((cmpVec Qa na Qb nb : Int) ≤ (0 : Int))) && (decide ((cmpVec Qb nb Qc nc : Int) ≤ (0 : Int))))) && (decide ((cmpVec Qa na Qc nc : Int) > (0 : Int)))))))) :: v7 :: v47 :: v48 :: v10 :: v50 :: .bool (decide ((((i : Nat) : Int) : Int) < (((na : Nat) : Int) : Int))) :: v52 :: It (i + 1) :: v10 :: v55 :: v10 :: v57 :: v58 :: v59 :: v60 :: v61 :: elemPtr v10 (i) :: []) ++ us 15) ?_
    change wpListS _ _ _ _ [_] ⟨_, []⟩ _
    refine wpListS_yld rfl ?_
    refine yld_assign rfl ⟨fun _ => KK, ?_⟩
    refine wpListS_nil ?_
    refine ⟨_, ?_, i + 1, rfl, (by omega), fun d => ((It (i + 1) :: .bool (true) :: .bool (!true) :: v14 :: v15 :: v16 :: v17 :: v18 :: v19 :: v7 :: v8 :: v22 :: v8 :: v7 :: v25 :: v26 :: .bool (((cmpVec Qa na Qb nb : Int) != (-(cmpVec Qb nb Qa na) : Int))) :: .bool (((cmpVec Qa na Qb nb : Int) != (-(cmpVec Qb nb Qa na) : Int))) :: v29 :: v30 :: v31 :: v32 :: v33 :: v34 :: v35 :: v36 :: v37 :: v38 :: v39 :: v40 :: v41 :: v42 :: v43 :: v44 :: .bool (((((cmpVec Qa na Qb nb : Int) != (-(cmpVec Qb nb Qa na) : Int)) || (((((decide ((cmpVec Qa na Qb nb : Int) ≤ (0 : Int))) && (decide ((cmpVec Qb nb Qc nc : Int) ≤ (0 : Int))))) && (decide ((cmpVec Qa na Qc nc : Int) > (0 : Int)))))))) :: v7 :: v47 :: v48 :: v10 :: v50 :: .bool (decide ((((i : Nat) : Int) : Int) < (((na : Nat) : Int) : Int))) :: v52 :: It (i + 1) :: v10 :: v55 :: v10 :: v57 :: v58 :: v59 :: v60 :: v61 :: elemPtr v10 (i) :: []) : List Value).getD (d - 11) undef, by kernel_rfl, W19, (by omega), ha, hb, hc, h7, h8, h9, (mixQ_upd Qw Qa i ▸ ownv_own h10 (fun k hk => .inl (.inl hk)))⟩
    rw [hnn15]; omega
  · have hin : i = na := by have := of_decide_eq_false hcl; omega
    refine wp_exit ?_
    change Code.wp _ _ _ ⟨_, []⟩ _
    refine wp_seq ?_
    obtain ⟨x21, ex21⟩ : ∃ c : Bool, c = (decide (cmpVec Qa na Qa na = 0)) := ⟨_, rfl⟩
    obtain ⟨x22, ex22⟩ : ∃ c : Bool, c = ((((na : Nat) : Int) : Int) == (0 : Int)) := ⟨_, rfl⟩
    obtain ⟨x23, ex23⟩ : ∃ c : Bool, c = (decide (cmpVec (mixQ Qw Qa i) na Qa na = 0)) := ⟨_, rfl⟩
    obtain ⟨x24, ex24⟩ : ∃ c : Bool, c = (!x23) := ⟨_, rfl⟩
    obtain ⟨x25, ex25⟩ : ∃ c : Bool, c = ((x22 || x24)) := ⟨_, rfl⟩
    obtain ⟨x26, ex26⟩ : ∃ c : Bool, c = ((x21 && x25)) := ⟨_, rfl⟩
    refine rg (fun c d v a w h => NL c d v a w h) ((63, .eq (v7)) :: (64, .sl (fun k => w.heap.size ≤ k) 2 (fun i => .eq (.agg #[.int .i64 (Pa i), .int .i64 (Da i)])) (na)) :: (65, .ownv (w.heap.size) (fun k => k < w16.heap.size) (Qa) (na)) :: (66, .eq (.bool (x21))) :: (67, .eq (.bool (x21))) :: (68, .opt ((x21 == true)) (.eq (v10))) :: (69, .opt ((x21 == true)) (.eq (.int .i64 (((na : Nat) : Int))))) :: (70, .opt ((x21 == true)) (.eq (.bool (x22)))) :: (71, .opt ((x21 == true)) (.eq (.bool (x22)))) :: (72, .opt (((x21 == true) && (x22 == false))) (.eq (v10))) :: (73, .opt (((x21 == true) && (x22 == false))) (.eq (v7))) :: (74, .opt (((x21 == true) && (x22 == false))) (.eq (.bool (x23)))) :: (75, .opt (((x21 == true) && (x22 == false))) (.eq (.bool (x24)))) :: (76, .opt ((x21 == true)) (.eq (.bool (x25)))) :: (77, .eq (.bool (x26))) :: (6, .eq (.bool (x26))) :: []) [] [] [] 78 16 ?_ ?_
    · refine so [] (fun w20 hw20 => .fin (yld_move rfl ⟨Grow.refl _, rfl⟩)) ?_
      refine so [] (fun w20 hw20 => .fin (yld_move rfl ⟨Grow.refl _, (MR.mono _ hw20 ha)⟩)) ?_
      refine soP [(64, .sl (fun k => w.heap.size ≤ k) 2 (fun i => .eq (.agg #[.int .i64 (Pa i), .int .i64 (Da i)])) (na))] (fun w20 hw20 => by rintro v64 h64; exact .fin (yld_as (R := .ownv (w.heap.size) (fun k => k < w16.heap.size) (fun j0 => fracQ (Pa j0) (Da j0)) (na)) (R2 := .ownv (w.heap.size) (fun k => k < w16.heap.size) (Qa) (na)) (yld_call rfl cal_actuarylaw10_Make rfl (cMake10 (P := Pa) (D := Da) (B := w.heap.size) (F := fun k => k < w16.heap.size) (Grow.trans W16 hw20).size (fun k hk => Nat.lt_of_lt_of_le hk hw20.size) (sl_own h64 fun _ h => h.elim) (by omega) hra)) (fun h => by rw [hQa]; exact h))) ?_
      refine soP [(63, .eq (v7)), (65, .ownv (w.heap.size) (fun k => k < w16.heap.size) (Qa) (na))] (fun w20 hw20 => by rintro v63 e63 v65 h65; subst v63; exact .fin (yld_eqTo (c := .bool (decide (cmpVec Qa na Qa na = 0))) (yld_call rfl cal_vec_Same rfl (cVecSame (vec0 (ownv_vec (MR.mono _ hw20 h7))) (vec0 (ownv_vec h65)) (cm_ok sQa sQa (by decide)))) (congrArg Value.bool ex21.symm))) ?_
      refine so [3] (fun w20 hw20 => by rintro _ rfl; exact .fin (yld_move rfl ⟨Grow.refl _, rfl⟩)) ?_
      refine sg (c := (x21 == true)) 67 [4] (fun w20 hw20 => by rintro _ rfl; exact .fin (⟨guard_eq, fun hc => yld_move rfl ⟨Grow.refl _, rfl⟩⟩)) ?_
      refine sg (c := (x21 == true)) 67 [4, 5] (fun w20 hw20 => by rintro _ rfl v68 h68; exact .fin (⟨guard_eq, fun hc => yld_lenO Try.underlying25 rfl (show v68 = v10 from (h68.1 (by revert hc; exact fun h => h))) (MR.mono _ hw20 h10)⟩)) ?_
      refine sg (c := (x21 == true)) 67 [4, 6] (fun w20 hw20 => by rintro _ rfl v69 h69; exact .fin (⟨guard_eq, fun hc => yld_eqTo (c := .bool ((((na : Nat) : Int) : Int) == (0 : Int))) (yld_eql rfl (show v69 = .int .i64 (((na : Nat) : Int)) from (h69.1 (by revert hc; exact fun h => h))) rfl ⟨Grow.refl _, rfl⟩) (congrArg Value.bool ex22.symm)⟩)) ?_
      refine sg (c := (x21 == true)) 67 [4, 7] (fun w20 hw20 => by rintro _ rfl v70 h70; exact .fin (⟨guard_eq, fun hc => yld_move rfl ⟨Grow.refl _, (show v70 = .bool (x22) from (h70.1 (by revert hc; exact fun h => h)))⟩⟩)) ?_
      refine sg (c := ((x21 == true) && (x22 == false))) 71 [8] (fun w20 hw20 => by rintro v71 h71; exact .fin (⟨guard_opt h71, fun hc => yld_move rfl ⟨Grow.refl _, rfl⟩⟩)) ?_
      refine sg (c := ((x21 == true) && (x22 == false))) 71 [8] (fun w20 hw20 => by rintro v71 h71; exact .fin (⟨guard_opt h71, fun hc => yld_move rfl ⟨Grow.refl _, rfl⟩⟩)) ?_
      refine sg (c := ((x21 == true) && (x22 == false))) 71 [8, 9, 10] (fun w20 hw20 => by rintro v71 h71 v72 h72 v73 h73; exact .fin (⟨guard_opt h71, fun hc => yld_eqTo (c := .bool (decide (cmpVec (mixQ Qw Qa i) na Qa na = 0))) ((by have ev72 : v72 = v10 := (show v72 = v10 from (h72.1 (by revert hc; exact fun h => h))); subst ev72; have ev73 : v73 = v7 := (show v73 = v7 from (h73.1 (by revert hc; exact fun h => h))); subst ev73; exact yld_call rfl cal_vec_Same rfl (cVecSame (vec0 (ownv_vec (MR.mono _ hw20 h10))) (vec0 (ownv_vec (MR.mono _ hw20 h7))) (cm_ok (tw i) sQa (by decide))))) (congrArg Value.bool ex23.symm)⟩)) ?_
      refine sg (c := ((x21 == true) && (x22 == false))) 71 [8, 11] (fun w20 hw20 => by rintro v71 h71 v74 h74; exact .fin (⟨guard_opt h71, fun hc => yld_eqTo (c := .bool (!x23)) (yld_not rfl (show v74 = .bool (x23) from (h74.1 (by revert hc; exact fun h => h))) ⟨Grow.refl _, rfl⟩) (congrArg Value.bool ex24.symm)⟩)) ?_
      refine sg (c := (x21 == true)) 67 [4, 8, 12] (fun w20 hw20 => by rintro _ rfl v71 h71 v75 h75; exact .fin (⟨guard_eq, fun hc => yld_eqTo (c := .bool ((x22 || x24))) (yld_pick_or rfl (show v71 = .bool (x22) from (h71.1 (by revert hc; exact fun h => h))) rfl (fun ht => h75.1 (by revert ht; revert hc; cases x21 <;> cases x22 <;> decide)) ⟨Grow.refl _, rfl⟩) (congrArg Value.bool ex25.symm)⟩)) ?_
      refine so [4, 13] (fun w20 hw20 => by rintro _ rfl v76 h76; exact .fin (yld_eqTo (c := .bool ((x21 && x25))) (yld_pick_and rfl rfl (fun ht => h76.1 (by revert ht; cases x21 <;> decide)) rfl ⟨Grow.refl _, rfl⟩) (congrArg Value.bool ex26.symm))) ?_
      exact so [14] (fun w20 hw20 => by rintro _ rfl; exact .fin (yld_assign rfl ⟨Grow.refl _, rfl⟩)) (.nil _ _)
    rintro w20 hw20 v63 e63 v64 - v65 - _ rfl _ rfl v68 - v69 - v70 - v71 - v72 - v73 - v74 - v75 - v76 - _ rfl _ rfl -
    have W20 : Grow w w20 := W16.trans hw20
    have z20 : w16.heap.size ≤ w20.heap.size := hw20.size
    subst v63
    replace hc := MR.mono _ hw20 hc
    subst ex21
    subst ex22
    subst ex23
    subst ex24
    subst ex25
    subst ex26
    refine fr (va :: vb :: vc :: u :: u :: u :: .bool ((((decide (cmpVec Qa na Qa na = 0)) && ((((((na : Nat) : Int) : Int) == (0 : Int)) || (!(decide (cmpVec (mixQ Qw Qa i) na Qa na = 0)))))))) :: v7 :: v8 :: v9 :: v10 :: It i :: .bool (true) :: .bool (!true) :: v14 :: v15 :: v16 :: v17 :: v18 :: v19 :: v7 :: v8 :: v22 :: v8 :: v7 :: v25 :: v26 :: .bool (((cmpVec Qa na Qb nb : Int) != (-(cmpVec Qb nb Qa na) : Int))) :: .bool (((cmpVec Qa na Qb nb : Int) != (-(cmpVec Qb nb Qa na) : Int))) :: v29 :: v30 :: v31 :: v32 :: v33 :: v34 :: v35 :: v36 :: v37 :: v38 :: v39 :: v40 :: v41 :: v42 :: v43 :: v44 :: .bool (((((cmpVec Qa na Qb nb : Int) != (-(cmpVec Qb nb Qa na) : Int)) || (((((decide ((cmpVec Qa na Qb nb : Int) ≤ (0 : Int))) && (decide ((cmpVec Qb nb Qc nc : Int) ≤ (0 : Int))))) && (decide ((cmpVec Qa na Qc nc : Int) > (0 : Int)))))))) :: v7 :: v47 :: v48 :: v10 :: v50 :: .bool (decide ((((i : Nat) : Int) : Int) < (((na : Nat) : Int) : Int))) :: (tt15 52) :: (tt15 53) :: (tt15 54) :: (tt15 55) :: (tt15 56) :: (tt15 57) :: (tt15 58) :: (tt15 59) :: (tt15 60) :: (tt15 61) :: (tt15 62) :: v7 :: v64 :: v65 :: .bool ((decide (cmpVec Qa na Qa na = 0))) :: .bool ((decide (cmpVec Qa na Qa na = 0))) :: v68 :: v69 :: v70 :: v71 :: v72 :: v73 :: v74 :: v75 :: v76 :: .bool ((((decide (cmpVec Qa na Qa na = 0)) && ((((((na : Nat) : Int) : Int) == (0 : Int)) || (!(decide (cmpVec (mixQ Qw Qa i) na Qa na = 0)))))))) :: []) ?_
    refine nx ?_
    refine wp_ret ?_
    change bodyPost Try.prog Try.f3 (Ret (.eq (.bool (true))) w) .ret _ _
    exact body_slot rfl (by show Value.bool _ = Value.bool _; rw [show ((((decide (cmpVec Qa na Qa na = 0)) && ((((((na : Nat) : Int) : Int) == (0 : Int)) || (!(decide (cmpVec (mixQ Qw Qa i) na Qa na = 0)))))))) = (true) from (by rw [hin]; exact order2 Qa Qw na hQw)]) rfl W20
end Go.Proofs.Ytngghjhmfpmilaa
