/- actuarylaw10.VecRoom, its walk. -/
import Derived.Test.YtngghjhmfpmilaaVecR
import Derived.Deep.LoopGhost
namespace Go.Proofs.Ytngghjhmfpmilaa
open Go.RowKit
theorem cal_actuarylaw10_awake : Callable Try.prog 11 := callable_of Try.func11 rfl (by kernel_rfl)
theorem cal_actuarylaw10_Make : Callable Try.prog 12 := callable_of Try.func12 rfl (by kernel_rfl)
theorem cal_vec_Scale : Callable Try.prog 19 := callable_of Try.func19 rfl (by kernel_rfl)
theorem cal_vec_Vec_Zero : Callable Try.prog 25 := callable_of Try.func25 rfl (by kernel_rfl)
theorem cal_vec_Sub : Callable Try.prog 27 := callable_of Try.func27 rfl (by kernel_rfl)
set_option maxRecDepth 100000 in
set_option maxHeartbeats 2000000 in
theorem vecRoom {Pa Da : Nat → Int} {na : Nat} {Pb Db : Nat → Int} {nb : Nat} {Pc Dc : Nat → Int} {nc : Nat} {pr dr : Int} {va : Value} {vb : Value} {vc : Value} {vr : Value} {w : World}  (ha : (MR.sl (fun k => w.heap.size ≤ k) 2 (fun i => .eq (.agg #[.int .i64 (Pa i), .int .i64 (Da i)])) (na)).R w va) (hb : (MR.sl (fun k => w.heap.size ≤ k) 2 (fun i => .eq (.agg #[.int .i64 (Pb i), .int .i64 (Db i)])) (nb)).R w vb) (hc : (MR.sl (fun k => w.heap.size ≤ k) 2 (fun i => .eq (.agg #[.int .i64 (Pc i), .int .i64 (Dc i)])) (nc)).R w vc) (hr : (MR.eq (.agg #[.int .i64 (pr), .int .i64 (dr)])).R w vr) (hna : na ≤ 1048576) (hra : ∀ i, i < na → R64 (Pa i) ∧ R64 (Da i)) (hnb : nb ≤ 1048576) (hrb : ∀ i, i < nb → R64 (Pb i) ∧ R64 (Db i)) (hnc : nc ≤ 1048576) (hrc : ∀ i, i < nc → R64 (Pc i) ∧ R64 (Dc i)) (hpr : R64 pr) (hdr : R64 dr) : Calls Try.prog 6 #[va, vb, vc, vr] w (Ret (.eq (.bool (true))) w) := by
  have _ := hnc
  have _ := hnb
  have _ := hna
  obtain ⟨Qa, hQa⟩ : ∃ q : Nat → Rat, q = fun j0 => fracQ (Pa j0) (Da j0) := ⟨_, rfl⟩
  have sQa : ∀ i, i < na → szq (Qa i) ≤ 2 := fun i hi => by rw [hQa]; exact szq_frac (hra i hi).1 (hra i hi).2
  obtain ⟨Qb, hQb⟩ : ∃ q : Nat → Rat, q = fun j0 => fracQ (Pb j0) (Db j0) := ⟨_, rfl⟩
  have sQb : ∀ i, i < nb → szq (Qb i) ≤ 2 := fun i hi => by rw [hQb]; exact szq_frac (hrb i hi).1 (hrb i hi).2
  obtain ⟨Qc, hQc⟩ : ∃ q : Nat → Rat, q = fun j0 => fracQ (Pc j0) (Dc j0) := ⟨_, rfl⟩
  have sQc : ∀ i, i < nc → szq (Qc i) ≤ 2 := fun i hi => by rw [hQc]; exact szq_frac (hrc i hi).1 (hrc i hi).2
  have hB := Nat.le_refl w.heap.size
  obtain ⟨N, hN⟩ : ∃ N, N = min (min na nb) nc := ⟨_, rfl⟩
  obtain ⟨R, hR⟩ : ∃ R : Rat, R = fracQ pr dr := ⟨_, rfl⟩
  have sR : szq R ≤ 2 := by rw [hR]; exact szq_frac hpr hdr
  have ta : ∀ i, i < N → szq (Qa i) ≤ 2 := fun i hi => sQa i (by omega)
  have tb : ∀ i, i < N → szq (Qb i) ≤ 2 := fun i hi => sQb i (by omega)
  have tc : ∀ i, i < N → szq (Qc i) ≤ 2 := fun i hi => sQc i (by omega)
  have s1 : szq (((1 : Int) : Rat)) ≤ 2 := sb_int (by decide) (by decide)
  have s2 : szq (((-1 : Int) : Rat)) ≤ 2 := sb_int (by decide) (by decide)
  obtain ⟨Qs, hQs⟩ : ∃ q : Nat → Rat, q = fun j0 => Qa j0 + Qb j0 := ⟨_, rfl⟩
  have ts : ∀ i, i < N → szq (Qs i) ≤ 9 := fun i hi => by rw [hQs]; exact sb_add (ta i hi) (tb i hi)
  obtain ⟨Qt, hQt⟩ : ∃ q : Nat → Rat, q = fun j0 => Qb j0 + Qa j0 := ⟨_, rfl⟩
  have tt : ∀ i, i < N → szq (Qt i) ≤ 9 := fun i hi => by rw [hQt]; exact sb_add (tb i hi) (ta i hi)
  obtain ⟨Qo, hQo⟩ : ∃ q : Nat → Rat, q = fun j0 => Qa j0 - Qa j0 := ⟨_, rfl⟩
  obtain ⟨Qu, hQu⟩ : ∃ q : Nat → Rat, q = fun j0 => (fun j0 => R * Qa j0) j0 + (fun j0 => R * Qb j0) j0 := ⟨_, rfl⟩
  have tu : ∀ i, i < N → szq (Qu i) ≤ 17 := fun i hi => by rw [hQu]; exact sb_add (sb_mul sR (ta i hi)) (sb_mul sR (tb i hi))
  have hNs : N ≤ 1048576 := by omega
  have d1 := dot_le ts tc (by decide) hNs
  have d2 := dot_le ta tc (by decide) hNs
  have d3 := dot_le tb tc (by decide) hNs
  refine calls_enter (a := ⟨List.toArray ([va, vb, vc, vr] ++ us 126), []⟩) Try.func6 rfl (by kernel_rfl) ?_
  have NL : NoLook (bodyPost Try.prog Try.f6 (Ret (.eq (.bool (true))) w)) := noLook_body
  refine wp_seq ?_
  refine rg (fun c d v a w h => NL c d v a w h) [(7, .ptr 48 (.eq (.agg #[.int .i64 (pr), .int .i64 (dr)]))), (8, .eq (.bool (false)))] [0] [] [] 130 2 ?_ ?_
  · refine sn [] (fun w1 hw1 => .fin (yld_newBox rfl rfl (MR.mono _ hw1 hr))) ?_
    exact so [] (fun w1 hw1 => .fin (yld_assign rfl ⟨Grow.refl _, rfl⟩)) (.nil _ _)
  rintro w1 hw1 _ ⟨b7, rfl, B7⟩ _ rfl hN
  have W1 : Grow w w1 := (Grow.refl w).trans hw1
  have z1 : w.heap.size ≤ w1.heap.size := hw1.size
  have y_b7 : w.heap.size ≤ b7 ∧ b7 < w1.heap.size := hN.1
  clear hN
  replace ha := MR.mono _ hw1 ha
  replace hb := MR.mono _ hw1 hb
  replace hc := MR.mono _ hw1 hc
  replace hr := MR.mono _ hw1 hr
  refine fr ([va, vb, vc, vr, u, u, u, pt b7, .bool (false)] ++ us 121) ?_
  refine nx ?_
  refine wp_seq ?_
  refine wp_seq ?_
  refine rg (fun c d v a w h => NL c d v a w h) [(27, .eq (.bool (true))), (28, .eq (.bool (!true)))] [] [] [] 130 2 ?_ ?_
  · refine so [] (fun w2 hw2 => .fin (yld_call rfl cal_actuarylaw10_awake rfl (cAwake10))) ?_
    exact so [0] (fun w2 hw2 => by rintro _ rfl; exact .fin (yld_not rfl rfl ⟨Grow.refl _, rfl⟩)) (.nil _ _)
  rintro w2 hw2 _ rfl _ rfl -
  have W2 : Grow w w2 := W1.trans hw2
  have z2 : w1.heap.size ≤ w2.heap.size := hw2.size
  replace B7 := B7.grow hw2
  replace ha := MR.mono _ hw2 ha
  replace hb := MR.mono _ hw2 hb
  replace hc := MR.mono _ hw2 hc
  replace hr := MR.mono _ hw2 hr
  refine fr ((va :: vb :: vc :: vr :: u :: u :: u :: pt b7 :: .bool (false) :: u :: u :: u :: u :: u :: u :: u :: u :: u :: u :: u :: u :: u :: u :: u :: u :: u :: u :: .bool (true) :: .bool (!true) :: []) ++ us 101) ?_
  refine nx ?_
  refine wp_cond_false rfl ?_
  refine wp_skip ?_
  change Code.wp _ _ _ ⟨_, []⟩ _
  refine wp_seq ?_
  refine rg (fun c d v a w h => NL c d v a w h) [(29, .sl (fun k => w.heap.size ≤ k) 2 (fun i => .eq (.agg #[.int .i64 (Pa i), .int .i64 (Da i)])) (na)), (30, .eq (.int .i64 (((na : Nat) : Int)))), (31, .sl (fun k => w.heap.size ≤ k) 2 (fun i => .eq (.agg #[.int .i64 (Pb i), .int .i64 (Db i)])) (nb)), (32, .eq (.int .i64 (((nb : Nat) : Int)))), (33, .sl (fun k => w.heap.size ≤ k) 2 (fun i => .eq (.agg #[.int .i64 (Pc i), .int .i64 (Dc i)])) (nc)), (34, .eq (.int .i64 (((nc : Nat) : Int)))), (35, .eq (.int .i64 (((N : Nat) : Int)))), (9, .eq (.int .i64 (((N : Nat) : Int))))] [] [] [] 130 8 ?_ ?_
  · refine so [] (fun w3 hw3 => .fin (yld_move rfl ⟨Grow.refl _, (MR.mono _ hw3 ha)⟩)) ?_
    refine soP [(29, .sl (fun k => w.heap.size ≤ k) 2 (fun i => .eq (.agg #[.int .i64 (Pa i), .int .i64 (Da i)])) (na))] (fun w3 hw3 => by rintro v29 h29; exact .fin (yld_lenS Try.underlying22 rfl h29)) ?_
    refine so [] (fun w3 hw3 => .fin (yld_move rfl ⟨Grow.refl _, (MR.mono _ hw3 hb)⟩)) ?_
    refine soP [(31, .sl (fun k => w.heap.size ≤ k) 2 (fun i => .eq (.agg #[.int .i64 (Pb i), .int .i64 (Db i)])) (nb))] (fun w3 hw3 => by rintro v31 h31; exact .fin (yld_lenS Try.underlying22 rfl h31)) ?_
    refine so [] (fun w3 hw3 => .fin (yld_move rfl ⟨Grow.refl _, (MR.mono _ hw3 hc)⟩)) ?_
    refine soP [(33, .sl (fun k => w.heap.size ≤ k) 2 (fun i => .eq (.agg #[.int .i64 (Pc i), .int .i64 (Dc i)])) (nc))] (fun w3 hw3 => by rintro v33 h33; exact .fin (yld_lenS Try.underlying22 rfl h33)) ?_
    refine so [1, 3, 5] (fun w3 hw3 => by rintro _ rfl _ rfl _ rfl; exact .fin (yld_as (R := .eq (.int .i64 (min (min (((na : Nat) : Int) : Int) (((nb : Nat) : Int) : Int)) (((nc : Nat) : Int) : Int)))) (R2 := .eq (.int .i64 (((N : Nat) : Int)))) (yld_min3 rfl rfl rfl rfl ⟨Grow.refl _, rfl⟩) (fun h => h.trans (congrArg (Value.int .i64) (by omega))))) ?_
    exact so [6] (fun w3 hw3 => by rintro _ rfl; exact .fin (yld_assign rfl ⟨Grow.refl _, rfl⟩)) (.nil _ _)
  rintro w3 hw3 v29 - v30 - v31 - v32 - v33 - v34 - v35 - _ rfl -
  have W3 : Grow w w3 := W2.trans hw3
  have z3 : w2.heap.size ≤ w3.heap.size := hw3.size
  replace B7 := B7.grow hw3
  replace ha := MR.mono _ hw3 ha
  replace hb := MR.mono _ hw3 hb
  replace hc := MR.mono _ hw3 hc
  replace hr := MR.mono _ hw3 hr
  refine fr ((va :: vb :: vc :: vr :: u :: u :: u :: pt b7 :: .bool (false) :: It N :: u :: u :: u :: u :: u :: u :: u :: u :: u :: u :: u :: u :: u :: u :: u :: u :: u :: .bool (true) :: .bool (!true) :: v29 :: v30 :: v31 :: v32 :: v33 :: v34 :: v35 :: []) ++ us 94) ?_
  refine nx ?_
  refine wp_seq ?_
  refine rg (fun c d v a w h => NL c d v a w h) ((36, .sl (fun k => w.heap.size ≤ k) 2 (fun i => .eq (.agg #[.int .i64 (Pa i), .int .i64 (Da i)])) (na)) :: (37, .eq (.int .i64 (((N : Nat) : Int)))) :: (38, .sl (fun k => w.heap.size ≤ k) 2 (fun i => .eq (.agg #[.int .i64 (Pa i), .int .i64 (Da i)])) (N)) :: (39, .ownv (w.heap.size) (fun k => k = b7) (Qa) (N)) :: (40, .sl (fun k => w.heap.size ≤ k) 2 (fun i => .eq (.agg #[.int .i64 (Pb i), .int .i64 (Db i)])) (nb)) :: (41, .eq (.int .i64 (((N : Nat) : Int)))) :: (42, .sl (fun k => w.heap.size ≤ k) 2 (fun i => .eq (.agg #[.int .i64 (Pb i), .int .i64 (Db i)])) (N)) :: (43, .ownv (w.heap.size) (fun k => k = b7) (Qb) (N)) :: (44, .sl (fun k => w.heap.size ≤ k) 2 (fun i => .eq (.agg #[.int .i64 (Pc i), .int .i64 (Dc i)])) (nc)) :: (45, .eq (.int .i64 (((N : Nat) : Int)))) :: (46, .sl (fun k => w.heap.size ≤ k) 2 (fun i => .eq (.agg #[.int .i64 (Pc i), .int .i64 (Dc i)])) (N)) :: (47, .ownv (w.heap.size) (fun k => k = b7) (Qc) (N)) :: (10, .ownv (w.heap.size) (fun k => k = b7) (Qa) (N)) :: (11, .ownv (w.heap.size) (fun k => k = b7) (Qb) (N)) :: (12, .ownv (w.heap.size) (fun k => k = b7) (Qc) (N)) :: []) [] [] [] 130 15 ?_ ?_
  · refine so [] (fun w4 hw4 => .fin (yld_move rfl ⟨Grow.refl _, (MR.mono _ hw4 ha)⟩)) ?_
    refine so [] (fun w4 hw4 => .fin (yld_move rfl ⟨Grow.refl _, rfl⟩)) ?_
    refine soP [(36, .sl (fun k => w.heap.size ≤ k) 2 (fun i => .eq (.agg #[.int .i64 (Pa i), .int .i64 (Da i)])) (na)), (37, .eq (.int .i64 (((N : Nat) : Int))))] (fun w4 hw4 => by rintro v36 h36 _ rfl; exact .fin (yld_firsts (k := N) (by kernel_rfl) (by kernel_rfl) rfl h36 rfl rfl (by omega))) ?_
    refine soP [(38, .sl (fun k => w.heap.size ≤ k) 2 (fun i => .eq (.agg #[.int .i64 (Pa i), .int .i64 (Da i)])) (N))] (fun w4 hw4 => by rintro v38 h38; exact .fin (yld_as (R := .ownv (w.heap.size) (fun k => k = b7) (fun j0 => fracQ (Pa j0) (Da j0)) (N)) (R2 := .ownv (w.heap.size) (fun k => k = b7) (Qa) (N)) (yld_call rfl cal_actuarylaw10_Make rfl (cMake10 (P := Pa) (D := Da) (B := w.heap.size) (F := fun k => k = b7) (Grow.trans W3 hw4).size (fun k hk => (fun e => by rw [e]; exact Nat.lt_of_lt_of_le B7.lt hw4.size) hk) (sl_own h38 fun _ h => h.elim) (by omega) (fun i hi => hra i (by omega)))) (fun h => by rw [hQa]; exact h))) ?_
    refine so [] (fun w4 hw4 => .fin (yld_move rfl ⟨Grow.refl _, (MR.mono _ hw4 hb)⟩)) ?_
    refine so [] (fun w4 hw4 => .fin (yld_move rfl ⟨Grow.refl _, rfl⟩)) ?_
    refine soP [(40, .sl (fun k => w.heap.size ≤ k) 2 (fun i => .eq (.agg #[.int .i64 (Pb i), .int .i64 (Db i)])) (nb)), (41, .eq (.int .i64 (((N : Nat) : Int))))] (fun w4 hw4 => by rintro v40 h40 _ rfl; exact .fin (yld_firsts (k := N) (by kernel_rfl) (by kernel_rfl) rfl h40 rfl rfl (by omega))) ?_
    refine soP [(42, .sl (fun k => w.heap.size ≤ k) 2 (fun i => .eq (.agg #[.int .i64 (Pb i), .int .i64 (Db i)])) (N))] (fun w4 hw4 => by rintro v42 h42; exact .fin (yld_as (R := .ownv (w.heap.size) (fun k => k = b7) (fun j0 => fracQ (Pb j0) (Db j0)) (N)) (R2 := .ownv (w.heap.size) (fun k => k = b7) (Qb) (N)) (yld_call rfl cal_actuarylaw10_Make rfl (cMake10 (P := Pb) (D := Db) (B := w.heap.size) (F := fun k => k = b7) (Grow.trans W3 hw4).size (fun k hk => (fun e => by rw [e]; exact Nat.lt_of_lt_of_le B7.lt hw4.size) hk) (sl_own h42 fun _ h => h.elim) (by omega) (fun i hi => hrb i (by omega)))) (fun h => by rw [hQb]; exact h))) ?_
    refine so [] (fun w4 hw4 => .fin (yld_move rfl ⟨Grow.refl _, (MR.mono _ hw4 hc)⟩)) ?_
    refine so [] (fun w4 hw4 => .fin (yld_move rfl ⟨Grow.refl _, rfl⟩)) ?_
    refine soP [(44, .sl (fun k => w.heap.size ≤ k) 2 (fun i => .eq (.agg #[.int .i64 (Pc i), .int .i64 (Dc i)])) (nc)), (45, .eq (.int .i64 (((N : Nat) : Int))))] (fun w4 hw4 => by rintro v44 h44 _ rfl; exact .fin (yld_firsts (k := N) (by kernel_rfl) (by kernel_rfl) rfl h44 rfl rfl (by omega))) ?_
    refine soP [(46, .sl (fun k => w.heap.size ≤ k) 2 (fun i => .eq (.agg #[.int .i64 (Pc i), .int .i64 (Dc i)])) (N))] (fun w4 hw4 => by rintro v46 h46; exact .fin (yld_as (R := .ownv (w.heap.size) (fun k => k = b7) (fun j0 => fracQ (Pc j0) (Dc j0)) (N)) (R2 := .ownv (w.heap.size) (fun k => k = b7) (Qc) (N)) (yld_call rfl cal_actuarylaw10_Make rfl (cMake10 (P := Pc) (D := Dc) (B := w.heap.size) (F := fun k => k = b7) (Grow.trans W3 hw4).size (fun k hk => (fun e => by rw [e]; exact Nat.lt_of_lt_of_le B7.lt hw4.size) hk) (sl_own h46 fun _ h => h.elim) (by omega) (fun i hi => hrc i (by omega)))) (fun h => by rw [hQc]; exact h))) ?_
    refine soP [(39, .ownv (w.heap.size) (fun k => k = b7) (Qa) (N))] (fun w4 hw4 => by rintro v39 h39; exact .fin (yld_assign rfl ⟨Grow.refl _, h39⟩)) ?_
    refine soP [(43, .ownv (w.heap.size) (fun k => k = b7) (Qb) (N))] (fun w4 hw4 => by rintro v43 h43; exact .fin (yld_assign rfl ⟨Grow.refl _, h43⟩)) ?_
    exact soP [(47, .ownv (w.heap.size) (fun k => k = b7) (Qc) (N))] (fun w4 hw4 => by rintro v47 h47; exact .fin (yld_assign rfl ⟨Grow.refl _, h47⟩)) (.nil _ _)
  rintro w4 hw4 v36 - v37 - v38 - v39 - v40 - v41 - v42 - v43 - v44 - v45 - v46 - v47 - v10 h10 v11 h11 v12 h12 -
  have W4 : Grow w w4 := W3.trans hw4
  have z4 : w3.heap.size ≤ w4.heap.size := hw4.size
  replace h10 := ownv_own (F' := fun k => (k = b7) ∨ w4.heap.size ≤ k) h10 (fun k hk => hk)
  replace h11 := ownv_own (F' := fun k => (k = b7) ∨ w4.heap.size ≤ k) h11 (fun k hk => hk)
  replace h12 := ownv_own (F' := fun k => (k = b7) ∨ w4.heap.size ≤ k) h12 (fun k hk => hk)
  replace B7 := B7.grow hw4
  replace hc := MR.mono _ hw4 hc
  replace hr := MR.mono _ hw4 hr
  refine fr ((va :: vb :: vc :: vr :: u :: u :: u :: pt b7 :: .bool (false) :: It N :: v10 :: v11 :: v12 :: u :: u :: u :: u :: u :: u :: u :: u :: u :: u :: u :: u :: u :: u :: .bool (true) :: .bool (!true) :: v29 :: v30 :: v31 :: v32 :: v33 :: v34 :: v35 :: v36 :: v37 :: v38 :: v39 :: v40 :: v41 :: v42 :: v43 :: v44 :: v45 :: v46 :: v47 :: []) ++ us 82) ?_
  refine nx ?_
  refine wp_seq ?_
  refine rg (fun c d v a w h => NL c d v a w h) [(49, .eq (v10)), (50, .eq (v11)), (51, .tup2 (.ownv (w.heap.size) (fun k => k = b7) (fun j0 => Qa j0 + Qb j0) (if N = N then N else 0)) (.eq (.bool (decide (N = N))))), (48, .tup2 (.ownv (w.heap.size) (fun k => k = b7) (fun j0 => Qa j0 + Qb j0) (if N = N then N else 0)) (.eq (.bool (decide (N = N))))), (52, .ownv (w.heap.size) (fun k => k = b7) (Qs) (N)), (53, .eq (.bool (decide (N = N)))), (13, .ownv (w.heap.size) (fun k => k = b7) (Qs) (N)), (14, .eq (.bool (decide (N = N))))] [] [] [] 130 8 ?_ ?_
  · refine so [] (fun w5 hw5 => .fin (yld_move rfl ⟨Grow.refl _, rfl⟩)) ?_
    refine so [] (fun w5 hw5 => .fin (yld_move rfl ⟨Grow.refl _, rfl⟩)) ?_
    refine so [0, 1] (fun w5 hw5 => by rintro v49 e49 v50 e50; subst v49; subst v50; exact .fin (yld_call rfl cal_vec_Add rfl (cVecAdd (B := w.heap.size) (F := fun k => k = b7) (Grow.trans W4 hw5).size (fun k hk => (fun e => by rw [e]; exact Nat.lt_of_lt_of_le B7.lt hw5.size) hk) (vec0 (ownv_vec (MR.mono _ hw5 h10))) (vec0 (ownv_vec (MR.mono _ hw5 h11))) (by omega) (at_ok s1 ta tb (by decide))))) ?_
    refine soP [(51, .tup2 (.ownv (w.heap.size) (fun k => k = b7) (fun j0 => Qa j0 + Qb j0) (if N = N then N else 0)) (.eq (.bool (decide (N = N)))))] (fun w5 hw5 => by rintro _ ⟨x51_0, x51_1, rfl, hx51_0, hx51_1⟩; exact .fin (yld_move rfl ⟨Grow.refl _, ⟨x51_0, x51_1, rfl, hx51_0, hx51_1⟩⟩)) ?_
    refine soP [(48, .tup2 (.ownv (w.heap.size) (fun k => k = b7) (fun j0 => Qa j0 + Qb j0) (if N = N then N else 0)) (.eq (.bool (decide (N = N)))))] (fun w5 hw5 => by rintro _ ⟨x48_0, x48_1, rfl, hx48_0, hx48_1⟩; exact .fin (yld_as (R := .ownv (w.heap.size) (fun k => k = b7) (fun j0 => Qa j0 + Qb j0) (if N = N then N else 0)) (R2 := .ownv (w.heap.size) (fun k => k = b7) (Qs) (N)) (yld_extract rfl rfl rfl ⟨Grow.refl _, hx48_0⟩) (fun h => by rw [hQs]; exact ownv_n (if_pos rfl) h))) ?_
    refine soP [(48, .tup2 (.ownv (w.heap.size) (fun k => k = b7) (fun j0 => Qa j0 + Qb j0) (if N = N then N else 0)) (.eq (.bool (decide (N = N)))))] (fun w5 hw5 => by rintro _ ⟨x48_0, x48_1, rfl, hx48_0, hx48_1⟩; exact .fin (yld_extract rfl rfl rfl ⟨Grow.refl _, hx48_1⟩)) ?_
    refine soP [(52, .ownv (w.heap.size) (fun k => k = b7) (Qs) (N))] (fun w5 hw5 => by rintro v52 h52; exact .fin (yld_assign rfl ⟨Grow.refl _, h52⟩)) ?_
    exact so [5] (fun w5 hw5 => by rintro _ rfl; exact .fin (yld_assign rfl ⟨Grow.refl _, rfl⟩)) (.nil _ _)
  rintro w5 hw5 v49 e49 v50 e50 v51 - v48 - v52 - v53 - v13 h13 _ rfl -
  have W5 : Grow w w5 := W4.trans hw5
  have z5 : w4.heap.size ≤ w5.heap.size := hw5.size
  subst v49
  subst v50
  replace h13 := ownv_own (F' := fun k => (k = b7) ∨ w5.heap.size ≤ k) h13 (fun k hk => hk)
  replace B7 := B7.grow hw5
  replace hc := MR.mono _ hw5 hc
  replace hr := MR.mono _ hw5 hr
  replace h10 := MR.mono _ hw5 h10
  replace h11 := MR.mono _ hw5 h11
  replace h12 := MR.mono _ hw5 h12
  refine fr ((va :: vb :: vc :: vr :: u :: u :: u :: pt b7 :: .bool (false) :: It N :: v10 :: v11 :: v12 :: v13 :: .bool (decide (N = N)) :: u :: u :: u :: u :: u :: u :: u :: u :: u :: u :: u :: u :: .bool (true) :: .bool (!true) :: v29 :: v30 :: v31 :: v32 :: v33 :: v34 :: v35 :: v36 :: v37 :: v38 :: v39 :: v40 :: v41 :: v42 :: v43 :: v44 :: v45 :: v46 :: v47 :: v48 :: v10 :: v11 :: v51 :: v52 :: v53 :: []) ++ us 76) ?_
  refine nx ?_
  refine wp_seq ?_
  refine rg (fun c d v a w h => NL c d v a w h) [(55, .eq (v11)), (56, .eq (v10)), (57, .tup2 (.ownv (w.heap.size) (fun k => k = b7) (fun j0 => Qb j0 + Qa j0) (if N = N then N else 0)) (.eq (.bool (decide (N = N))))), (54, .tup2 (.ownv (w.heap.size) (fun k => k = b7) (fun j0 => Qb j0 + Qa j0) (if N = N then N else 0)) (.eq (.bool (decide (N = N))))), (58, .ownv (w.heap.size) (fun k => k = b7) (Qt) (N)), (59, .eq (.bool (decide (N = N)))), (15, .ownv (w.heap.size) (fun k => k = b7) (Qt) (N)), (16, .eq (.bool (decide (N = N))))] [] [] [] 130 8 ?_ ?_
  · refine so [] (fun w6 hw6 => .fin (yld_move rfl ⟨Grow.refl _, rfl⟩)) ?_
    refine so [] (fun w6 hw6 => .fin (yld_move rfl ⟨Grow.refl _, rfl⟩)) ?_
    refine so [0, 1] (fun w6 hw6 => by rintro v55 e55 v56 e56; subst v55; subst v56; exact .fin (yld_call rfl cal_vec_Add rfl (cVecAdd (B := w.heap.size) (F := fun k => k = b7) (Grow.trans W5 hw6).size (fun k hk => (fun e => by rw [e]; exact Nat.lt_of_lt_of_le B7.lt hw6.size) hk) (vec0 (ownv_vec (MR.mono _ hw6 h11))) (vec0 (ownv_vec (MR.mono _ hw6 h10))) (by omega) (at_ok s1 tb ta (by decide))))) ?_
    refine soP [(57, .tup2 (.ownv (w.heap.size) (fun k => k = b7) (fun j0 => Qb j0 + Qa j0) (if N = N then N else 0)) (.eq (.bool (decide (N = N)))))] (fun w6 hw6 => by rintro _ ⟨x57_0, x57_1, rfl, hx57_0, hx57_1⟩; exact .fin (yld_move rfl ⟨Grow.refl _, ⟨x57_0, x57_1, rfl, hx57_0, hx57_1⟩⟩)) ?_
    refine soP [(54, .tup2 (.ownv (w.heap.size) (fun k => k = b7) (fun j0 => Qb j0 + Qa j0) (if N = N then N else 0)) (.eq (.bool (decide (N = N)))))] (fun w6 hw6 => by rintro _ ⟨x54_0, x54_1, rfl, hx54_0, hx54_1⟩; exact .fin (yld_as (R := .ownv (w.heap.size) (fun k => k = b7) (fun j0 => Qb j0 + Qa j0) (if N = N then N else 0)) (R2 := .ownv (w.heap.size) (fun k => k = b7) (Qt) (N)) (yld_extract rfl rfl rfl ⟨Grow.refl _, hx54_0⟩) (fun h => by rw [hQt]; exact ownv_n (if_pos rfl) h))) ?_
    refine soP [(54, .tup2 (.ownv (w.heap.size) (fun k => k = b7) (fun j0 => Qb j0 + Qa j0) (if N = N then N else 0)) (.eq (.bool (decide (N = N)))))] (fun w6 hw6 => by rintro _ ⟨x54_0, x54_1, rfl, hx54_0, hx54_1⟩; exact .fin (yld_extract rfl rfl rfl ⟨Grow.refl _, hx54_1⟩)) ?_
    refine soP [(58, .ownv (w.heap.size) (fun k => k = b7) (Qt) (N))] (fun w6 hw6 => by rintro v58 h58; exact .fin (yld_assign rfl ⟨Grow.refl _, h58⟩)) ?_
    exact so [5] (fun w6 hw6 => by rintro _ rfl; exact .fin (yld_assign rfl ⟨Grow.refl _, rfl⟩)) (.nil _ _)
  rintro w6 hw6 v55 e55 v56 e56 v57 - v54 - v58 - v59 - v15 h15 _ rfl -
  have W6 : Grow w w6 := W5.trans hw6
  have z6 : w5.heap.size ≤ w6.heap.size := hw6.size
  subst v55
  subst v56
  replace h15 := ownv_own (F' := fun k => (k = b7) ∨ w6.heap.size ≤ k) h15 (fun k hk => hk)
  replace B7 := B7.grow hw6
  replace hc := MR.mono _ hw6 hc
  replace hr := MR.mono _ hw6 hr
  replace h10 := MR.mono _ hw6 h10
  replace h11 := MR.mono _ hw6 h11
  replace h12 := MR.mono _ hw6 h12
  replace h13 := MR.mono _ hw6 h13
  refine fr ((va :: vb :: vc :: vr :: u :: u :: u :: pt b7 :: .bool (false) :: It N :: v10 :: v11 :: v12 :: v13 :: .bool (decide (N = N)) :: v15 :: .bool (decide (N = N)) :: u :: u :: u :: u :: u :: u :: u :: u :: u :: u :: .bool (true) :: .bool (!true) :: v29 :: v30 :: v31 :: v32 :: v33 :: v34 :: v35 :: v36 :: v37 :: v38 :: v39 :: v40 :: v41 :: v42 :: v43 :: v44 :: v45 :: v46 :: v47 :: v48 :: v10 :: v11 :: v51 :: v52 :: v53 :: v54 :: v11 :: v10 :: v57 :: v58 :: v59 :: []) ++ us 70) ?_
  refine nx ?_
  refine wp_seq ?_
  refine rg (fun c d v a w h => NL c d v a w h) [(61, .eq (v10)), (62, .eq (v10)), (63, .tup2 (.ownv (w.heap.size) (fun k => k = b7) (fun j0 => Qa j0 - Qa j0) (if N = N then N else 0)) (.eq (.bool (decide (N = N))))), (60, .tup2 (.ownv (w.heap.size) (fun k => k = b7) (fun j0 => Qa j0 - Qa j0) (if N = N then N else 0)) (.eq (.bool (decide (N = N))))), (64, .ownv (w.heap.size) (fun k => k = b7) (Qo) (N)), (65, .eq (.bool (decide (N = N)))), (17, .ownv (w.heap.size) (fun k => k = b7) (Qo) (N)), (18, .eq (.bool (decide (N = N))))] [] [] [] 130 8 ?_ ?_
  · refine so [] (fun w7 hw7 => .fin (yld_move rfl ⟨Grow.refl _, rfl⟩)) ?_
    refine so [] (fun w7 hw7 => .fin (yld_move rfl ⟨Grow.refl _, rfl⟩)) ?_
    refine so [0, 1] (fun w7 hw7 => by rintro v61 e61 v62 e62; subst v61; subst v62; exact .fin (yld_call rfl cal_vec_Sub rfl (cVecSub (B := w.heap.size) (F := fun k => k = b7) (Grow.trans W6 hw7).size (fun k hk => (fun e => by rw [e]; exact Nat.lt_of_lt_of_le B7.lt hw7.size) hk) (vec0 (ownv_vec (MR.mono _ hw7 h10))) (vec0 (ownv_vec (MR.mono _ hw7 h10))) (by omega) (at_ok s2 ta ta (by decide))))) ?_
    refine soP [(63, .tup2 (.ownv (w.heap.size) (fun k => k = b7) (fun j0 => Qa j0 - Qa j0) (if N = N then N else 0)) (.eq (.bool (decide (N = N)))))] (fun w7 hw7 => by rintro _ ⟨x63_0, x63_1, rfl, hx63_0, hx63_1⟩; exact .fin (yld_move rfl ⟨Grow.refl _, ⟨x63_0, x63_1, rfl, hx63_0, hx63_1⟩⟩)) ?_
    refine soP [(60, .tup2 (.ownv (w.heap.size) (fun k => k = b7) (fun j0 => Qa j0 - Qa j0) (if N = N then N else 0)) (.eq (.bool (decide (N = N)))))] (fun w7 hw7 => by rintro _ ⟨x60_0, x60_1, rfl, hx60_0, hx60_1⟩; exact .fin (yld_as (R := .ownv (w.heap.size) (fun k => k = b7) (fun j0 => Qa j0 - Qa j0) (if N = N then N else 0)) (R2 := .ownv (w.heap.size) (fun k => k = b7) (Qo) (N)) (yld_extract rfl rfl rfl ⟨Grow.refl _, hx60_0⟩) (fun h => by rw [hQo]; exact ownv_n (if_pos rfl) h))) ?_
    refine soP [(60, .tup2 (.ownv (w.heap.size) (fun k => k = b7) (fun j0 => Qa j0 - Qa j0) (if N = N then N else 0)) (.eq (.bool (decide (N = N)))))] (fun w7 hw7 => by rintro _ ⟨x60_0, x60_1, rfl, hx60_0, hx60_1⟩; exact .fin (yld_extract rfl rfl rfl ⟨Grow.refl _, hx60_1⟩)) ?_
    refine soP [(64, .ownv (w.heap.size) (fun k => k = b7) (Qo) (N))] (fun w7 hw7 => by rintro v64 h64; exact .fin (yld_assign rfl ⟨Grow.refl _, h64⟩)) ?_
    exact so [5] (fun w7 hw7 => by rintro _ rfl; exact .fin (yld_assign rfl ⟨Grow.refl _, rfl⟩)) (.nil _ _)
  rintro w7 hw7 v61 e61 v62 e62 v63 - v60 - v64 - v65 - v17 h17 _ rfl -
  have W7 : Grow w w7 := W6.trans hw7
  have z7 : w6.heap.size ≤ w7.heap.size := hw7.size
  subst v61
  subst v62
  replace h17 := ownv_own (F' := fun k => (k = b7) ∨ w7.heap.size ≤ k) h17 (fun k hk => hk)
  replace B7 := B7.grow hw7
  replace hc := MR.mono _ hw7 hc
  replace hr := MR.mono _ hw7 hr
  replace h10 := MR.mono _ hw7 h10
  replace h11 := MR.mono _ hw7 h11
  replace h12 := MR.mono _ hw7 h12
  replace h13 := MR.mono _ hw7 h13
  replace h15 := MR.mono _ hw7 h15
  refine fr ((va :: vb :: vc :: vr :: u :: u :: u :: pt b7 :: .bool (false) :: It N :: v10 :: v11 :: v12 :: v13 :: .bool (decide (N = N)) :: v15 :: .bool (decide (N = N)) :: v17 :: .bool (decide (N = N)) :: u :: u :: u :: u :: u :: u :: u :: u :: .bool (true) :: .bool (!true) :: v29 :: v30 :: v31 :: v32 :: v33 :: v34 :: v35 :: v36 :: v37 :: v38 :: v39 :: v40 :: v41 :: v42 :: v43 :: v44 :: v45 :: v46 :: v47 :: v48 :: v10 :: v11 :: v51 :: v52 :: v53 :: v54 :: v11 :: v10 :: v57 :: v58 :: v59 :: v60 :: v10 :: v10 :: v63 :: v64 :: v65 :: []) ++ us 64) ?_
  refine nx ?_
  refine wp_seq ?_
  refine wp_seq ?_
  obtain ⟨x9, ex9⟩ : ∃ c : Bool, c = (decide (N = N)) := ⟨_, rfl⟩
  obtain ⟨x10, ex10⟩ : ∃ c : Bool, c = (!x9) := ⟨_, rfl⟩
  obtain ⟨x11, ex11⟩ : ∃ c : Bool, c = (decide (N = N)) := ⟨_, rfl⟩
  obtain ⟨x12, ex12⟩ : ∃ c : Bool, c = (!x11) := ⟨_, rfl⟩
  obtain ⟨x13, ex13⟩ : ∃ c : Bool, c = ((x10 || x12)) := ⟨_, rfl⟩
  obtain ⟨x14, ex14⟩ : ∃ c : Bool, c = (decide (N = N)) := ⟨_, rfl⟩
  obtain ⟨x15, ex15⟩ : ∃ c : Bool, c = (!x14) := ⟨_, rfl⟩
  obtain ⟨x16, ex16⟩ : ∃ c : Bool, c = ((x13 || x15)) := ⟨_, rfl⟩
  obtain ⟨x17, ex17⟩ : ∃ c : Bool, c = (decide (cmpVec Qs N Qt N = 0)) := ⟨_, rfl⟩
  obtain ⟨x18, ex18⟩ : ∃ c : Bool, c = (!x17) := ⟨_, rfl⟩
  obtain ⟨x19, ex19⟩ : ∃ c : Bool, c = ((x16 || x18)) := ⟨_, rfl⟩
  obtain ⟨x20, ex20⟩ : ∃ c : Bool, c = (decide (firstV Qo N < 0)) := ⟨_, rfl⟩
  obtain ⟨x21, ex21⟩ : ∃ c : Bool, c = (!x20) := ⟨_, rfl⟩
  obtain ⟨x22, ex22⟩ : ∃ c : Bool, c = ((x19 || x21)) := ⟨_, rfl⟩
  refine rg (fun c d v a w h => NL c d v a w h) ((66, .eq (.bool (x9))) :: (67, .eq (.bool (x10))) :: (68, .eq (.bool (x10))) :: (69, .opt ((x10 == false)) (.eq (.bool (x11)))) :: (70, .opt ((x10 == false)) (.eq (.bool (x12)))) :: (71, .eq (.bool (x13))) :: (72, .eq (.bool (x13))) :: (73, .opt ((x13 == false)) (.eq (.bool (x14)))) :: (74, .opt ((x13 == false)) (.eq (.bool (x15)))) :: (75, .eq (.bool (x16))) :: (76, .eq (.bool (x16))) :: (77, .opt ((x16 == false)) (.eq (v13))) :: (78, .opt ((x16 == false)) (.eq (v15))) :: (79, .opt ((x16 == false)) (.eq (.bool (x17)))) :: (80, .opt ((x16 == false)) (.eq (.bool (x18)))) :: (81, .eq (.bool (x19))) :: (82, .eq (.bool (x19))) :: (83, .opt ((x19 == false)) (.eq (v17))) :: (84, .opt ((x19 == false)) (.eq (.bool (x20)))) :: (85, .opt ((x19 == false)) (.eq (.bool (x21)))) :: (86, .eq (.bool (x22))) :: []) [] [] [] 130 21 ?_ ?_
  · refine so [] (fun w8 hw8 => .fin (yld_eqTo (c := .bool (decide (N = N))) (yld_move rfl ⟨Grow.refl _, rfl⟩) (congrArg Value.bool ex9.symm))) ?_
    refine so [0] (fun w8 hw8 => by rintro _ rfl; exact .fin (yld_eqTo (c := .bool (!x9)) (yld_not rfl rfl ⟨Grow.refl _, rfl⟩) (congrArg Value.bool ex10.symm))) ?_
    refine so [1] (fun w8 hw8 => by rintro _ rfl; exact .fin (yld_move rfl ⟨Grow.refl _, rfl⟩)) ?_
    refine sg (c := (x10 == false)) 68 [2] (fun w8 hw8 => by rintro _ rfl; exact .fin (⟨guard_eq, fun hc => yld_eqTo (c := .bool (decide (N = N))) (yld_move rfl ⟨Grow.refl _, rfl⟩) (congrArg Value.bool ex11.symm)⟩)) ?_
    refine sg (c := (x10 == false)) 68 [2, 3] (fun w8 hw8 => by rintro _ rfl v69 h69; exact .fin (⟨guard_eq, fun hc => yld_eqTo (c := .bool (!x11)) (yld_not rfl (show v69 = .bool (x11) from (h69.1 (by revert hc; exact fun h => h))) ⟨Grow.refl _, rfl⟩) (congrArg Value.bool ex12.symm)⟩)) ?_
    refine so [2, 4] (fun w8 hw8 => by rintro _ rfl v70 h70; exact .fin (yld_eqTo (c := .bool ((x10 || x12))) (yld_pick_or rfl rfl rfl (fun ht => h70.1 (by revert ht; cases x10 <;> decide)) ⟨Grow.refl _, rfl⟩) (congrArg Value.bool ex13.symm))) ?_
    refine so [5] (fun w8 hw8 => by rintro _ rfl; exact .fin (yld_move rfl ⟨Grow.refl _, rfl⟩)) ?_
    refine sg (c := (x13 == false)) 72 [6] (fun w8 hw8 => by rintro _ rfl; exact .fin (⟨guard_eq, fun hc => yld_eqTo (c := .bool (decide (N = N))) (yld_move rfl ⟨Grow.refl _, rfl⟩) (congrArg Value.bool ex14.symm)⟩)) ?_
    refine sg (c := (x13 == false)) 72 [6, 7] (fun w8 hw8 => by rintro _ rfl v73 h73; exact .fin (⟨guard_eq, fun hc => yld_eqTo (c := .bool (!x14)) (yld_not rfl (show v73 = .bool (x14) from (h73.1 (by revert hc; exact fun h => h))) ⟨Grow.refl _, rfl⟩) (congrArg Value.bool ex15.symm)⟩)) ?_
    refine so [6, 8] (fun w8 hw8 => by rintro _ rfl v74 h74; exact .fin (yld_eqTo (c := .bool ((x13 || x15))) (yld_pick_or rfl rfl rfl (fun ht => h74.1 (by revert ht; cases x13 <;> decide)) ⟨Grow.refl _, rfl⟩) (congrArg Value.bool ex16.symm))) ?_
    refine so [9] (fun w8 hw8 => by rintro _ rfl; exact .fin (yld_move rfl ⟨Grow.refl _, rfl⟩)) ?_
    refine sg (c := (x16 == false)) 76 [10] (fun w8 hw8 => by rintro _ rfl; exact .fin (⟨guard_eq, fun hc => yld_move rfl ⟨Grow.refl _, rfl⟩⟩)) ?_
    refine sg (c := (x16 == false)) 76 [10] (fun w8 hw8 => by rintro _ rfl; exact .fin (⟨guard_eq, fun hc => yld_move rfl ⟨Grow.refl _, rfl⟩⟩)) ?_
    refine sg (c := (x16 == false)) 76 [10, 11, 12] (fun w8 hw8 => by rintro _ rfl v77 h77 v78 h78; exact .fin (⟨guard_eq, fun hc => yld_eqTo (c := .bool (decide (cmpVec Qs N Qt N = 0))) ((by have ev77 : v77 = v13 := (show v77 = v13 from (h77.1 (by revert hc; exact fun h => h))); subst ev77; have ev78 : v78 = v15 := (show v78 = v15 from (h78.1 (by revert hc; exact fun h => h))); subst ev78; exact yld_call rfl cal_vec_Same rfl (cVecSame (vec0 (ownv_vec (MR.mono _ hw8 h13))) (vec0 (ownv_vec (MR.mono _ hw8 h15))) (cm_ok ts tt (by decide))))) (congrArg Value.bool ex17.symm)⟩)) ?_
    refine sg (c := (x16 == false)) 76 [10, 13] (fun w8 hw8 => by rintro _ rfl v79 h79; exact .fin (⟨guard_eq, fun hc => yld_eqTo (c := .bool (!x17)) (yld_not rfl (show v79 = .bool (x17) from (h79.1 (by revert hc; exact fun h => h))) ⟨Grow.refl _, rfl⟩) (congrArg Value.bool ex18.symm)⟩)) ?_
    refine so [10, 14] (fun w8 hw8 => by rintro _ rfl v80 h80; exact .fin (yld_eqTo (c := .bool ((x16 || x18))) (yld_pick_or rfl rfl rfl (fun ht => h80.1 (by revert ht; cases x16 <;> decide)) ⟨Grow.refl _, rfl⟩) (congrArg Value.bool ex19.symm))) ?_
    refine so [15] (fun w8 hw8 => by rintro _ rfl; exact .fin (yld_move rfl ⟨Grow.refl _, rfl⟩)) ?_
    refine sg (c := (x19 == false)) 82 [16] (fun w8 hw8 => by rintro _ rfl; exact .fin (⟨guard_eq, fun hc => yld_move rfl ⟨Grow.refl _, rfl⟩⟩)) ?_
    refine sg (c := (x19 == false)) 82 [16, 17] (fun w8 hw8 => by rintro _ rfl v83 h83; exact .fin (⟨guard_eq, fun hc => yld_eqTo (c := .bool (decide (firstV Qo N < 0))) ((by have ev83 : v83 = v17 := (show v83 = v17 from (h83.1 (by revert hc; exact fun h => h))); subst ev83; exact yld_call rfl cal_vec_Vec_Zero rfl (cVecZero (vec0 (ownv_vec (MR.mono _ hw8 h17)))))) (congrArg Value.bool ex20.symm)⟩)) ?_
    refine sg (c := (x19 == false)) 82 [16, 18] (fun w8 hw8 => by rintro _ rfl v84 h84; exact .fin (⟨guard_eq, fun hc => yld_eqTo (c := .bool (!x20)) (yld_not rfl (show v84 = .bool (x20) from (h84.1 (by revert hc; exact fun h => h))) ⟨Grow.refl _, rfl⟩) (congrArg Value.bool ex21.symm)⟩)) ?_
    exact so [16, 19] (fun w8 hw8 => by rintro _ rfl v85 h85; exact .fin (yld_eqTo (c := .bool ((x19 || x21))) (yld_pick_or rfl rfl rfl (fun ht => h85.1 (by revert ht; cases x19 <;> decide)) ⟨Grow.refl _, rfl⟩) (congrArg Value.bool ex22.symm))) (.nil _ _)
  rintro w8 hw8 _ rfl _ rfl _ rfl v69 - v70 - _ rfl _ rfl v73 - v74 - _ rfl _ rfl v77 - v78 - v79 - v80 - _ rfl _ rfl v83 - v84 - v85 - _ rfl -
  have W8 : Grow w w8 := W7.trans hw8
  have z8 : w7.heap.size ≤ w8.heap.size := hw8.size
  replace B7 := B7.grow hw8
  replace hc := MR.mono _ hw8 hc
  replace hr := MR.mono _ hw8 hr
  replace h10 := MR.mono _ hw8 h10
  replace h11 := MR.mono _ hw8 h11
  replace h12 := MR.mono _ hw8 h12
  replace h13 := MR.mono _ hw8 h13
  subst ex9
  subst ex10
  subst ex11
  subst ex12
  subst ex13
  subst ex14
  subst ex15
  subst ex16
  subst ex17
  subst ex18
  subst ex19
  subst ex20
  subst ex21
  subst ex22
  refine fr ((va :: vb :: vc :: vr :: u :: u :: u :: pt b7 :: .bool (false) :: It N :: v10 :: v11 :: v12 :: v13 :: .bool (decide (N = N)) :: v15 :: .bool (decide (N = N)) :: v17 :: .bool (decide (N = N)) :: u :: u :: u :: u :: u :: u :: u :: u :: .bool (true) :: .bool (!true) :: v29 :: v30 :: v31 :: v32 :: v33 :: v34 :: v35 :: v36 :: v37 :: v38 :: v39 :: v40 :: v41 :: v42 :: v43 :: v44 :: v45 :: v46 :: v47 :: v48 :: v10 :: v11 :: v51 :: v52 :: v53 :: v54 :: v11 :: v10 :: v57 :: v58 :: v59 :: v60 :: v10 :: v10 :: v63 :: v64 :: v65 :: .bool ((decide (N = N))) :: .bool ((!(decide (N = N)))) :: .bool ((!(decide (N = N)))) :: v69 :: v70 :: .bool ((((!(decide (N = N))) || (!(decide (N = N)))))) :: .bool ((((!(decide (N = N))) || (!(decide (N = N)))))) :: v73 :: v74 :: .bool ((((((!(decide (N = N))) || (!(decide (N = N))))) || (!(decide (N = N)))))) :: .bool ((((((!(decide (N = N))) || (!(decide (N = N))))) || (!(decide (N = N)))))) :: v77 :: v78 :: v79 :: v80 :: .bool ((((((((!(decide (N = N))) || (!(decide (N = N))))) || (!(decide (N = N))))) || (!(decide (cmpVec Qs N Qt N = 0)))))) :: .bool ((((((((!(decide (N = N))) || (!(decide (N = N))))) || (!(decide (N = N))))) || (!(decide (cmpVec Qs N Qt N = 0)))))) :: v83 :: v84 :: v85 :: .bool ((((((((((!(decide (N = N))) || (!(decide (N = N))))) || (!(decide (N = N))))) || (!(decide (cmpVec Qs N Qt N = 0))))) || (!(decide (firstV Qo N < 0)))))) :: []) ++ us 43) ?_
  refine nx ?_
  have hc22 : ((((((((((!(decide (N = N))) || (!(decide (N = N))))) || (!(decide (N = N))))) || (!(decide (cmpVec Qs N Qt N = 0))))) || (!(decide (firstV Qo N < 0)))))) = false := by rw [same_of (fun i _ => by rw [hQs, hQt]; exact Rat.add_comm _ _), decide_eq_true rfl, decide_eq_true (firstV_neg.2 fun j _ => by rw [hQo]; show Qa j - Qa j = 0; grind)]; rfl
  refine wp_cond_false (by show Value.bool _ = _; rw [hc22]) ?_
  refine wp_skip ?_
  change Code.wp _ _ _ ⟨_, []⟩ _
  refine wp_seq ?_
  refine rg (fun c d v a w h => NL c d v a w h) [(88, .eq (v13)), (89, .eq (v12)), (90, .tup2 (.rat (if N = N then dotQ Qs Qc N else 0)) (.eq (.bool (decide (N = N))))), (87, .tup2 (.rat (if N = N then dotQ Qs Qc N else 0)) (.eq (.bool (decide (N = N))))), (91, .rat (dotQ Qs Qc N)), (92, .eq (.bool (decide (N = N)))), (19, .ptr 35 (.rat (0)))] [6] [5] [] 130 7 ?_ ?_
  · refine so [] (fun w24 hw24 => .fin (yld_move rfl ⟨Grow.refl _, rfl⟩)) ?_
    refine so [] (fun w24 hw24 => .fin (yld_move rfl ⟨Grow.refl _, rfl⟩)) ?_
    refine so [0, 1] (fun w24 hw24 => by rintro v88 e88 v89 e89; subst v88; subst v89; exact .fin (yld_call rfl cal_vec_Dot rfl (cDot (vec0 (ownv_vec (MR.mono _ hw24 h13))) (vec0 (ownv_vec (MR.mono _ hw24 h12))) (dot_ok ts tc (by decide) hNs)))) ?_
    refine so [2] (fun w24 hw24 => by rintro _ ⟨x90_0, x90_1, rfl, hx90_0, hx90_1⟩; exact .fin (yld_move rfl ⟨Grow.refl _, ⟨x90_0, x90_1, rfl, hx90_0, hx90_1⟩⟩)) ?_
    refine so [3] (fun w24 hw24 => by rintro _ ⟨x87_0, x87_1, rfl, hx87_0, hx87_1⟩; exact .fin (yld_as (R := .rat (if N = N then dotQ Qs Qc N else 0)) (R2 := .rat (dotQ Qs Qc N)) (yld_extract rfl rfl rfl ⟨Grow.refl _, hx87_0⟩) (fun h => by rw [if_pos rfl] at h; exact h))) ?_
    refine sl [3] (fun w24 hw24 => by rintro _ ⟨x87_0, x87_1, rfl, hx87_0, hx87_1⟩; exact .fin (⟨_, fun w2 _ => pure_extract rfl rfl rfl w2, hx87_1⟩)) ?_
    exact sn [] (fun w24 hw24 => .fin (yld_newAlloc rfl zeroRat zRat)) (.nil _ _)
  rintro w24 hw24 v88 e88 v89 e89 v90 - v87 - v91 h91 _ rfl _ ⟨b19, rfl, B19⟩ hN
  have W24 : Grow w w24 := W8.trans hw24
  have z24 : w8.heap.size ≤ w24.heap.size := hw24.size
  subst v88
  subst v89
  have g_b19 : w.heap.size ≤ b19 := Nat.le_trans W8.size hN.1.1
  have y_b19 : w8.heap.size ≤ b19 ∧ b19 < w24.heap.size := hN.1
  have n_b7_b19 : b7 ≠ b19 := Nat.ne_of_lt (Nat.lt_of_lt_of_le B7.lt hN.1.1)
  clear hN
  replace B7 := B7.grow hw24
  replace hc := MR.mono _ hw24 hc
  replace hr := MR.mono _ hw24 hr
  replace h10 := MR.mono _ hw24 h10
  replace h11 := MR.mono _ hw24 h11
  replace h12 := MR.mono _ hw24 h12
  replace h13 := MR.mono _ hw24 h13
  have KK : Kept [] w24 w24 := fun _ _ => rfl
  refine fr ((va :: vb :: vc :: vr :: u :: u :: u :: pt b7 :: .bool (false) :: It N :: v10 :: v11 :: v12 :: v13 :: .bool (decide (N = N)) :: v15 :: .bool (decide (N = N)) :: v17 :: .bool (decide (N = N)) :: pt b19 :: u :: u :: u :: u :: u :: u :: u :: .bool (true) :: .bool (!true) :: v29 :: v30 :: v31 :: v32 :: v33 :: v34 :: v35 :: v36 :: v37 :: v38 :: v39 :: v40 :: v41 :: v42 :: v43 :: v44 :: v45 :: v46 :: v47 :: v48 :: v10 :: v11 :: v51 :: v52 :: v53 :: v54 :: v11 :: v10 :: v57 :: v58 :: v59 :: v60 :: v10 :: v10 :: v63 :: v64 :: v65 :: .bool ((decide (N = N))) :: .bool ((!(decide (N = N)))) :: .bool ((!(decide (N = N)))) :: v69 :: v70 :: .bool ((((!(decide (N = N))) || (!(decide (N = N)))))) :: .bool ((((!(decide (N = N))) || (!(decide (N = N)))))) :: v73 :: v74 :: .bool ((((((!(decide (N = N))) || (!(decide (N = N))))) || (!(decide (N = N)))))) :: .bool ((((((!(decide (N = N))) || (!(decide (N = N))))) || (!(decide (N = N)))))) :: v77 :: v78 :: v79 :: v80 :: .bool ((((((((!(decide (N = N))) || (!(decide (N = N))))) || (!(decide (N = N))))) || (!(decide (cmpVec Qs N Qt N = 0)))))) :: .bool ((((((((!(decide (N = N))) || (!(decide (N = N))))) || (!(decide (N = N))))) || (!(decide (cmpVec Qs N Qt N = 0)))))) :: v83 :: v84 :: v85 :: .bool ((((((((((!(decide (N = N))) || (!(decide (N = N))))) || (!(decide (N = N))))) || (!(decide (cmpVec Qs N Qt N = 0))))) || (!(decide (firstV Qo N < 0)))))) :: v87 :: v13 :: v12 :: v90 :: v91 :: .bool (decide (N = N)) :: []) ++ us 37) ?_
  change wpListS _ _ _ _ [_, _] ⟨_, []⟩ _
  refine wpListS_yld rfl ?_
  refine yld_storeBox (R' := .rat (dotQ Qs Qc N)) (b := b19) rfl rfl aggRat.size B19 (shRat _) h91 (shRat _) (St.rat _) (by decide) g_b19 fun w25 P25 E25 B' => ⟨fun _ => Kept.put KK P25 (fun _ hk => (by cases hk)), ?_⟩
  replace KK := Kept.put KK P25 (fun _ hk => (by cases hk))
  have W25 : Grow w w25 := W24.put P25 g_b19
  have z25 : w24.heap.size ≤ w25.heap.size := Nat.le_of_eq P25.size.symm
  replace hc := (StF.sl fun i => StF.eq _) (Put.extB P25 B19 (by decide) g_b19) hc
  replace h10 := StF.ownv (Put.extB P25 B19 (by decide) (Or.inr (by omega))) h10
  replace h11 := StF.ownv (Put.extB P25 B19 (by decide) (Or.inr (by omega))) h11
  replace h12 := StF.ownv (Put.extB P25 B19 (by decide) (Or.inr (by omega))) h12
  replace h13 := StF.ownv (Put.extB P25 B19 (by decide) (Or.inr (by omega))) h13
  replace B7 := B7.put (St.eq _) P25 E25 n_b7_b19
  replace B19 := B'; clear B'
  replace hr := MR.put hr (St.eq _) E25
  change wpListS _ _ _ _ [_] ⟨_, []⟩ _
  refine wpListS_yld rfl ?_
  refine yld_assign rfl ⟨fun _ => KK, ?_⟩
  refine wpListS_nil ?_
  change Code.wp _ _ _ ⟨List.toArray (List.set _ 20 _), []⟩ _
  refine wp_seq ?_
  refine rg (fun c d v a w h => NL c d v a w h) [(94, .eq (v10)), (95, .eq (v12)), (96, .tup2 (.rat (if N = N then dotQ Qa Qc N else 0)) (.eq (.bool (decide (N = N))))), (93, .tup2 (.rat (if N = N then dotQ Qa Qc N else 0)) (.eq (.bool (decide (N = N))))), (97, .rat (dotQ Qa Qc N)), (98, .eq (.bool (decide (N = N)))), (21, .ptr 35 (.rat (0)))] [6] [5] [] 130 7 ?_ ?_
  · refine so [] (fun w26 hw26 => .fin (yld_move rfl ⟨Grow.refl _, rfl⟩)) ?_
    refine so [] (fun w26 hw26 => .fin (yld_move rfl ⟨Grow.refl _, rfl⟩)) ?_
    refine so [0, 1] (fun w26 hw26 => by rintro v94 e94 v95 e95; subst v94; subst v95; exact .fin (yld_call rfl cal_vec_Dot rfl (cDot (vec0 (ownv_vec (MR.mono _ hw26 h10))) (vec0 (ownv_vec (MR.mono _ hw26 h12))) (dot_ok ta tc (by decide) hNs)))) ?_
    refine so [2] (fun w26 hw26 => by rintro _ ⟨x96_0, x96_1, rfl, hx96_0, hx96_1⟩; exact .fin (yld_move rfl ⟨Grow.refl _, ⟨x96_0, x96_1, rfl, hx96_0, hx96_1⟩⟩)) ?_
    refine so [3] (fun w26 hw26 => by rintro _ ⟨x93_0, x93_1, rfl, hx93_0, hx93_1⟩; exact .fin (yld_as (R := .rat (if N = N then dotQ Qa Qc N else 0)) (R2 := .rat (dotQ Qa Qc N)) (yld_extract rfl rfl rfl ⟨Grow.refl _, hx93_0⟩) (fun h => by rw [if_pos rfl] at h; exact h))) ?_
    refine sl [3] (fun w26 hw26 => by rintro _ ⟨x93_0, x93_1, rfl, hx93_0, hx93_1⟩; exact .fin (⟨_, fun w2 _ => pure_extract rfl rfl rfl w2, hx93_1⟩)) ?_
    exact sn [] (fun w26 hw26 => .fin (yld_newAlloc rfl zeroRat zRat)) (.nil _ _)
  rintro w26 hw26 v94 e94 v95 e95 v96 - v93 - v97 h97 _ rfl _ ⟨b21, rfl, B21⟩ hN
  have W26 : Grow w w26 := W25.trans hw26
  have z26 : w25.heap.size ≤ w26.heap.size := hw26.size
  subst v94
  subst v95
  have g_b21 : w.heap.size ≤ b21 := Nat.le_trans W25.size hN.1.1
  have y_b21 : w25.heap.size ≤ b21 ∧ b21 < w26.heap.size := hN.1
  have n_b7_b21 : b7 ≠ b21 := Nat.ne_of_lt (Nat.lt_of_lt_of_le B7.lt hN.1.1)
  have n_b19_b21 : b19 ≠ b21 := Nat.ne_of_lt (Nat.lt_of_lt_of_le B19.lt hN.1.1)
  clear hN
  replace B7 := B7.grow hw26
  replace B19 := B19.grow hw26
  replace hc := MR.mono _ hw26 hc
  replace hr := MR.mono _ hw26 hr
  replace h10 := MR.mono _ hw26 h10
  replace h11 := MR.mono _ hw26 h11
  replace h12 := MR.mono _ hw26 h12
  replace h13 := MR.mono _ hw26 h13
  have KK : Kept [] w26 w26 := fun _ _ => rfl
  refine fr ((va :: vb :: vc :: vr :: u :: u :: u :: pt b7 :: .bool (false) :: It N :: v10 :: v11 :: v12 :: v13 :: .bool (decide (N = N)) :: v15 :: .bool (decide (N = N)) :: v17 :: .bool (decide (N = N)) :: pt b19 :: .bool (decide (N = N)) :: pt b21 :: u :: u :: u :: u :: u :: .bool (true) :: .bool (!true) :: v29 :: v30 :: v31 :: v32 :: v33 :: v34 :: v35 :: v36 :: v37 :: v38 :: v39 :: v40 :: v41 :: v42 :: v43 :: v44 :: v45 :: v46 :: v47 :: v48 :: v10 :: v11 :: v51 :: v52 :: v53 :: v54 :: v11 :: v10 :: v57 :: v58 :: v59 :: v60 :: v10 :: v10 :: v63 :: v64 :: v65 :: .bool ((decide (N = N))) :: .bool ((!(decide (N = N)))) :: .bool ((!(decide (N = N)))) :: v69 :: v70 :: .bool ((((!(decide (N = N))) || (!(decide (N = N)))))) :: .bool ((((!(decide (N = N))) || (!(decide (N = N)))))) :: v73 :: v74 :: .bool ((((((!(decide (N = N))) || (!(decide (N = N))))) || (!(decide (N = N)))))) :: .bool ((((((!(decide (N = N))) || (!(decide (N = N))))) || (!(decide (N = N)))))) :: v77 :: v78 :: v79 :: v80 :: .bool ((((((((!(decide (N = N))) || (!(decide (N = N))))) || (!(decide (N = N))))) || (!(decide (cmpVec Qs N Qt N = 0)))))) :: .bool ((((((((!(decide (N = N))) || (!(decide (N = N))))) || (!(decide (N = N))))) || (!(decide (cmpVec Qs N Qt N = 0)))))) :: v83 :: v84 :: v85 :: .bool ((((((((((!(decide (N = N))) || (!(decide (N = N))))) || (!(decide (N = N))))) || (!(decide (cmpVec Qs N Qt N = 0))))) || (!(decide (firstV Qo N < 0)))))) :: v87 :: v13 :: v12 :: v90 :: v91 :: .bool (decide (N = N)) :: v93 :: v10 :: v12 :: v96 :: v97 :: .bool (decide (N = N)) :: []) ++ us 31) ?_
  change wpListS _ _ _ _ [_, _] ⟨_, []⟩ _
  refine wpListS_yld rfl ?_
  refine yld_storeBox (R' := .rat (dotQ Qa Qc N)) (b := b21) rfl rfl aggRat.size B21 (shRat _) h97 (shRat _) (St.rat _) (by decide) g_b21 fun w27 P27 E27 B' => ⟨fun _ => Kept.put KK P27 (fun _ hk => (by cases hk)), ?_⟩
  replace KK := Kept.put KK P27 (fun _ hk => (by cases hk))
  have W27 : Grow w w27 := W26.put P27 g_b21
  have z27 : w26.heap.size ≤ w27.heap.size := Nat.le_of_eq P27.size.symm
  replace hc := (StF.sl fun i => StF.eq _) (Put.extB P27 B21 (by decide) g_b21) hc
  replace h10 := StF.ownv (Put.extB P27 B21 (by decide) (Or.inr (by omega))) h10
  replace h11 := StF.ownv (Put.extB P27 B21 (by decide) (Or.inr (by omega))) h11
  replace h12 := StF.ownv (Put.extB P27 B21 (by decide) (Or.inr (by omega))) h12
  replace h13 := StF.ownv (Put.extB P27 B21 (by decide) (Or.inr (by omega))) h13
  replace B7 := B7.put (St.eq _) P27 E27 n_b7_b21
  replace B19 := B19.put (St.rat _) P27 E27 n_b19_b21
  replace B21 := B'; clear B'
  replace hr := MR.put hr (St.eq _) E27
  change wpListS _ _ _ _ [_] ⟨_, []⟩ _
  refine wpListS_yld rfl ?_
  refine yld_assign rfl ⟨fun _ => KK, ?_⟩
  refine wpListS_nil ?_
  change Code.wp _ _ _ ⟨List.toArray (List.set _ 22 _), []⟩ _
  refine wp_seq ?_
  refine rg (fun c d v a w h => NL c d v a w h) [(100, .eq (v11)), (101, .eq (v12)), (102, .tup2 (.rat (if N = N then dotQ Qb Qc N else 0)) (.eq (.bool (decide (N = N))))), (99, .tup2 (.rat (if N = N then dotQ Qb Qc N else 0)) (.eq (.bool (decide (N = N))))), (103, .rat (dotQ Qb Qc N)), (104, .eq (.bool (decide (N = N)))), (23, .ptr 35 (.rat (0)))] [6] [5] [] 130 7 ?_ ?_
  · refine so [] (fun w28 hw28 => .fin (yld_move rfl ⟨Grow.refl _, rfl⟩)) ?_
    refine so [] (fun w28 hw28 => .fin (yld_move rfl ⟨Grow.refl _, rfl⟩)) ?_
    refine so [0, 1] (fun w28 hw28 => by rintro v100 e100 v101 e101; subst v100; subst v101; exact .fin (yld_call rfl cal_vec_Dot rfl (cDot (vec0 (ownv_vec (MR.mono _ hw28 h11))) (vec0 (ownv_vec (MR.mono _ hw28 h12))) (dot_ok tb tc (by decide) hNs)))) ?_
    refine so [2] (fun w28 hw28 => by rintro _ ⟨x102_0, x102_1, rfl, hx102_0, hx102_1⟩; exact .fin (yld_move rfl ⟨Grow.refl _, ⟨x102_0, x102_1, rfl, hx102_0, hx102_1⟩⟩)) ?_
    refine so [3] (fun w28 hw28 => by rintro _ ⟨x99_0, x99_1, rfl, hx99_0, hx99_1⟩; exact .fin (yld_as (R := .rat (if N = N then dotQ Qb Qc N else 0)) (R2 := .rat (dotQ Qb Qc N)) (yld_extract rfl rfl rfl ⟨Grow.refl _, hx99_0⟩) (fun h => by rw [if_pos rfl] at h; exact h))) ?_
    refine sl [3] (fun w28 hw28 => by rintro _ ⟨x99_0, x99_1, rfl, hx99_0, hx99_1⟩; exact .fin (⟨_, fun w2 _ => pure_extract rfl rfl rfl w2, hx99_1⟩)) ?_
    exact sn [] (fun w28 hw28 => .fin (yld_newAlloc rfl zeroRat zRat)) (.nil _ _)
  rintro w28 hw28 v100 e100 v101 e101 v102 - v99 - v103 h103 _ rfl _ ⟨b23, rfl, B23⟩ hN
  have W28 : Grow w w28 := W27.trans hw28
  have z28 : w27.heap.size ≤ w28.heap.size := hw28.size
  subst v100
  subst v101
  have g_b23 : w.heap.size ≤ b23 := Nat.le_trans W27.size hN.1.1
  have y_b23 : w27.heap.size ≤ b23 ∧ b23 < w28.heap.size := hN.1
  have n_b7_b23 : b7 ≠ b23 := Nat.ne_of_lt (Nat.lt_of_lt_of_le B7.lt hN.1.1)
  have n_b19_b23 : b19 ≠ b23 := Nat.ne_of_lt (Nat.lt_of_lt_of_le B19.lt hN.1.1)
  have n_b21_b23 : b21 ≠ b23 := Nat.ne_of_lt (Nat.lt_of_lt_of_le B21.lt hN.1.1)
  clear hN
  replace B7 := B7.grow hw28
  replace B19 := B19.grow hw28
  replace B21 := B21.grow hw28
  replace hc := MR.mono _ hw28 hc
  replace hr := MR.mono _ hw28 hr
  replace h10 := MR.mono _ hw28 h10
  replace h11 := MR.mono _ hw28 h11
  replace h13 := MR.mono _ hw28 h13
  have KK : Kept [] w28 w28 := fun _ _ => rfl
  refine fr ((va :: vb :: vc :: vr :: u :: u :: u :: pt b7 :: .bool (false) :: It N :: v10 :: v11 :: v12 :: v13 :: .bool (decide (N = N)) :: v15 :: .bool (decide (N = N)) :: v17 :: .bool (decide (N = N)) :: pt b19 :: .bool (decide (N = N)) :: pt b21 :: .bool (decide (N = N)) :: pt b23 :: u :: u :: u :: .bool (true) :: .bool (!true) :: v29 :: v30 :: v31 :: v32 :: v33 :: v34 :: v35 :: v36 :: v37 :: v38 :: v39 :: v40 :: v41 :: v42 :: v43 :: v44 :: v45 :: v46 :: v47 :: v48 :: v10 :: v11 :: v51 :: v52 :: v53 :: v54 :: v11 :: v10 :: v57 :: v58 :: v59 :: v60 :: v10 :: v10 :: v63 :: v64 :: v65 :: .bool ((decide (N = N))) :: .bool ((!(decide (N = N)))) :: .bool ((!(decide (N = N)))) :: v69 :: v70 :: .bool ((((!(decide (N = N))) || (!(decide (N = N)))))) :: .bool ((((!(decide (N = N))) || (!(decide (N = N)))))) :: v73 :: v74 :: .bool ((((((!(decide (N = N))) || (!(decide (N = N))))) || (!(decide (N = N)))))) :: .bool ((((((!(decide (N = N))) || (!(decide (N = N))))) || (!(decide (N = N)))))) :: v77 :: v78 :: v79 :: v80 :: .bool ((((((((!(decide (N = N))) || (!(decide (N = N))))) || (!(decide (N = N))))) || (!(decide (cmpVec Qs N Qt N = 0)))))) :: .bool ((((((((!(decide (N = N))) || (!(decide (N = N))))) || (!(decide (N = N))))) || (!(decide (cmpVec Qs N Qt N = 0)))))) :: v83 :: v84 :: v85 :: .bool ((((((((((!(decide (N = N))) || (!(decide (N = N))))) || (!(decide (N = N))))) || (!(decide (cmpVec Qs N Qt N = 0))))) || (!(decide (firstV Qo N < 0)))))) :: v87 :: v13 :: v12 :: v90 :: v91 :: .bool (decide (N = N)) :: v93 :: v10 :: v12 :: v96 :: v97 :: .bool (decide (N = N)) :: v99 :: v11 :: v12 :: v102 :: v103 :: .bool (decide (N = N)) :: []) ++ us 25) ?_
  change wpListS _ _ _ _ [_, _] ⟨_, []⟩ _
  refine wpListS_yld rfl ?_
  refine yld_storeBox (R' := .rat (dotQ Qb Qc N)) (b := b23) rfl rfl aggRat.size B23 (shRat _) h103 (shRat _) (St.rat _) (by decide) g_b23 fun w29 P29 E29 B' => ⟨fun _ => Kept.put KK P29 (fun _ hk => (by cases hk)), ?_⟩
  replace KK := Kept.put KK P29 (fun _ hk => (by cases hk))
  have W29 : Grow w w29 := W28.put P29 g_b23
  have z29 : w28.heap.size ≤ w29.heap.size := Nat.le_of_eq P29.size.symm
  replace hc := (StF.sl fun i => StF.eq _) (Put.extB P29 B23 (by decide) g_b23) hc
  replace h10 := StF.ownv (Put.extB P29 B23 (by decide) (Or.inr (by omega))) h10
  replace h11 := StF.ownv (Put.extB P29 B23 (by decide) (Or.inr (by omega))) h11
  replace h13 := StF.ownv (Put.extB P29 B23 (by decide) (Or.inr (by omega))) h13
  replace B7 := B7.put (St.eq _) P29 E29 n_b7_b23
  replace B19 := B19.put (St.rat _) P29 E29 n_b19_b23
  replace B21 := B21.put (St.rat _) P29 E29 n_b21_b23
  replace B23 := B'; clear B'
  replace hr := MR.put hr (St.eq _) E29
  change wpListS _ _ _ _ [_] ⟨_, []⟩ _
  refine wpListS_yld rfl ?_
  refine yld_assign rfl ⟨fun _ => KK, ?_⟩
  refine wpListS_nil ?_
  change Code.wp _ _ _ ⟨List.toArray (List.set _ 24 _), []⟩ _
  refine wp_seq ?_
  refine rg (fun c d v a w h => NL c d v a w h) ((106, .eq (.agg #[.int .i64 (pr), .int .i64 (dr)])) :: (107, .rat (R)) :: (108, .eq (v10)) :: (109, .ownv (w.heap.size) (fun k => (((k = b7) ∨ k = b19) ∨ k = b21) ∨ k = b23) (fun j0 => R * Qa j0) (N)) :: (110, .eq (.agg #[.int .i64 (pr), .int .i64 (dr)])) :: (111, .rat (R)) :: (112, .eq (v11)) :: (113, .ownv (w.heap.size) (fun k => (((k = b7) ∨ k = b19) ∨ k = b21) ∨ k = b23) (fun j0 => R * Qb j0) (N)) :: (114, .tup2 (.ownv (w.heap.size) (fun k => (((k = b7) ∨ k = b19) ∨ k = b21) ∨ k = b23) (fun j0 => (fun j0 => R * Qa j0) j0 + (fun j0 => R * Qb j0) j0) (if N = N then N else 0)) (.eq (.bool (decide (N = N))))) :: (105, .tup2 (.ownv (w.heap.size) (fun k => (((k = b7) ∨ k = b19) ∨ k = b21) ∨ k = b23) (fun j0 => (fun j0 => R * Qa j0) j0 + (fun j0 => R * Qb j0) j0) (if N = N then N else 0)) (.eq (.bool (decide (N = N))))) :: (115, .ownv (w.heap.size) (fun k => (((k = b7) ∨ k = b19) ∨ k = b21) ∨ k = b23) (Qu) (N)) :: (116, .eq (.bool (decide (N = N)))) :: (25, .ownv (w.heap.size) (fun k => (((k = b7) ∨ k = b19) ∨ k = b21) ∨ k = b23) (Qu) (N)) :: (26, .eq (.bool (decide (N = N)))) :: []) [] [] [] 130 14 ?_ ?_
  · refine so [] (fun w30 hw30 => .fin (yld_loadBox rfl rfl aggFrac (B7.grow hw30) (shFrac))) ?_
    refine so [0] (fun w30 hw30 => by rintro v106 h106; exact .fin (yld_as (R := .rat (fracQ pr dr)) (R2 := .rat (R)) (yld_call rfl cal_actuarylaw10_One rfl (cOne h106 hpr hdr)) (fun h => by rw [hR]; exact h))) ?_
    refine so [] (fun w30 hw30 => .fin (yld_move rfl ⟨Grow.refl _, rfl⟩)) ?_
    refine so [1, 2] (fun w30 hw30 => by rintro v107 h107 v108 e108; subst v108; exact .fin (yld_call rfl cal_vec_Scale rfl (cScale (B := w.heap.size) (F := fun k => (((k = b7) ∨ k = b19) ∨ k = b21) ∨ k = b23) (Grow.trans W29 hw30).size (fun k hk => (fun h => h.elim (fun h => h.elim (fun h => h.elim (fun e => by rw [e]; exact Nat.lt_of_lt_of_le B7.lt hw30.size) (fun e => by rw [e]; exact Nat.lt_of_lt_of_le B19.lt hw30.size)) (fun e => by rw [e]; exact Nat.lt_of_lt_of_le B21.lt hw30.size)) (fun e => by rw [e]; exact Nat.lt_of_lt_of_le B23.lt hw30.size)) hk) h107 (vec0 (ownv_vec (MR.mono _ hw30 h10))) (by omega) (sc_ok sR ta (by decide))))) ?_
    refine so [] (fun w30 hw30 => .fin (yld_loadBox rfl rfl aggFrac (B7.grow hw30) (shFrac))) ?_
    refine so [4] (fun w30 hw30 => by rintro v110 h110; exact .fin (yld_as (R := .rat (fracQ pr dr)) (R2 := .rat (R)) (yld_call rfl cal_actuarylaw10_One rfl (cOne h110 hpr hdr)) (fun h => by rw [hR]; exact h))) ?_
    refine so [] (fun w30 hw30 => .fin (yld_move rfl ⟨Grow.refl _, rfl⟩)) ?_
    refine so [5, 6] (fun w30 hw30 => by rintro v111 h111 v112 e112; subst v112; exact .fin (yld_call rfl cal_vec_Scale rfl (cScale (B := w.heap.size) (F := fun k => (((k = b7) ∨ k = b19) ∨ k = b21) ∨ k = b23) (Grow.trans W29 hw30).size (fun k hk => (fun h => h.elim (fun h => h.elim (fun h => h.elim (fun e => by rw [e]; exact Nat.lt_of_lt_of_le B7.lt hw30.size) (fun e => by rw [e]; exact Nat.lt_of_lt_of_le B19.lt hw30.size)) (fun e => by rw [e]; exact Nat.lt_of_lt_of_le B21.lt hw30.size)) (fun e => by rw [e]; exact Nat.lt_of_lt_of_le B23.lt hw30.size)) hk) h111 (vec0 (ownv_vec (MR.mono _ hw30 h11))) (by omega) (sc_ok sR tb (by decide))))) ?_
    refine soP [(109, .ownv (w.heap.size) (fun k => (((k = b7) ∨ k = b19) ∨ k = b21) ∨ k = b23) (fun j0 => R * Qa j0) (N)), (113, .ownv (w.heap.size) (fun k => (((k = b7) ∨ k = b19) ∨ k = b21) ∨ k = b23) (fun j0 => R * Qb j0) (N))] (fun w30 hw30 => by rintro v109 h109 v113 h113; exact .fin (yld_call rfl cal_vec_Add rfl (cVecAdd (B := w.heap.size) (F := fun k => (((k = b7) ∨ k = b19) ∨ k = b21) ∨ k = b23) (Grow.trans W29 hw30).size (fun k hk => (fun h => h.elim (fun h => h.elim (fun h => h.elim (fun e => by rw [e]; exact Nat.lt_of_lt_of_le B7.lt hw30.size) (fun e => by rw [e]; exact Nat.lt_of_lt_of_le B19.lt hw30.size)) (fun e => by rw [e]; exact Nat.lt_of_lt_of_le B21.lt hw30.size)) (fun e => by rw [e]; exact Nat.lt_of_lt_of_le B23.lt hw30.size)) hk) (vec0 (ownv_vec h109)) (vec0 (ownv_vec h113)) (by omega) (at_ok s1 (fun i hi => sb_mul sR (ta i hi)) (fun i hi => sb_mul sR (tb i hi)) (by decide))))) ?_
    refine soP [(114, .tup2 (.ownv (w.heap.size) (fun k => (((k = b7) ∨ k = b19) ∨ k = b21) ∨ k = b23) (fun j0 => (fun j0 => R * Qa j0) j0 + (fun j0 => R * Qb j0) j0) (if N = N then N else 0)) (.eq (.bool (decide (N = N)))))] (fun w30 hw30 => by rintro _ ⟨x114_0, x114_1, rfl, hx114_0, hx114_1⟩; exact .fin (yld_move rfl ⟨Grow.refl _, ⟨x114_0, x114_1, rfl, hx114_0, hx114_1⟩⟩)) ?_
    refine soP [(105, .tup2 (.ownv (w.heap.size) (fun k => (((k = b7) ∨ k = b19) ∨ k = b21) ∨ k = b23) (fun j0 => (fun j0 => R * Qa j0) j0 + (fun j0 => R * Qb j0) j0) (if N = N then N else 0)) (.eq (.bool (decide (N = N)))))] (fun w30 hw30 => by rintro _ ⟨x105_0, x105_1, rfl, hx105_0, hx105_1⟩; exact .fin (yld_as (R := .ownv (w.heap.size) (fun k => (((k = b7) ∨ k = b19) ∨ k = b21) ∨ k = b23) (fun j0 => (fun j0 => R * Qa j0) j0 + (fun j0 => R * Qb j0) j0) (if N = N then N else 0)) (R2 := .ownv (w.heap.size) (fun k => (((k = b7) ∨ k = b19) ∨ k = b21) ∨ k = b23) (Qu) (N)) (yld_extract rfl rfl rfl ⟨Grow.refl _, hx105_0⟩) (fun h => by rw [hQu]; exact ownv_n (if_pos rfl) h))) ?_
    refine soP [(105, .tup2 (.ownv (w.heap.size) (fun k => (((k = b7) ∨ k = b19) ∨ k = b21) ∨ k = b23) (fun j0 => (fun j0 => R * Qa j0) j0 + (fun j0 => R * Qb j0) j0) (if N = N then N else 0)) (.eq (.bool (decide (N = N)))))] (fun w30 hw30 => by rintro _ ⟨x105_0, x105_1, rfl, hx105_0, hx105_1⟩; exact .fin (yld_extract rfl rfl rfl ⟨Grow.refl _, hx105_1⟩)) ?_
    refine soP [(115, .ownv (w.heap.size) (fun k => (((k = b7) ∨ k = b19) ∨ k = b21) ∨ k = b23) (Qu) (N))] (fun w30 hw30 => by rintro v115 h115; exact .fin (yld_assign rfl ⟨Grow.refl _, h115⟩)) ?_
    exact so [11] (fun w30 hw30 => by rintro _ rfl; exact .fin (yld_assign rfl ⟨Grow.refl _, rfl⟩)) (.nil _ _)
  rintro w30 hw30 v106 - v107 - v108 e108 v109 - v110 - v111 - v112 e112 v113 - v114 - v105 - v115 - v116 - v25 h25 v26 - -
  have W30 : Grow w w30 := W29.trans hw30
  have z30 : w29.heap.size ≤ w30.heap.size := hw30.size
  subst v108
  subst v112
  replace h25 := ownv_own (F' := fun k => ((((k = b7) ∨ k = b19) ∨ k = b21) ∨ k = b23) ∨ w30.heap.size ≤ k) h25 (fun k hk => hk)
  replace B7 := B7.grow hw30
  replace B19 := B19.grow hw30
  replace B21 := B21.grow hw30
  replace B23 := B23.grow hw30
  replace hc := MR.mono _ hw30 hc
  replace hr := MR.mono _ hw30 hr
  replace h13 := MR.mono _ hw30 h13
  refine fr ((va :: vb :: vc :: vr :: u :: u :: u :: pt b7 :: .bool (false) :: It N :: v10 :: v11 :: v12 :: v13 :: .bool (decide (N = N)) :: v15 :: .bool (decide (N = N)) :: v17 :: .bool (decide (N = N)) :: pt b19 :: .bool (decide (N = N)) :: pt b21 :: .bool (decide (N = N)) :: pt b23 :: .bool (decide (N = N)) :: v25 :: v26 :: .bool (true) :: .bool (!true) :: v29 :: v30 :: v31 :: v32 :: v33 :: v34 :: v35 :: v36 :: v37 :: v38 :: v39 :: v40 :: v41 :: v42 :: v43 :: v44 :: v45 :: v46 :: v47 :: v48 :: v10 :: v11 :: v51 :: v52 :: v53 :: v54 :: v11 :: v10 :: v57 :: v58 :: v59 :: v60 :: v10 :: v10 :: v63 :: v64 :: v65 :: .bool ((decide (N = N))) :: .bool ((!(decide (N = N)))) :: .bool ((!(decide (N = N)))) :: v69 :: v70 :: .bool ((((!(decide (N = N))) || (!(decide (N = N)))))) :: .bool ((((!(decide (N = N))) || (!(decide (N = N)))))) :: v73 :: v74 :: .bool ((((((!(decide (N = N))) || (!(decide (N = N))))) || (!(decide (N = N)))))) :: .bool ((((((!(decide (N = N))) || (!(decide (N = N))))) || (!(decide (N = N)))))) :: v77 :: v78 :: v79 :: v80 :: .bool ((((((((!(decide (N = N))) || (!(decide (N = N))))) || (!(decide (N = N))))) || (!(decide (cmpVec Qs N Qt N = 0)))))) :: .bool ((((((((!(decide (N = N))) || (!(decide (N = N))))) || (!(decide (N = N))))) || (!(decide (cmpVec Qs N Qt N = 0)))))) :: v83 :: v84 :: v85 :: .bool ((((((((((!(decide (N = N))) || (!(decide (N = N))))) || (!(decide (N = N))))) || (!(decide (cmpVec Qs N Qt N = 0))))) || (!(decide (firstV Qo N < 0)))))) :: v87 :: v13 :: v12 :: v90 :: v91 :: .bool (decide (N = N)) :: v93 :: v10 :: v12 :: v96 :: v97 :: .bool (decide (N = N)) :: v99 :: v11 :: v12 :: v102 :: v103 :: .bool (decide (N = N)) :: v105 :: v106 :: v107 :: v10 :: v109 :: v110 :: v111 :: v11 :: v113 :: v114 :: v115 :: v116 :: []) ++ us 13) ?_
  refine nx ?_
  refine wp_seq ?_
  obtain ⟨x32, ex32⟩ : ∃ c : Bool, c = (decide ((dotQ Qs Qc N) = ((dotQ Qa Qc N) + (dotQ Qb Qc N)))) := ⟨_, rfl⟩
  obtain ⟨x33, ex33⟩ : ∃ c : Bool, c = (decide (cmpVec (fun j0 => R * Qs j0) N Qu N = 0)) := ⟨_, rfl⟩
  obtain ⟨x34, ex34⟩ : ∃ c : Bool, c = ((x32 && x33)) := ⟨_, rfl⟩
  refine rg (fun c d v a w h => NL c d v a w h) ((117, .rat (dotQ Qs Qc N)) :: (118, .rat (dotQ Qa Qc N)) :: (119, .rat (dotQ Qb Qc N)) :: (120, .rat ((dotQ Qa Qc N) + (dotQ Qb Qc N))) :: (121, .eq (.bool (x32))) :: (122, .eq (.bool (x32))) :: (123, .opt ((x32 == true)) (.eq (.agg #[.int .i64 (pr), .int .i64 (dr)]))) :: (124, .opt ((x32 == true)) (.rat (R))) :: (125, .opt ((x32 == true)) (.eq (v13))) :: (126, .opt ((x32 == true)) (.ownv (w.heap.size) (fun k => (((k = b7) ∨ k = b19) ∨ k = b21) ∨ k = b23) (fun j0 => R * Qs j0) (N))) :: (127, .opt ((x32 == true)) (.eq (v25))) :: (128, .opt ((x32 == true)) (.eq (.bool (x33)))) :: (129, .eq (.bool (x34))) :: (8, .eq (.bool (x34))) :: []) [] [] [] 130 14 ?_ ?_
  · refine so [] (fun w31 hw31 => .fin (yld_loadBox rfl rfl aggRat (B19.grow hw31) (shRat _))) ?_
    refine so [] (fun w31 hw31 => .fin (yld_loadBox rfl rfl aggRat (B21.grow hw31) (shRat _))) ?_
    refine so [] (fun w31 hw31 => .fin (yld_loadBox rfl rfl aggRat (B23.grow hw31) (shRat _))) ?_
    refine so [1, 2] (fun w31 hw31 => by rintro v118 h118 v119 h119; exact .fin (yld_call rfl cal_rat_Add rfl (cRatAdd h118 h119 (sz2 d2 d3 (by decide))))) ?_
    refine so [0, 3] (fun w31 hw31 => by rintro v117 h117 v120 h120; exact .fin (yld_eqTo (c := .bool (decide ((dotQ Qs Qc N) = ((dotQ Qa Qc N) + (dotQ Qb Qc N))))) (yld_call rfl cal_rat_Same rfl (cRatSame h117 h120 (sz2 d1 (sb_add d2 d3) (by decide)))) (congrArg Value.bool ex32.symm))) ?_
    refine so [4] (fun w31 hw31 => by rintro _ rfl; exact .fin (yld_move rfl ⟨Grow.refl _, rfl⟩)) ?_
    refine sg (c := (x32 == true)) 122 [5] (fun w31 hw31 => by rintro _ rfl; exact .fin (⟨guard_eq, fun hc => yld_loadBox rfl rfl aggFrac (B7.grow hw31) (shFrac)⟩)) ?_
    refine sg (c := (x32 == true)) 122 [5, 6] (fun w31 hw31 => by rintro _ rfl v123 h123; exact .fin (⟨guard_eq, fun hc => yld_as (R := .rat (fracQ pr dr)) (R2 := .rat (R)) (yld_call rfl cal_actuarylaw10_One rfl (cOne (h123.1 (by revert hc; exact fun h => h)) hpr hdr)) (fun h => by rw [hR]; exact h)⟩)) ?_
    refine sg (c := (x32 == true)) 122 [5] (fun w31 hw31 => by rintro _ rfl; exact .fin (⟨guard_eq, fun hc => yld_move rfl ⟨Grow.refl _, rfl⟩⟩)) ?_
    refine sg (c := (x32 == true)) 122 [5, 7, 8] (fun w31 hw31 => by rintro _ rfl v124 h124 v125 h125; exact .fin (⟨guard_eq, fun hc => (by have ev125 : v125 = v13 := (show v125 = v13 from (h125.1 (by revert hc; exact fun h => h))); subst ev125; exact yld_call rfl cal_vec_Scale rfl (cScale (B := w.heap.size) (F := fun k => (((k = b7) ∨ k = b19) ∨ k = b21) ∨ k = b23) (Grow.trans W30 hw31).size (fun k hk => (fun h => h.elim (fun h => h.elim (fun h => h.elim (fun e => by rw [e]; exact Nat.lt_of_lt_of_le B7.lt hw31.size) (fun e => by rw [e]; exact Nat.lt_of_lt_of_le B19.lt hw31.size)) (fun e => by rw [e]; exact Nat.lt_of_lt_of_le B21.lt hw31.size)) (fun e => by rw [e]; exact Nat.lt_of_lt_of_le B23.lt hw31.size)) hk) (h124.1 (by revert hc; exact fun h => h)) (vec0 (ownv_vec (MR.mono _ hw31 h13))) (by omega) (sc_ok sR ts (by decide))))⟩)) ?_
    refine sg (c := (x32 == true)) 122 [5] (fun w31 hw31 => by rintro _ rfl; exact .fin (⟨guard_eq, fun hc => yld_move rfl ⟨Grow.refl _, rfl⟩⟩)) ?_
    refine sgP (c := (x32 == true)) 122 [(122, .eq (.bool (x32))), (126, .opt ((x32 == true)) (.ownv (w.heap.size) (fun k => (((k = b7) ∨ k = b19) ∨ k = b21) ∨ k = b23) (fun j0 => R * Qs j0) (N))), (127, .opt ((x32 == true)) (.eq (v25)))] (fun w31 hw31 => by rintro _ rfl v126 h126 v127 h127; exact .fin (⟨guard_eq, fun hc => yld_eqTo (c := .bool (decide (cmpVec (fun j0 => R * Qs j0) N Qu N = 0))) ((by have ev127 : v127 = v25 := (show v127 = v25 from (h127.1 (by revert hc; exact fun h => h))); subst ev127; exact yld_call rfl cal_vec_Same rfl (cVecSame (vec0 (ownv_vec (h126.1 (by revert hc; exact fun h => h)))) (vec0 (ownv_vec (MR.mono _ hw31 h25))) (cm_ok (fun i hi => sb_mul sR (ts i hi)) tu (by decide))))) (congrArg Value.bool ex33.symm)⟩)) ?_
    refine so [5, 11] (fun w31 hw31 => by rintro _ rfl v128 h128; exact .fin (yld_eqTo (c := .bool ((x32 && x33))) (yld_pick_and rfl rfl (fun ht => h128.1 (by revert ht; cases x32 <;> decide)) rfl ⟨Grow.refl _, rfl⟩) (congrArg Value.bool ex34.symm))) ?_
    exact so [12] (fun w31 hw31 => by rintro _ rfl; exact .fin (yld_assign rfl ⟨Grow.refl _, rfl⟩)) (.nil _ _)
  rintro w31 hw31 v117 - v118 - v119 - v120 - _ rfl _ rfl v123 - v124 - v125 - v126 - v127 - v128 - _ rfl _ rfl -
  have W31 : Grow w w31 := W30.trans hw31
  have z31 : w30.heap.size ≤ w31.heap.size := hw31.size
  replace hc := MR.mono _ hw31 hc
  replace hr := MR.mono _ hw31 hr
  subst ex32
  subst ex33
  subst ex34
  refine fr (va :: vb :: vc :: vr :: u :: u :: u :: pt b7 :: .bool ((((decide ((dotQ Qs Qc N) = ((dotQ Qa Qc N) + (dotQ Qb Qc N)))) && (decide (cmpVec (fun j0 => R * Qs j0) N Qu N = 0))))) :: It N :: v10 :: v11 :: v12 :: v13 :: .bool (decide (N = N)) :: v15 :: .bool (decide (N = N)) :: v17 :: .bool (decide (N = N)) :: pt b19 :: .bool (decide (N = N)) :: pt b21 :: .bool (decide (N = N)) :: pt b23 :: .bool (decide (N = N)) :: v25 :: v26 :: .bool (true) :: .bool (!true) :: v29 :: v30 :: v31 :: v32 :: v33 :: v34 :: v35 :: v36 :: v37 :: v38 :: v39 :: v40 :: v41 :: v42 :: v43 :: v44 :: v45 :: v46 :: v47 :: v48 :: v10 :: v11 :: v51 :: v52 :: v53 :: v54 :: v11 :: v10 :: v57 :: v58 :: v59 :: v60 :: v10 :: v10 :: v63 :: v64 :: v65 :: .bool ((decide (N = N))) :: .bool ((!(decide (N = N)))) :: .bool ((!(decide (N = N)))) :: v69 :: v70 :: .bool ((((!(decide (N = N))) || (!(decide (N = N)))))) :: .bool ((((!(decide (N = N))) || (!(decide (N = N)))))) :: v73 :: v74 :: .bool ((((((!(decide (N = N))) || (!(decide (N = N))))) || (!(decide (N = N)))))) :: .bool ((((((!(decide (N = N))) || (!(decide (N = N))))) || (!(decide (N = N)))))) :: v77 :: v78 :: v79 :: v80 :: .bool ((((((((!(decide (N = N))) || (!(decide (N = N))))) || (!(decide (N = N))))) || (!(decide (cmpVec Qs N Qt N = 0)))))) :: .bool ((((((((!(decide (N = N))) || (!(decide (N = N))))) || (!(decide (N = N))))) || (!(decide (cmpVec Qs N Qt N = 0)))))) :: v83 :: v84 :: v85 :: .bool ((((((((((!(decide (N = N))) || (!(decide (N = N))))) || (!(decide (N = N))))) || (!(decide (cmpVec Qs N Qt N = 0))))) || (!(decide (firstV Qo N < 0)))))) :: v87 :: v13 :: v12 :: v90 :: v91 :: .bool (decide (N = N)) :: v93 :: v10 :: v12 :: v96 :: v97 :: .bool (decide (N = N)) :: v99 :: v11 :: v12 :: v102 :: v103 :: .bool (decide (N = N)) :: v105 :: v106 :: v107 :: v10 :: v109 :: v110 :: v111 :: v11 :: v113 :: v114 :: v115 :: v116 :: v117 :: v118 :: v119 :: v120 :: .bool ((decide ((dotQ Qs Qc N) = ((dotQ Qa Qc N) + (dotQ Qb Qc N))))) :: .bool ((decide ((dotQ Qs Qc N) = ((dotQ Qa Qc N) + (dotQ Qb Qc N))))) :: v123 :: v124 :: v125 :: v126 :: v127 :: v128 :: .bool ((((decide ((dotQ Qs Qc N) = ((dotQ Qa Qc N) + (dotQ Qb Qc N)))) && (decide (cmpVec (fun j0 => R * Qs j0) N Qu N = 0))))) :: []) ?_
  refine nx ?_
  refine wp_ret ?_
  change bodyPost Try.prog Try.f6 (Ret (.eq (.bool (true))) w) .ret _ _
  exact body_slot rfl (by show Value.bool _ = Value.bool _; rw [show ((((decide ((dotQ Qs Qc N) = ((dotQ Qa Qc N) + (dotQ Qb Qc N)))) && (decide (cmpVec (fun j0 => R * Qs j0) N Qu N = 0))))) = (true) from (by rw [same_of (fun i _ => by rw [hQs, hQu]; show R * (Qa i + Qb i) = R * Qa i + R * Qb i; grind), decide_eq_true (by rw [hQs]; exact dot_spread Qa Qb Qc N)]; rfl)]) rfl W31
end Go.Proofs.Ytngghjhmfpmilaa
