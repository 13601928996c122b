/- quot.take and quot.back. -/
import Derived.Test.YtngghjhmfpmilaaDivP2
import Derived.Deep.LoopGhost
namespace Go.Proofs.Ytngghjhmfpmilaa
open Go.RowKit
theorem sb_one {x y z : Nat} : (((sbB x y z : Nat) : Int) == 1) = decide (sbB x y z = 1) := by
  rw [Bool.eq_iff_iff]; simp; omega
theorem cal_nat_Nat_Len : Callable Try.prog 83 := callable_of Try.func83 rfl (by kernel_rfl)
theorem cal_nat_Nat_Word : Callable Try.prog 92 := callable_of Try.func92 rfl (by kernel_rfl)
theorem cal_word_Add : Callable Try.prog 91 := callable_of Try.func91 rfl (by kernel_rfl)
theorem cal_word_Sub : Callable Try.prog 94 := callable_of Try.func94 rfl (by kernel_rfl)
theorem cal_word_MulAdd : Callable Try.prog 98 := callable_of Try.func98 rfl (by kernel_rfl)
set_option maxRecDepth 100000 in
set_option maxHeartbeats 2000000 in
theorem cTake {g o c L N y q : Nat} {f0 : Nat → Nat} {vb : Value} {w : World} (R0 : Blk w g 105 (wa f0 L)) (hb : (MR.natF ((fun k => k = g)) (y)).R w vb) (hq : q < 18446744073709551616) (hN : o + nw y < N) (hL : N ≤ L) (hs : nw y ≤ 1099511627776) (hf0 : Wf f0 N) : Calls Try.prog 111 #[.slice (some ⟨g, o, none⟩) (nw y + 1) (c), vb, .int .u64 (((q : Nat) : Int))] w (RetB g L (fun v f => ∃ b, v = .bool (decide (b = 1)) ∧ TRes q y o (nw y) f0 f N b) w) := by
  have _ := hs
  have _ := hL
  have Rg := R0
  refine calls_enter (a := ⟨List.toArray ([.slice (some ⟨g, o, none⟩) (nw y + 1) (c), vb, Ut q] ++ us 55), []⟩) Try.func111 rfl (by kernel_rfl) ?_
  have NL : NoLook (bodyPost Try.prog Try.f111 (RetB g L (fun v f => ∃ b, v = .bool (decide (b = 1)) ∧ TRes q y o (nw y) f0 f N b) w)) := noLook_body
  refine wp_seq ?_
  refine rg (fun c d v a w h => NL c d v a w h) [(4, .ptr 31 (.natF ((fun k => k = g)) (y))), (6, .eq (.bool (false)))] [0] [] [] 58 2 ?_ ?_
  · refine sn [] (fun w1 hw1 => .fin (yld_newBox rfl rfl (MR.mono _ hw1 hb))) ?_
    exact so [] (fun w1 hw1 => .fin (yld_assign rfl ⟨Grow.refl _, rfl⟩)) (.nil _ _)
  rintro w1 hw1 _ ⟨b4, rfl, B4⟩ _ rfl hN
  have W1 : Mod g w w1 := (Mod.refl g w).trans hw1
  have n_b4_g : b4 ≠ g := Nat.ne_of_gt (Nat.lt_of_lt_of_le Rg.lt hN.1.1)
  clear hN
  replace Rg := Rg.below hw1
  replace hb := MR.mono _ hw1 hb
  refine fr ([.slice (some ⟨g, o, none⟩) (nw y + 1) (c), vb, Ut q, u, pt b4, u, .bool (false)] ++ us 51) ?_
  refine nx ?_
  refine wp_seq ?_
  refine rg (fun c d v a w h => NL c d v a w h) [(7, .eq (.int .u64 (0))), (8, .eq (.int .u64 (0)))] [] [] [] 58 2 ?_ ?_
  · refine so [] (fun w2 hw2 => .fin (yld_assign rfl ⟨Grow.refl _, rfl⟩)) ?_
    exact so [] (fun w2 hw2 => .fin (yld_assign rfl ⟨Grow.refl _, rfl⟩)) (.nil _ _)
  rintro w2 hw2 _ rfl _ rfl -
  have W2 : Mod g w w2 := W1.trans hw2
  replace B4 := B4.grow hw2
  replace Rg := Rg.below hw2
  replace hb := MR.mono _ hw2 hb
  refine fr ([.slice (some ⟨g, o, none⟩) (nw y + 1) (c), vb, Ut q, u, pt b4, u, .bool (false), .int .u64 (0), .int .u64 (0)] ++ us 49) ?_
  refine nx ?_
  refine wp_seq ?_
  refine wp_seq ?_
  refine rg (fun c d v a w h => NL c d v a w h) [(12, .natF ((fun k => k = g)) (y)), (13, .eq (.int .i64 (((nw y : Nat) : Int)))), (14, .eq (.int .i64 (0)))] [] [] [] 58 3 ?_ ?_
  · refine so [] (fun w3 hw3 => .fin (yld_loadBox rfl rfl aggNat (B4.grow hw3) (shNatF))) ?_
    refine so [0] (fun w3 hw3 => by rintro v12 h12; exact .fin (yld_call rfl cal_nat_Nat_Len rfl (cLenF h12))) ?_
    exact so [] (fun w3 hw3 => .fin (yld_move rfl ⟨Grow.refl _, rfl⟩)) (.nil _ _)
  rintro w3 hw3 v12 - _ rfl _ rfl -
  have W3 : Mod g w w3 := W2.trans hw3
  replace B4 := B4.grow hw3
  replace Rg := Rg.below hw3
  replace hb := MR.mono _ hw3 hb
  refine fr ([.slice (some ⟨g, o, none⟩) (nw y + 1) (c), vb, Ut q, u, pt b4, u, .bool (false), .int .u64 (0), .int .u64 (0), u, u, u, v12, It (nw y), .int .i64 (0)] ++ us 43) ?_
  refine nx ?_
  refine wp_block ?_
  refine wp_loop_ghost (fun nn ac4 w4 => ∃ (i : Nat) (ov : Nat) (bo : Nat) (f : Nat → Nat), nn = nw y - i ∧ (i ≤ nw y ∧ TInv q y o f0 f N i ov bo) ∧ ∃ tt4 : Nat → Value, ac4 = ⟨List.toArray ([.slice (some ⟨g, o, none⟩) (nw y + 1) (c), vb, Ut q, u, pt b4, u, .bool (false), Ut ov, Ut bo, (tt4 9), (tt4 10), (tt4 11), v12, It (nw y), It i, (tt4 15), (tt4 16), (tt4 17), (tt4 18), (tt4 19), (tt4 20), (tt4 21), (tt4 22), (tt4 23), (tt4 24), (tt4 25), (tt4 26), (tt4 27), (tt4 28), (tt4 29), (tt4 30), (tt4 31), (tt4 32), (tt4 33), (tt4 34), (tt4 35), (tt4 36), (tt4 37), (tt4 38), (tt4 39), (tt4 40)] ++ us 17), []⟩ ∧ Mod g w w4 ∧ Box w4 b4 31 (.natF ((fun k => k = g)) (y)) ∧ Blk w4 g 105 (wa (f) (L)) ∧ (MR.natF ((fun k => k = g)) (y)).R w4 vb) (nw y - 0) ⟨0, 0, 0, f0, rfl, ⟨by omega, t_start hf0⟩, fun d => ([.int .u64 (0), .int .u64 (0), u, u, u, v12, It (nw y), .int .i64 (0), u, u, u, u, u, u, u, u, u, u, u, u, u, u, u, u, u, u, u, u, u, u, u, u, u, u] : List Value).getD (d - 7) undef, by kernel_rfl, W3, B4, Rg, hb⟩ ?_
  clear B4 Rg hb
  rintro nn4 _ w4 ⟨i, ov, bo, f, hnn4, ⟨hi, hT⟩, tt4, rfl, W4, B4, Rg, hb⟩
  have hov := hT.2.1; have hbo := hT.2.2.1
  refine wp_seq ?_
  refine rg (fun c d v a w h => NL c d v a w h) [(15, .eq (.bool (decide ((((i : Nat) : Int) : Int) < (((nw y : Nat) : Int) : Int)))))] [] [] [] 58 1 ?_ ?_
  · exact so [] (fun w5 hw5 => .fin (yld_lss rfl rfl rfl ⟨Grow.refl _, rfl⟩)) (.nil _ _)
  rintro w5 hw5 _ rfl -
  have W5 : Mod g w w5 := W4.trans hw5
  replace B4 := B4.grow hw5
  replace Rg := Rg.below hw5
  replace hb := MR.mono _ hw5 hb
  refine fr ([.slice (some ⟨g, o, none⟩) (nw y + 1) (c), vb, Ut q, u, pt b4, u, .bool (false), Ut ov, Ut bo, (tt4 9), (tt4 10), (tt4 11), v12, It (nw y), It i, .bool (decide ((((i : Nat) : Int) : Int) < (((nw y : Nat) : Int) : Int))), (tt4 16), (tt4 17), (tt4 18), (tt4 19), (tt4 20), (tt4 21), (tt4 22), (tt4 23), (tt4 24), (tt4 25), (tt4 26), (tt4 27), (tt4 28), (tt4 29), (tt4 30), (tt4 31), (tt4 32), (tt4 33), (tt4 34), (tt4 35), (tt4 36), (tt4 37), (tt4 38), (tt4 39), (tt4 40)] ++ us 17) ?_
  refine nx ?_
  refine wp_seq ?_
  refine wp_cond_split (t := decide ((((i : Nat) : Int) : Int) < (((nw y : Nat) : Int) : Int))) rfl (fun hlt => ?_) (fun hlt => ?_)
  · have hlt1 : i < nw y := by simpa using hlt
    have hfi := hT.1 (o + i) (by omega)
    refine wp_skip ?_
    change Code.wp _ _ _ ⟨_, []⟩ _
    refine wp_seq ?_
    refine wp_block ?_
    refine wp_seq ?_
    refine rg (fun c d v a w h => NL c d v a w h) [(16, .eq (.int .i64 (((i : Nat) : Int)))), (9, .eq (.int .i64 (((i : Nat) : Int))))] [] [] [] 58 2 ?_ ?_
    · refine so [] (fun w6 hw6 => .fin (yld_move rfl ⟨Grow.refl _, rfl⟩)) ?_
      exact so [0] (fun w6 hw6 => by rintro _ rfl; exact .fin (yld_assign rfl ⟨Grow.refl _, rfl⟩)) (.nil _ _)
    rintro w6 hw6 v16 - _ rfl -
    have W6 : Mod g w w6 := W5.trans hw6
    replace B4 := B4.grow hw6
    replace Rg := Rg.below hw6
    replace hb := MR.mono _ hw6 hb
    refine fr ([.slice (some ⟨g, o, none⟩) (nw y + 1) (c), vb, Ut q, u, pt b4, u, .bool (false), Ut ov, Ut bo, It i, (tt4 10), (tt4 11), v12, It (nw y), It i, .bool (decide ((((i : Nat) : Int) : Int) < (((nw y : Nat) : Int) : Int))), v16, (tt4 17), (tt4 18), (tt4 19), (tt4 20), (tt4 21), (tt4 22), (tt4 23), (tt4 24), (tt4 25), (tt4 26), (tt4 27), (tt4 28), (tt4 29), (tt4 30), (tt4 31), (tt4 32), (tt4 33), (tt4 34), (tt4 35), (tt4 36), (tt4 37), (tt4 38), (tt4 39), (tt4 40)] ++ us 17) ?_
    refine nx ?_
    refine wp_seq ?_
    refine rg (fun c d v a w h => NL c d v a w h) [(18, .natF ((fun k => k = g)) (y)), (19, .eq (.int .i64 (((i : Nat) : Int)))), (20, .eq (.int .u64 (((wd y i : Nat) : Int)))), (21, .eq (.int .u64 (((q : Nat) : Int)))), (22, .eq (.int .u64 (((ov : Nat) : Int)))), (23, .tup2 (.eq (.int .u64 (((((wd y i) * q + ov + 0) / 18446744073709551616 : Nat) : Int)))) (.eq (.int .u64 (((((wd y i) * q + ov + 0) % 18446744073709551616 : Nat) : Int))))), (17, .tup2 (.eq (.int .u64 (((((wd y i) * q + ov + 0) / 18446744073709551616 : Nat) : Int)))) (.eq (.int .u64 (((((wd y i) * q + ov + 0) % 18446744073709551616 : Nat) : Int))))), (24, .eq (.int .u64 (((((wd y i) * q + ov + 0) / 18446744073709551616 : Nat) : Int)))), (25, .eq (.int .u64 (((((wd y i) * q + ov + 0) % 18446744073709551616 : Nat) : Int)))), (10, .eq (.int .u64 (((((wd y i) * q + ov + 0) / 18446744073709551616 : Nat) : Int)))), (11, .eq (.int .u64 (((((wd y i) * q + ov + 0) % 18446744073709551616 : Nat) : Int))))] [] [] [] 58 11 ?_ ?_
    · refine so [] (fun w7 hw7 => .fin (yld_loadBox rfl rfl aggNat (B4.grow hw7) (shNatF))) ?_
      refine so [] (fun w7 hw7 => .fin (yld_move rfl ⟨Grow.refl _, rfl⟩)) ?_
      refine so [0, 1] (fun w7 hw7 => by rintro v18 h18 _ rfl; exact .fin (yld_call rfl cal_nat_Nat_Word rfl (cWordF (k := i) h18))) ?_
      refine so [] (fun w7 hw7 => .fin (yld_move rfl ⟨Grow.refl _, rfl⟩)) ?_
      refine so [] (fun w7 hw7 => .fin (yld_move rfl ⟨Grow.refl _, rfl⟩)) ?_
      refine so [2, 3, 4] (fun w7 hw7 => by rintro _ rfl _ rfl _ rfl; exact .fin (yld_call rfl cal_word_MulAdd rfl (cWMulAdd (x := (wd y i)) (y := q) (a := ov) (b := 0) (by first | omega | exact wd_lt _ _ | exact Nat.mod_lt _ (by omega)) (by first | omega | exact wd_lt _ _ | exact Nat.mod_lt _ (by omega)) (by first | omega | exact wd_lt _ _ | exact Nat.mod_lt _ (by omega)) (by first | omega | exact wd_lt _ _ | exact Nat.mod_lt _ (by omega))))) ?_
      refine so [5] (fun w7 hw7 => by rintro _ ⟨x23_0, x23_1, rfl, hx23_0, hx23_1⟩; exact .fin (yld_move rfl ⟨Grow.refl _, ⟨x23_0, x23_1, rfl, hx23_0, hx23_1⟩⟩)) ?_
      refine so [6] (fun w7 hw7 => by rintro _ ⟨x17_0, x17_1, rfl, hx17_0, hx17_1⟩; exact .fin (yld_extract rfl rfl rfl ⟨Grow.refl _, hx17_0⟩)) ?_
      refine so [6] (fun w7 hw7 => by rintro _ ⟨x17_0, x17_1, rfl, hx17_0, hx17_1⟩; exact .fin (yld_extract rfl rfl rfl ⟨Grow.refl _, hx17_1⟩)) ?_
      refine so [7] (fun w7 hw7 => by rintro _ rfl; exact .fin (yld_assign rfl ⟨Grow.refl _, rfl⟩)) ?_
      exact so [8] (fun w7 hw7 => by rintro _ rfl; exact .fin (yld_assign rfl ⟨Grow.refl _, rfl⟩)) (.nil _ _)
    rintro w7 hw7 v18 - v19 - v20 - v21 - v22 - v23 - v17 - v24 - v25 - _ rfl _ rfl -
    have W7 : Mod g w w7 := W6.trans hw7
    replace B4 := B4.grow hw7
    replace Rg := Rg.below hw7
    replace hb := MR.mono _ hw7 hb
    refine fr ([.slice (some ⟨g, o, none⟩) (nw y + 1) (c), vb, Ut q, u, pt b4, u, .bool (false), Ut ov, Ut bo, It i, Ut (((wd y i) * q + ov + 0) / 18446744073709551616), Ut (((wd y i) * q + ov + 0) % 18446744073709551616), v12, It (nw y), It i, .bool (decide ((((i : Nat) : Int) : Int) < (((nw y : Nat) : Int) : Int))), v16, v17, v18, v19, v20, v21, v22, v23, v24, v25, (tt4 26), (tt4 27), (tt4 28), (tt4 29), (tt4 30), (tt4 31), (tt4 32), (tt4 33), (tt4 34), (tt4 35), (tt4 36), (tt4 37), (tt4 38), (tt4 39), (tt4 40)] ++ us 17) ?_
    refine nx ?_
    refine wp_seq ?_
    refine rg (fun c d v a w h => NL c d v a w h) [(26, .eq (.int .u64 (((((wd y i) * q + ov + 0) / 18446744073709551616 : Nat) : Int)))), (7, .eq (.int .u64 (((((wd y i) * q + ov + 0) / 18446744073709551616 : Nat) : Int))))] [] [] [] 58 2 ?_ ?_
    · refine so [] (fun w8 hw8 => .fin (yld_move rfl ⟨Grow.refl _, rfl⟩)) ?_
      exact so [0] (fun w8 hw8 => by rintro _ rfl; exact .fin (yld_assign rfl ⟨Grow.refl _, rfl⟩)) (.nil _ _)
    rintro w8 hw8 v26 - _ rfl -
    have W8 : Mod g w w8 := W7.trans hw8
    replace B4 := B4.grow hw8
    replace Rg := Rg.below hw8
    replace hb := MR.mono _ hw8 hb
    refine fr ([.slice (some ⟨g, o, none⟩) (nw y + 1) (c), vb, Ut q, u, pt b4, u, .bool (false), Ut (((wd y i) * q + ov + 0) / 18446744073709551616), Ut bo, It i, Ut (((wd y i) * q + ov + 0) / 18446744073709551616), Ut (((wd y i) * q + ov + 0) % 18446744073709551616), v12, It (nw y), It i, .bool (decide ((((i : Nat) : Int) : Int) < (((nw y : Nat) : Int) : Int))), v16, v17, v18, v19, v20, v21, v22, v23, v24, v25, v26, (tt4 27), (tt4 28), (tt4 29), (tt4 30), (tt4 31), (tt4 32), (tt4 33), (tt4 34), (tt4 35), (tt4 36), (tt4 37), (tt4 38), (tt4 39), (tt4 40)] ++ us 17) ?_
    refine nx ?_
    refine rg (fun c d v a w h => NL c d v a w h) [(28, .eq (.slice (some ⟨g, o, none⟩) (nw y + 1) (c))), (29, .eq (.int .i64 (((i : Nat) : Int)))), (30, .eq (.slice (some ⟨g, o, none⟩) (nw y + 1) (c))), (31, .eq (.int .i64 (((i : Nat) : Int)))), (32, .eq (.pointer (some ⟨g, o + i, none⟩))), (33, .eq (.int .u64 (((f (o + i) : Nat) : Int)))), (34, .eq (.int .u64 (((((wd y i) * q + ov + 0) % 18446744073709551616 : Nat) : Int)))), (35, .eq (.int .u64 (((bo : Nat) : Int)))), (36, .tup2 (.eq (.int .u64 (((sbW (f (o + i)) (((wd y i) * q + ov + 0) % 18446744073709551616) bo : Nat) : Int)))) (.eq (.int .u64 (((sbB (f (o + i)) (((wd y i) * q + ov + 0) % 18446744073709551616) bo : Nat) : Int))))), (27, .tup2 (.eq (.int .u64 (((sbW (f (o + i)) (((wd y i) * q + ov + 0) % 18446744073709551616) bo : Nat) : Int)))) (.eq (.int .u64 (((sbB (f (o + i)) (((wd y i) * q + ov + 0) % 18446744073709551616) bo : Nat) : Int))))), (37, .eq (.int .u64 (((sbW (f (o + i)) (((wd y i) * q + ov + 0) % 18446744073709551616) bo : Nat) : Int)))), (38, .eq (.int .u64 (((sbB (f (o + i)) (((wd y i) * q + ov + 0) % 18446744073709551616) bo : Nat) : Int)))), (39, .eq (.pointer (some ⟨g, o + i, none⟩)))] [] [11] [] 58 13 ?_ ?_
    · refine so [] (fun w9 hw9 => .fin (yld_move rfl ⟨Grow.refl _, rfl⟩)) ?_
      refine so [] (fun w9 hw9 => .fin (yld_move rfl ⟨Grow.refl _, rfl⟩)) ?_
      refine so [] (fun w9 hw9 => .fin (yld_move rfl ⟨Grow.refl _, rfl⟩)) ?_
      refine so [] (fun w9 hw9 => .fin (yld_move rfl ⟨Grow.refl _, rfl⟩)) ?_
      refine so [2, 3] (fun w9 hw9 => by rintro _ rfl _ rfl; exact .fin (yld_indexE (k := i) rfl rfl rfl (rfl) (by omega) (j := o + i) (rfl))) ?_
      refine so [4] (fun w9 hw9 => by rintro _ rfl; exact .fin (yld_loadE rfl rfl (Rg.below hw9) (by omega))) ?_
      refine so [] (fun w9 hw9 => .fin (yld_move rfl ⟨Grow.refl _, rfl⟩)) ?_
      refine so [] (fun w9 hw9 => .fin (yld_move rfl ⟨Grow.refl _, rfl⟩)) ?_
      refine so [5, 6, 7] (fun w9 hw9 => by rintro _ rfl _ rfl _ rfl; exact .fin (yld_call rfl cal_word_Sub rfl (cWSub (x := (f (o + i))) (y := (((wd y i) * q + ov + 0) % 18446744073709551616)) (z := bo) (by first | omega | exact wd_lt _ _ | exact Nat.mod_lt _ (by omega)) (by first | omega | exact wd_lt _ _ | exact Nat.mod_lt _ (by omega)) (by omega)))) ?_
      refine so [8] (fun w9 hw9 => by rintro _ ⟨x36_0, x36_1, rfl, hx36_0, hx36_1⟩; exact .fin (yld_move rfl ⟨Grow.refl _, ⟨x36_0, x36_1, rfl, hx36_0, hx36_1⟩⟩)) ?_
      refine so [9] (fun w9 hw9 => by rintro _ ⟨x27_0, x27_1, rfl, hx27_0, hx27_1⟩; exact .fin (yld_extract rfl rfl rfl ⟨Grow.refl _, hx27_0⟩)) ?_
      refine sl [9] (fun w9 hw9 => by rintro _ ⟨x27_0, x27_1, rfl, hx27_0, hx27_1⟩; exact .fin (⟨_, fun w2 _ => pure_extract rfl rfl rfl w2, hx27_1⟩)) ?_
      exact so [0, 1] (fun w9 hw9 => by rintro _ rfl _ rfl; exact .fin (yld_indexE (k := i) rfl rfl rfl (rfl) (by omega) (j := o + i) (rfl))) (.nil _ _)
    rintro w9 hw9 v28 - v29 - v30 - v31 - v32 - v33 - v34 - v35 - v36 - v27 - _ rfl _ rfl _ rfl -
    have W9 : Mod g w w9 := W8.trans hw9
    replace B4 := B4.grow hw9
    replace Rg := Rg.below hw9
    replace hb := MR.mono _ hw9 hb
    have KK : Kept [] w9 w9 := fun _ _ => rfl
    refine fr ([.slice (some ⟨g, o, none⟩) (nw y + 1) (c), vb, Ut q, u, pt b4, u, .bool (false), Ut (((wd y i) * q + ov + 0) / 18446744073709551616), Ut bo, It i, Ut (((wd y i) * q + ov + 0) / 18446744073709551616), Ut (((wd y i) * q + ov + 0) % 18446744073709551616), v12, It (nw y), It i, .bool (decide ((((i : Nat) : Int) : Int) < (((nw y : Nat) : Int) : Int))), v16, v17, v18, v19, v20, v21, v22, v23, v24, v25, v26, v27, v28, v29, v30, v31, v32, v33, v34, v35, v36, Ut (sbW (f (o + i)) (((wd y i) * q + ov + 0) % 18446744073709551616) bo), Ut (sbB (f (o + i)) (((wd y i) * q + ov + 0) % 18446744073709551616) bo), .pointer (some ⟨g, o + i, none⟩), (tt4 40)] ++ us 17) ?_
    change wpListS _ _ _ _ [_, _] ⟨_, []⟩ _
    refine wpListS_yld rfl ?_
    refine yld_storeE (i := o + i) (v := sbW (f (o + i)) (((wd y i) * q + ov + 0) % 18446744073709551616) bo) rfl rfl rfl Rg (by omega) fun w10 P10 R' => ⟨fun _ => Kept.put KK P10 (fun _ hk => (by cases hk)), ?_⟩
    replace KK := Kept.put KK P10 (fun _ hk => (by cases hk))
    have M10 : Mod g w9 w10 := P10.toMod
    have W10 : Mod g w w10 := W9.step M10
    replace B4 := B4.mod M10 rfl n_b4_g
    replace hb := natF_mod hb M10 rfl
    replace Rg := R'; clear R'
    change wpListS _ _ _ _ [_] ⟨_, []⟩ _
    refine wpListS_yld rfl ?_
    refine yld_assign rfl ⟨fun _ => KK, ?_⟩
    refine wpListS_nil ?_
    change Code.wp _ _ _ ⟨List.toArray (List.set _ 8 _), []⟩ _
    refine rg (fun c d v a w h => NL c d v a w h) [(40, .eq (.int .i64 (((i + 1 : Nat) : Int))))] [] [] [] 58 1 ?_ ?_
    · exact so [] (fun w11 hw11 => .fin (yld_add rfl rfl rfl (r := ((i + 1 : Nat) : Int)) (by rw [IntKind.wrap_i64]; omega) ⟨Grow.refl _, rfl⟩)) (.nil _ _)
    rintro w11 hw11 _ rfl -
    have W11 : Mod g w w11 := W10.trans hw11
    replace B4 := B4.grow hw11
    replace Rg := Rg.below hw11
    replace hb := MR.mono _ hw11 hb
    have KK : Kept [] w11 w11 := fun _ _ => rfl
    refine fr ([.slice (some ⟨g, o, none⟩) (nw y + 1) (c), vb, Ut q, u, pt b4, u, .bool (false), Ut (((wd y i) * q + ov + 0) / 18446744073709551616), Ut (sbB (f (o + i)) (((wd y i) * q + ov + 0) % 18446744073709551616) bo), It i, Ut (((wd y i) * q + ov + 0) / 18446744073709551616), Ut (((wd y i) * q + ov + 0) % 18446744073709551616), v12, It (nw y), It i, .bool (decide ((((i : Nat) : Int) : Int) < (((nw y : Nat) : Int) : Int))), v16, v17, v18, v19, v20, v21, v22, v23, v24, v25, v26, v27, v28, v29, v30, v31, v32, v33, v34, v35, v36, Ut (sbW (f (o + i)) (((wd y i) * q + ov + 0) % 18446744073709551616) bo), Ut (sbB (f (o + i)) (((wd y i) * q + ov + 0) % 18446744073709551616) bo), .pointer (some ⟨g, o + i, none⟩), It (i + 1)] ++ us 17) ?_
    change wpListS _ _ _ _ [_] ⟨_, []⟩ _
    refine wpListS_yld rfl ?_
    refine yld_move rfl ⟨fun _ => KK, ?_⟩
    refine wpListS_nil ?_
    refine ⟨_, ?_, i + 1, ((wd y i) * q + ov + 0) / 18446744073709551616, sbB (f (o + i)) (((wd y i) * q + ov + 0) % 18446744073709551616) bo, upd (f) (o + i) (sbW (f (o + i)) (((wd y i) * q + ov + 0) % 18446744073709551616) bo), rfl, ⟨by omega, t_step hT (by omega) hq⟩, fun d => ([Ut (((wd y i) * q + ov + 0) / 18446744073709551616), Ut (sbB (f (o + i)) (((wd y i) * q + ov + 0) % 18446744073709551616) bo), It i, Ut (((wd y i) * q + ov + 0) / 18446744073709551616), Ut (((wd y i) * q + ov + 0) % 18446744073709551616), v12, It (nw y), It (i + 1), .bool (decide ((((i : Nat) : Int) : Int) < (((nw y : Nat) : Int) : Int))), v16, v17, v18, v19, v20, v21, v22, v23, v24, v25, v26, v27, v28, v29, v30, v31, v32, v33, v34, v35, v36, Ut (sbW (f (o + i)) (((wd y i) * q + ov + 0) % 18446744073709551616) bo), Ut (sbB (f (o + i)) (((wd y i) * q + ov + 0) % 18446744073709551616) bo), .pointer (some ⟨g, o + i, none⟩), It (i + 1)] : List Value).getD (d - 7) undef, by kernel_rfl, W11, B4, Rg, hb⟩
    rw [hnn4]; omega
  · have hi1 : i = nw y := Nat.le_antisymm hi (by simpa using hlt)
    rw [hi1] at hT
    have hfi := hT.1 (o + nw y) (by omega)
    refine wp_exit ?_
    change Code.wp _ _ _ ⟨_, []⟩ _
    refine wp_seq ?_
    refine rg (fun c d v a w h => NL c d v a w h) [(42, .eq (.slice (some ⟨g, o, none⟩) (nw y + 1) (c))), (43, .natF ((fun k => k = g)) (y)), (44, .eq (.int .i64 (((nw y : Nat) : Int)))), (45, .eq (.slice (some ⟨g, o, none⟩) (nw y + 1) (c))), (46, .natF ((fun k => k = g)) (y)), (47, .eq (.int .i64 (((nw y : Nat) : Int)))), (48, .eq (.pointer (some ⟨g, o + (nw y), none⟩))), (49, .eq (.int .u64 (((f (o + (nw y)) : Nat) : Int)))), (50, .eq (.int .u64 (((ov : Nat) : Int)))), (51, .eq (.int .u64 (((bo : Nat) : Int)))), (52, .tup2 (.eq (.int .u64 (((sbW (f (o + (nw y))) ov bo : Nat) : Int)))) (.eq (.int .u64 (((sbB (f (o + (nw y))) ov bo : Nat) : Int))))), (41, .tup2 (.eq (.int .u64 (((sbW (f (o + (nw y))) ov bo : Nat) : Int)))) (.eq (.int .u64 (((sbB (f (o + (nw y))) ov bo : Nat) : Int))))), (53, .eq (.int .u64 (((sbW (f (o + (nw y))) ov bo : Nat) : Int)))), (54, .eq (.int .u64 (((sbB (f (o + (nw y))) ov bo : Nat) : Int)))), (55, .eq (.pointer (some ⟨g, o + (nw y), none⟩)))] [] [13] [] 58 15 ?_ ?_
    · refine so [] (fun w12 hw12 => .fin (yld_move rfl ⟨Grow.refl _, rfl⟩)) ?_
      refine so [] (fun w12 hw12 => .fin (yld_loadBox rfl rfl aggNat (B4.grow hw12) (shNatF))) ?_
      refine so [1] (fun w12 hw12 => by rintro v43 h43; exact .fin (yld_call rfl cal_nat_Nat_Len rfl (cLenF h43))) ?_
      refine so [] (fun w12 hw12 => .fin (yld_move rfl ⟨Grow.refl _, rfl⟩)) ?_
      refine so [] (fun w12 hw12 => .fin (yld_loadBox rfl rfl aggNat (B4.grow hw12) (shNatF))) ?_
      refine so [4] (fun w12 hw12 => by rintro v46 h46; exact .fin (yld_call rfl cal_nat_Nat_Len rfl (cLenF h46))) ?_
      refine so [3, 5] (fun w12 hw12 => by rintro _ rfl _ rfl; exact .fin (yld_indexE (k := nw y) rfl rfl rfl (rfl) (by omega) (j := o + (nw y)) (rfl))) ?_
      refine so [6] (fun w12 hw12 => by rintro _ rfl; exact .fin (yld_loadE rfl rfl (Rg.below hw12) (by omega))) ?_
      refine so [] (fun w12 hw12 => .fin (yld_move rfl ⟨Grow.refl _, rfl⟩)) ?_
      refine so [] (fun w12 hw12 => .fin (yld_move rfl ⟨Grow.refl _, rfl⟩)) ?_
      refine so [7, 8, 9] (fun w12 hw12 => by rintro _ rfl _ rfl _ rfl; exact .fin (yld_call rfl cal_word_Sub rfl (cWSub (x := (f (o + (nw y)))) (y := ov) (z := bo) (by first | omega | exact wd_lt _ _ | exact Nat.mod_lt _ (by omega)) (by first | omega | exact wd_lt _ _ | exact Nat.mod_lt _ (by omega)) (by omega)))) ?_
      refine so [10] (fun w12 hw12 => by rintro _ ⟨x52_0, x52_1, rfl, hx52_0, hx52_1⟩; exact .fin (yld_move rfl ⟨Grow.refl _, ⟨x52_0, x52_1, rfl, hx52_0, hx52_1⟩⟩)) ?_
      refine so [11] (fun w12 hw12 => by rintro _ ⟨x41_0, x41_1, rfl, hx41_0, hx41_1⟩; exact .fin (yld_extract rfl rfl rfl ⟨Grow.refl _, hx41_0⟩)) ?_
      refine sl [11] (fun w12 hw12 => by rintro _ ⟨x41_0, x41_1, rfl, hx41_0, hx41_1⟩; exact .fin (⟨_, fun w2 _ => pure_extract rfl rfl rfl w2, hx41_1⟩)) ?_
      exact so [0, 2] (fun w12 hw12 => by rintro _ rfl _ rfl; exact .fin (yld_indexE (k := nw y) rfl rfl rfl (rfl) (by omega) (j := o + (nw y)) (rfl))) (.nil _ _)
    rintro w12 hw12 v42 - v43 - v44 - v45 - v46 - v47 - v48 - v49 - v50 - v51 - v52 - v41 - _ rfl _ rfl _ rfl -
    have W12 : Mod g w w12 := W5.trans hw12
    replace Rg := Rg.below hw12
    have KK : Kept [] w12 w12 := fun _ _ => rfl
    refine fr [.slice (some ⟨g, o, none⟩) (nw y + 1) (c), vb, Ut q, u, pt b4, u, .bool (false), Ut ov, Ut bo, (tt4 9), (tt4 10), (tt4 11), v12, It (nw y), It i, .bool (decide ((((i : Nat) : Int) : Int) < (((nw y : Nat) : Int) : Int))), (tt4 16), (tt4 17), (tt4 18), (tt4 19), (tt4 20), (tt4 21), (tt4 22), (tt4 23), (tt4 24), (tt4 25), (tt4 26), (tt4 27), (tt4 28), (tt4 29), (tt4 30), (tt4 31), (tt4 32), (tt4 33), (tt4 34), (tt4 35), (tt4 36), (tt4 37), (tt4 38), (tt4 39), (tt4 40), v41, v42, v43, v44, v45, v46, v47, v48, v49, v50, v51, v52, Ut (sbW (f (o + (nw y))) ov bo), Ut (sbB (f (o + (nw y))) ov bo), .pointer (some ⟨g, o + (nw y), none⟩), u, u] ?_
    change wpListS _ _ _ _ [_, _] ⟨_, []⟩ _
    refine wpListS_yld rfl ?_
    refine yld_storeE (i := o + (nw y)) (v := sbW (f (o + (nw y))) ov bo) rfl rfl rfl Rg (by omega) fun w13 P13 R' => ⟨fun _ => Kept.put KK P13 (fun _ hk => (by cases hk)), ?_⟩
    replace KK := Kept.put KK P13 (fun _ hk => (by cases hk))
    have M13 : Mod g w12 w13 := P13.toMod
    have W13 : Mod g w w13 := W12.step M13
    replace Rg := R'; clear R'
    change wpListS _ _ _ _ [_] ⟨_, []⟩ _
    refine wpListS_yld rfl ?_
    refine yld_assign rfl ⟨fun _ => KK, ?_⟩
    refine wpListS_nil ?_
    change Code.wp _ _ _ ⟨List.toArray (List.set _ 8 _), []⟩ _
    refine wp_seq ?_
    refine rg (fun c d v a w h => NL c d v a w h) [(56, .eq (.int .u64 (((sbB (f (o + (nw y))) ov bo : Nat) : Int)))), (57, .eq (.bool ((((sbB (f (o + (nw y))) ov bo : Nat) : Int) : Int) == (1 : Int)))), (6, .eq (.bool ((((sbB (f (o + (nw y))) ov bo : Nat) : Int) : Int) == (1 : Int))))] [] [] [] 58 3 ?_ ?_
    · refine so [] (fun w14 hw14 => .fin (yld_move rfl ⟨Grow.refl _, rfl⟩)) ?_
      refine so [0] (fun w14 hw14 => by rintro _ rfl; exact .fin (yld_eql rfl rfl rfl ⟨Grow.refl _, rfl⟩)) ?_
      exact so [1] (fun w14 hw14 => by rintro _ rfl; exact .fin (yld_assign rfl ⟨Grow.refl _, rfl⟩)) (.nil _ _)
    rintro w14 hw14 v56 - v57 - _ rfl -
    have W14 : Mod g w w14 := W13.trans hw14
    replace Rg := Rg.below hw14
    refine fr [.slice (some ⟨g, o, none⟩) (nw y + 1) (c), vb, Ut q, u, pt b4, u, .bool ((((sbB (f (o + (nw y))) ov bo : Nat) : Int) : Int) == (1 : Int)), Ut ov, Ut (sbB (f (o + (nw y))) ov bo), (tt4 9), (tt4 10), (tt4 11), v12, It (nw y), It i, .bool (decide ((((i : Nat) : Int) : Int) < (((nw y : Nat) : Int) : Int))), (tt4 16), (tt4 17), (tt4 18), (tt4 19), (tt4 20), (tt4 21), (tt4 22), (tt4 23), (tt4 24), (tt4 25), (tt4 26), (tt4 27), (tt4 28), (tt4 29), (tt4 30), (tt4 31), (tt4 32), (tt4 33), (tt4 34), (tt4 35), (tt4 36), (tt4 37), (tt4 38), (tt4 39), (tt4 40), v41, v42, v43, v44, v45, v46, v47, v48, v49, v50, v51, v52, Ut (sbW (f (o + (nw y))) ov bo), Ut (sbB (f (o + (nw y))) ov bo), .pointer (some ⟨g, o + (nw y), none⟩), v56, v57] ?_
    refine nx ?_
    refine wp_ret ?_
    change bodyPost Try.prog Try.f111 (RetB g L (fun v f => ∃ b, v = .bool (decide (b = 1)) ∧ TRes q y o (nw y) f0 f N b) w) .ret _ _
    exact body_slotB rfl W14 Rg ⟨_, by show Value.bool _ = _; congr 1; exact sb_one, t_end hT (by omega)⟩ rfl
set_option maxRecDepth 100000 in
set_option maxHeartbeats 2000000 in
theorem cBack {g o c L N y : Nat} {f0 : Nat → Nat} {vb : Value} {w : World} (R0 : Blk w g 105 (wa f0 L)) (hb : (MR.natF ((fun k => k = g)) (y)).R w vb) (hN : o + nw y < N) (hL : N ≤ L) (hs : nw y ≤ 1099511627776) (hf0 : Wf f0 N) : Calls Try.prog 112 #[.slice (some ⟨g, o, none⟩) (nw y + 1) (c), vb] w (RetB g L (fun _ f => ∃ c, BkRes y o (nw y) f0 f N c) w) := by
  have _ := hs
  have _ := hL
  have Rg := R0
  refine calls_enter (a := ⟨List.toArray ([.slice (some ⟨g, o, none⟩) (nw y + 1) (c), vb] ++ us 33), []⟩) Try.func112 rfl (by kernel_rfl) ?_
  have NL : NoLook (bodyPost Try.prog Try.f112 (RetB g L (fun _ f => ∃ c, BkRes y o (nw y) f0 f N c) w)) := noLook_body
  refine wp_seq ?_
  refine rg (fun c d v a w h => NL c d v a w h) [(3, .ptr 31 (.natF ((fun k => k = g)) (y)))] [0] [] [] 35 1 ?_ ?_
  · exact sn [] (fun w1 hw1 => .fin (yld_newBox rfl rfl (MR.mono _ hw1 hb))) (.nil _ _)
  rintro w1 hw1 _ ⟨b3, rfl, B3⟩ hN
  have W1 : Mod g w w1 := (Mod.refl g w).trans hw1
  have n_b3_g : b3 ≠ g := Nat.ne_of_gt (Nat.lt_of_lt_of_le Rg.lt hN.1.1)
  clear hN
  replace Rg := Rg.below hw1
  replace hb := MR.mono _ hw1 hb
  refine fr ([.slice (some ⟨g, o, none⟩) (nw y + 1) (c), vb, u, pt b3] ++ us 31) ?_
  refine nx ?_
  refine wp_seq ?_
  refine rg (fun c d v a w h => NL c d v a w h) [(4, .eq (.int .u64 (0)))] [] [] [] 35 1 ?_ ?_
  · exact so [] (fun w2 hw2 => .fin (yld_assign rfl ⟨Grow.refl _, rfl⟩)) (.nil _ _)
  rintro w2 hw2 _ rfl -
  have W2 : Mod g w w2 := W1.trans hw2
  replace B3 := B3.grow hw2
  replace Rg := Rg.below hw2
  replace hb := MR.mono _ hw2 hb
  refine fr ([.slice (some ⟨g, o, none⟩) (nw y + 1) (c), vb, u, pt b3, .int .u64 (0)] ++ us 30) ?_
  refine nx ?_
  refine wp_seq ?_
  refine wp_seq ?_
  refine rg (fun c d v a w h => NL c d v a w h) [(6, .natF ((fun k => k = g)) (y)), (7, .eq (.int .i64 (((nw y : Nat) : Int)))), (8, .eq (.int .i64 (0)))] [] [] [] 35 3 ?_ ?_
  · refine so [] (fun w3 hw3 => .fin (yld_loadBox rfl rfl aggNat (B3.grow hw3) (shNatF))) ?_
    refine so [0] (fun w3 hw3 => by rintro v6 h6; exact .fin (yld_call rfl cal_nat_Nat_Len rfl (cLenF h6))) ?_
    exact so [] (fun w3 hw3 => .fin (yld_move rfl ⟨Grow.refl _, rfl⟩)) (.nil _ _)
  rintro w3 hw3 v6 - _ rfl _ rfl -
  have W3 : Mod g w w3 := W2.trans hw3
  replace B3 := B3.grow hw3
  replace Rg := Rg.below hw3
  replace hb := MR.mono _ hw3 hb
  refine fr ([.slice (some ⟨g, o, none⟩) (nw y + 1) (c), vb, u, pt b3, .int .u64 (0), u, v6, It (nw y), .int .i64 (0)] ++ us 26) ?_
  refine nx ?_
  refine wp_block ?_
  refine wp_loop_ghost (fun nn ac4 w4 => ∃ (i : Nat) (ca : Nat) (f : Nat → Nat), nn = nw y - i ∧ (i ≤ nw y ∧ BkInv y o f0 f N i ca) ∧ ∃ tt4 : Nat → Value, ac4 = ⟨List.toArray ([.slice (some ⟨g, o, none⟩) (nw y + 1) (c), vb, u, pt b3, Ut ca, (tt4 5), v6, It (nw y), It i, (tt4 9), (tt4 10), (tt4 11), (tt4 12), (tt4 13), (tt4 14), (tt4 15), (tt4 16), (tt4 17), (tt4 18), (tt4 19), (tt4 20), (tt4 21), (tt4 22), (tt4 23), (tt4 24), (tt4 25), (tt4 26)] ++ us 8), []⟩ ∧ Mod g w w4 ∧ Box w4 b3 31 (.natF ((fun k => k = g)) (y)) ∧ Blk w4 g 105 (wa (f) (L)) ∧ (MR.natF ((fun k => k = g)) (y)).R w4 vb) (nw y - 0) ⟨0, 0, f0, rfl, ⟨by omega, bk_start hf0⟩, fun d => ([.int .u64 (0), u, v6, It (nw y), .int .i64 (0), u, u, u, u, u, u, u, u, u, u, u, u, u, u, u, u, u, u] : List Value).getD (d - 4) undef, by kernel_rfl, W3, B3, Rg, hb⟩ ?_
  clear B3 Rg hb
  rintro nn4 _ w4 ⟨i, ca, f, hnn4, ⟨hi, hT⟩, tt4, rfl, W4, B3, Rg, hb⟩
  have hca := hT.2.1
  refine wp_seq ?_
  refine rg (fun c d v a w h => NL c d v a w h) [(9, .eq (.bool (decide ((((i : Nat) : Int) : Int) < (((nw y : Nat) : Int) : Int)))))] [] [] [] 35 1 ?_ ?_
  · exact so [] (fun w5 hw5 => .fin (yld_lss rfl rfl rfl ⟨Grow.refl _, rfl⟩)) (.nil _ _)
  rintro w5 hw5 _ rfl -
  have W5 : Mod g w w5 := W4.trans hw5
  replace B3 := B3.grow hw5
  replace Rg := Rg.below hw5
  replace hb := MR.mono _ hw5 hb
  refine fr ([.slice (some ⟨g, o, none⟩) (nw y + 1) (c), vb, u, pt b3, Ut ca, (tt4 5), v6, It (nw y), It i, .bool (decide ((((i : Nat) : Int) : Int) < (((nw y : Nat) : Int) : Int))), (tt4 10), (tt4 11), (tt4 12), (tt4 13), (tt4 14), (tt4 15), (tt4 16), (tt4 17), (tt4 18), (tt4 19), (tt4 20), (tt4 21), (tt4 22), (tt4 23), (tt4 24), (tt4 25), (tt4 26)] ++ us 8) ?_
  refine nx ?_
  refine wp_seq ?_
  refine wp_cond_split (t := decide ((((i : Nat) : Int) : Int) < (((nw y : Nat) : Int) : Int))) rfl (fun hlt => ?_) (fun hlt => ?_)
  · have hlt1 : i < nw y := by simpa using hlt
    have hfi := hT.1 (o + i) (by omega)
    refine wp_skip ?_
    change Code.wp _ _ _ ⟨_, []⟩ _
    refine wp_seq ?_
    refine wp_block ?_
    refine wp_seq ?_
    refine rg (fun c d v a w h => NL c d v a w h) [(10, .eq (.int .i64 (((i : Nat) : Int)))), (5, .eq (.int .i64 (((i : Nat) : Int))))] [] [] [] 35 2 ?_ ?_
    · refine so [] (fun w6 hw6 => .fin (yld_move rfl ⟨Grow.refl _, rfl⟩)) ?_
      exact so [0] (fun w6 hw6 => by rintro _ rfl; exact .fin (yld_assign rfl ⟨Grow.refl _, rfl⟩)) (.nil _ _)
    rintro w6 hw6 v10 - _ rfl -
    have W6 : Mod g w w6 := W5.trans hw6
    replace B3 := B3.grow hw6
    replace Rg := Rg.below hw6
    replace hb := MR.mono _ hw6 hb
    refine fr ([.slice (some ⟨g, o, none⟩) (nw y + 1) (c), vb, u, pt b3, Ut ca, It i, v6, It (nw y), It i, .bool (decide ((((i : Nat) : Int) : Int) < (((nw y : Nat) : Int) : Int))), v10, (tt4 11), (tt4 12), (tt4 13), (tt4 14), (tt4 15), (tt4 16), (tt4 17), (tt4 18), (tt4 19), (tt4 20), (tt4 21), (tt4 22), (tt4 23), (tt4 24), (tt4 25), (tt4 26)] ++ us 8) ?_
    refine nx ?_
    refine rg (fun c d v a w h => NL c d v a w h) [(12, .eq (.slice (some ⟨g, o, none⟩) (nw y + 1) (c))), (13, .eq (.int .i64 (((i : Nat) : Int)))), (14, .eq (.slice (some ⟨g, o, none⟩) (nw y + 1) (c))), (15, .eq (.int .i64 (((i : Nat) : Int)))), (16, .eq (.pointer (some ⟨g, o + i, none⟩))), (17, .eq (.int .u64 (((f (o + i) : Nat) : Int)))), (18, .natF ((fun k => k = g)) (y)), (19, .eq (.int .i64 (((i : Nat) : Int)))), (20, .eq (.int .u64 (((wd y i : Nat) : Int)))), (21, .eq (.int .u64 (((ca : Nat) : Int)))), (22, .tup2 (.eq (.int .u64 (((((f (o + i)) + (wd y i) + ca) % 18446744073709551616 : Nat) : Int)))) (.eq (.int .u64 (((((f (o + i)) + (wd y i) + ca) / 18446744073709551616 : Nat) : Int))))), (11, .tup2 (.eq (.int .u64 (((((f (o + i)) + (wd y i) + ca) % 18446744073709551616 : Nat) : Int)))) (.eq (.int .u64 (((((f (o + i)) + (wd y i) + ca) / 18446744073709551616 : Nat) : Int))))), (23, .eq (.int .u64 (((((f (o + i)) + (wd y i) + ca) % 18446744073709551616 : Nat) : Int)))), (24, .eq (.int .u64 (((((f (o + i)) + (wd y i) + ca) / 18446744073709551616 : Nat) : Int)))), (25, .eq (.pointer (some ⟨g, o + i, none⟩)))] [] [13] [] 35 15 ?_ ?_
    · refine so [] (fun w7 hw7 => .fin (yld_move rfl ⟨Grow.refl _, rfl⟩)) ?_
      refine so [] (fun w7 hw7 => .fin (yld_move rfl ⟨Grow.refl _, rfl⟩)) ?_
      refine so [] (fun w7 hw7 => .fin (yld_move rfl ⟨Grow.refl _, rfl⟩)) ?_
      refine so [] (fun w7 hw7 => .fin (yld_move rfl ⟨Grow.refl _, rfl⟩)) ?_
      refine so [2, 3] (fun w7 hw7 => by rintro _ rfl _ rfl; exact .fin (yld_indexE (k := i) rfl rfl rfl (rfl) (by omega) (j := o + i) (rfl))) ?_
      refine so [4] (fun w7 hw7 => by rintro _ rfl; exact .fin (yld_loadE rfl rfl (Rg.below hw7) (by omega))) ?_
      refine so [] (fun w7 hw7 => .fin (yld_loadBox rfl rfl aggNat (B3.grow hw7) (shNatF))) ?_
      refine so [] (fun w7 hw7 => .fin (yld_move rfl ⟨Grow.refl _, rfl⟩)) ?_
      refine so [6, 7] (fun w7 hw7 => by rintro v18 h18 _ rfl; exact .fin (yld_call rfl cal_nat_Nat_Word rfl (cWordF (k := i) h18))) ?_
      refine so [] (fun w7 hw7 => .fin (yld_move rfl ⟨Grow.refl _, rfl⟩)) ?_
      refine so [5, 8, 9] (fun w7 hw7 => by rintro _ rfl _ rfl _ rfl; exact .fin (yld_call rfl cal_word_Add rfl (cWAdd (x := (f (o + i))) (y := (wd y i)) (z := ca) (by first | omega | exact wd_lt _ _ | exact Nat.mod_lt _ (by omega)) (by first | omega | exact wd_lt _ _ | exact Nat.mod_lt _ (by omega)) (by omega)))) ?_
      refine so [10] (fun w7 hw7 => by rintro _ ⟨x22_0, x22_1, rfl, hx22_0, hx22_1⟩; exact .fin (yld_move rfl ⟨Grow.refl _, ⟨x22_0, x22_1, rfl, hx22_0, hx22_1⟩⟩)) ?_
      refine so [11] (fun w7 hw7 => by rintro _ ⟨x11_0, x11_1, rfl, hx11_0, hx11_1⟩; exact .fin (yld_extract rfl rfl rfl ⟨Grow.refl _, hx11_0⟩)) ?_
      refine sl [11] (fun w7 hw7 => by rintro _ ⟨x11_0, x11_1, rfl, hx11_0, hx11_1⟩; exact .fin (⟨_, fun w2 _ => pure_extract rfl rfl rfl w2, hx11_1⟩)) ?_
      exact so [0, 1] (fun w7 hw7 => by rintro _ rfl _ rfl; exact .fin (yld_indexE (k := i) rfl rfl rfl (rfl) (by omega) (j := o + i) (rfl))) (.nil _ _)
    rintro w7 hw7 v12 - v13 - v14 - v15 - v16 - v17 - v18 - v19 - v20 - v21 - v22 - v11 - _ rfl _ rfl _ rfl -
    have W7 : Mod g w w7 := W6.trans hw7
    replace B3 := B3.grow hw7
    replace Rg := Rg.below hw7
    replace hb := MR.mono _ hw7 hb
    have KK : Kept [] w7 w7 := fun _ _ => rfl
    refine fr ([.slice (some ⟨g, o, none⟩) (nw y + 1) (c), vb, u, pt b3, Ut ca, It i, v6, It (nw y), It i, .bool (decide ((((i : Nat) : Int) : Int) < (((nw y : Nat) : Int) : Int))), v10, v11, v12, v13, v14, v15, v16, v17, v18, v19, v20, v21, v22, Ut (((f (o + i)) + (wd y i) + ca) % 18446744073709551616), Ut (((f (o + i)) + (wd y i) + ca) / 18446744073709551616), .pointer (some ⟨g, o + i, none⟩), (tt4 26)] ++ us 8) ?_
    change wpListS _ _ _ _ [_, _] ⟨_, []⟩ _
    refine wpListS_yld rfl ?_
    refine yld_storeE (i := o + i) (v := ((f (o + i)) + (wd y i) + ca) % 18446744073709551616) rfl rfl rfl Rg (by omega) fun w8 P8 R' => ⟨fun _ => Kept.put KK P8 (fun _ hk => (by cases hk)), ?_⟩
    replace KK := Kept.put KK P8 (fun _ hk => (by cases hk))
    have M8 : Mod g w7 w8 := P8.toMod
    have W8 : Mod g w w8 := W7.step M8
    replace B3 := B3.mod M8 rfl n_b3_g
    replace hb := natF_mod hb M8 rfl
    replace Rg := R'; clear R'
    change wpListS _ _ _ _ [_] ⟨_, []⟩ _
    refine wpListS_yld rfl ?_
    refine yld_assign rfl ⟨fun _ => KK, ?_⟩
    refine wpListS_nil ?_
    change Code.wp _ _ _ ⟨List.toArray (List.set _ 4 _), []⟩ _
    refine rg (fun c d v a w h => NL c d v a w h) [(26, .eq (.int .i64 (((i + 1 : Nat) : Int))))] [] [] [] 35 1 ?_ ?_
    · exact so [] (fun w9 hw9 => .fin (yld_add rfl rfl rfl (r := ((i + 1 : Nat) : Int)) (by rw [IntKind.wrap_i64]; omega) ⟨Grow.refl _, rfl⟩)) (.nil _ _)
    rintro w9 hw9 _ rfl -
    have W9 : Mod g w w9 := W8.trans hw9
    replace B3 := B3.grow hw9
    replace Rg := Rg.below hw9
    replace hb := MR.mono _ hw9 hb
    have KK : Kept [] w9 w9 := fun _ _ => rfl
    refine fr ([.slice (some ⟨g, o, none⟩) (nw y + 1) (c), vb, u, pt b3, Ut (((f (o + i)) + (wd y i) + ca) / 18446744073709551616), It i, v6, It (nw y), It i, .bool (decide ((((i : Nat) : Int) : Int) < (((nw y : Nat) : Int) : Int))), v10, v11, v12, v13, v14, v15, v16, v17, v18, v19, v20, v21, v22, Ut (((f (o + i)) + (wd y i) + ca) % 18446744073709551616), Ut (((f (o + i)) + (wd y i) + ca) / 18446744073709551616), .pointer (some ⟨g, o + i, none⟩), It (i + 1)] ++ us 8) ?_
    change wpListS _ _ _ _ [_] ⟨_, []⟩ _
    refine wpListS_yld rfl ?_
    refine yld_move rfl ⟨fun _ => KK, ?_⟩
    refine wpListS_nil ?_
    refine ⟨_, ?_, i + 1, ((f (o + i)) + (wd y i) + ca) / 18446744073709551616, upd (f) (o + i) (((f (o + i)) + (wd y i) + ca) % 18446744073709551616), rfl, ⟨by omega, bk_step hT (by omega)⟩, fun d => ([Ut (((f (o + i)) + (wd y i) + ca) / 18446744073709551616), It i, v6, It (nw y), It (i + 1), .bool (decide ((((i : Nat) : Int) : Int) < (((nw y : Nat) : Int) : Int))), v10, v11, v12, v13, v14, v15, v16, v17, v18, v19, v20, v21, v22, Ut (((f (o + i)) + (wd y i) + ca) % 18446744073709551616), Ut (((f (o + i)) + (wd y i) + ca) / 18446744073709551616), .pointer (some ⟨g, o + i, none⟩), It (i + 1)] : List Value).getD (d - 4) undef, by kernel_rfl, W9, B3, Rg, hb⟩
    rw [hnn4]; omega
  · have hi1 : i = nw y := Nat.le_antisymm hi (by simpa using hlt)
    rw [hi1] at hT
    have hfi := hT.1 (o + nw y) (by omega)
    refine wp_exit ?_
    change Code.wp _ _ _ ⟨_, []⟩ _
    refine rg (fun c d v a w h => NL c d v a w h) [(27, .eq (.slice (some ⟨g, o, none⟩) (nw y + 1) (c))), (28, .natF ((fun k => k = g)) (y)), (29, .eq (.int .i64 (((nw y : Nat) : Int)))), (30, .eq (.pointer (some ⟨g, o + (nw y), none⟩))), (31, .eq (.int .u64 (((f (o + (nw y)) : Nat) : Int)))), (32, .eq (.int .u64 (((ca : Nat) : Int)))), (33, .eq (.int .u64 ((((f (o + nw y) + ca) % 18446744073709551616 : Nat) : Int)))), (34, .eq (.pointer (some ⟨g, o + (nw y), none⟩)))] [] [] [] 35 8 ?_ ?_
    · refine so [] (fun w10 hw10 => .fin (yld_move rfl ⟨Grow.refl _, rfl⟩)) ?_
      refine so [] (fun w10 hw10 => .fin (yld_loadBox rfl rfl aggNat (B3.grow hw10) (shNatF))) ?_
      refine so [1] (fun w10 hw10 => by rintro v28 h28; exact .fin (yld_call rfl cal_nat_Nat_Len rfl (cLenF h28))) ?_
      refine so [0, 2] (fun w10 hw10 => by rintro _ rfl _ rfl; exact .fin (yld_indexE (k := nw y) rfl rfl rfl (rfl) (by omega) (j := o + (nw y)) (rfl))) ?_
      refine so [3] (fun w10 hw10 => by rintro _ rfl; exact .fin (yld_loadE rfl rfl (Rg.below hw10) (by omega))) ?_
      refine so [] (fun w10 hw10 => .fin (yld_move rfl ⟨Grow.refl _, rfl⟩)) ?_
      refine so [4, 5] (fun w10 hw10 => by rintro _ rfl _ rfl; exact .fin (yld_add rfl rfl rfl (r := (((f (o + nw y) + ca) % 18446744073709551616 : Nat) : Int)) (by rw [IntKind.wrap_u64]; omega) ⟨Grow.refl _, rfl⟩)) ?_
      exact so [0, 2] (fun w10 hw10 => by rintro _ rfl _ rfl; exact .fin (yld_indexE (k := nw y) rfl rfl rfl (rfl) (by omega) (j := o + (nw y)) (rfl))) (.nil _ _)
    rintro w10 hw10 v27 - v28 - v29 - v30 - v31 - v32 - _ rfl _ rfl -
    have W10 : Mod g w w10 := W5.trans hw10
    replace Rg := Rg.below hw10
    have KK : Kept [] w10 w10 := fun _ _ => rfl
    refine fr [.slice (some ⟨g, o, none⟩) (nw y + 1) (c), vb, u, pt b3, Ut ca, (tt4 5), v6, It (nw y), It i, .bool (decide ((((i : Nat) : Int) : Int) < (((nw y : Nat) : Int) : Int))), (tt4 10), (tt4 11), (tt4 12), (tt4 13), (tt4 14), (tt4 15), (tt4 16), (tt4 17), (tt4 18), (tt4 19), (tt4 20), (tt4 21), (tt4 22), (tt4 23), (tt4 24), (tt4 25), (tt4 26), v27, v28, v29, v30, v31, v32, Ut ((f (o + nw y) + ca) % 18446744073709551616), .pointer (some ⟨g, o + (nw y), none⟩)] ?_
    change wpListS _ _ _ _ [_] ⟨_, []⟩ _
    refine wpListS_yld rfl ?_
    refine yld_storeE (i := o + (nw y)) (v := (f (o + nw y) + ca) % 18446744073709551616) rfl rfl rfl Rg (by omega) fun w11 P11 R' => ⟨fun _ => Kept.put KK P11 (fun _ hk => (by cases hk)), ?_⟩
    have M11 : Mod g w10 w11 := P11.toMod
    have W11 : Mod g w w11 := W10.step M11
    replace Rg := R'; clear R'
    refine wpListS_nil ?_
    change bodyPost Try.prog Try.f112 (RetB g L (fun _ f => ∃ c, BkRes y o (nw y) f0 f N c) w) .ret _ _
    exact body_noneB rfl W11 Rg (fun _ => bk_end hT (by omega)) rfl
end Go.Proofs.Ytngghjhmfpmilaa
