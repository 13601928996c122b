/- quot.guess. -/
import Derived.Test.YtngghjhmfpmilaaDivP2
import Derived.Deep.LoopGhost
namespace Go.Proofs.Ytngghjhmfpmilaa
open Go.RowKit
theorem cWDiv {x y z : Nat} {w : World} (hy : y < 18446744073709551616) (hz : z < 18446744073709551616) : Calls Try.prog 114 #[.int .u64 ((x : Nat) : Int), .int .u64 ((y : Nat) : Int), .int .u64 ((z : Nat) : Int)] w (Ret (.tup3 (.eq (.int .u64 ((if x < z then divQ x y z else 0 : Nat) : Int))) (.eq (.int .u64 ((if x < z then divR x y z else 0 : Nat) : Int))) (.eq (.bool (decide (x < z))))) w) := by
  by_cases h : x < z
  · rw [if_pos h, if_pos h, decide_eq_true h]; exact cWDiv_yes h hy hz
  · rw [if_neg h, if_neg h, decide_eq_false h]; exact cWDiv_no (by omega)
theorem g_test1 {q v0 r u0 : Nat} (h : (decide (((((q * v0) / 18446744073709551616 : Nat) : Int) : Int) < (((r : Nat) : Int) : Int)) || ((((((q * v0) / 18446744073709551616 : Nat) : Int) : Int) == (((r : Nat) : Int) : Int)) && (decide (((((q * v0) % 18446744073709551616 : Nat) : Int) : Int) ≤ (((u0 : Nat) : Int) : Int))))) = true) : q * v0 ≤ r * 18446744073709551616 + u0 := by
  have := Nat.mod_add_div (q * v0) 18446744073709551616
  have hm := Nat.mod_lt (q * v0) (show 0 < 18446744073709551616 by omega)
  generalize q * v0 = p at *
  simp only [Bool.or_eq_true, Bool.and_eq_true, decide_eq_true_eq, beq_iff_eq] at h
  omega
theorem g_test2 {q v0 r u0 : Nat} (hu : u0 < 18446744073709551616) (h : (decide (((((q * v0) / 18446744073709551616 : Nat) : Int) : Int) < (((r : Nat) : Int) : Int)) || ((((((q * v0) / 18446744073709551616 : Nat) : Int) : Int) == (((r : Nat) : Int) : Int)) && (decide (((((q * v0) % 18446744073709551616 : Nat) : Int) : Int) ≤ (((u0 : Nat) : Int) : Int))))) = false) : r * 18446744073709551616 + u0 < q * v0 := by
  have := Nat.mod_add_div (q * v0) 18446744073709551616
  have hm := Nat.mod_lt (q * v0) (show 0 < 18446744073709551616 by omega)
  generalize q * v0 = p at *
  simp only [Bool.or_eq_false_iff, Bool.and_eq_false_iff, decide_eq_false_iff_not, beq_eq_false_iff_ne, ne_eq] at h
  omega
theorem g_car1 {r v1 : Nat} (_hr : r < 18446744073709551616) (_hv : v1 < 18446744073709551616) (h : ((((((r + v1 + 0) / 18446744073709551616 : Nat) : Int) : Int) == (1 : Int))) = true) : 18446744073709551616 ≤ r + v1 := by
  simp only [beq_iff_eq] at h
  omega
theorem g_car2 {r v1 : Nat} (h : ((((((r + v1 + 0) / 18446744073709551616 : Nat) : Int) : Int) == (1 : Int))) = false) (hr : r < 18446744073709551616 := by omega) (hv : v1 < 18446744073709551616 := by omega) : r + v1 + 0 < 18446744073709551616 := by
  simp only [beq_eq_false_iff_ne, ne_eq] at h
  omega
theorem cal_word_Mul : Callable Try.prog 106 := callable_of Try.func106 rfl (by kernel_rfl)
theorem cal_word_Div : Callable Try.prog 114 := callable_of Try.func114 rfl (by kernel_rfl)
theorem cal_word_Add : Callable Try.prog 91 := callable_of Try.func91 rfl (by kernel_rfl)
set_option maxRecDepth 100000 in
set_option maxHeartbeats 2000000 in
theorem cGuess {u2 u1 u0 v1 v0 : Nat}  {w : World}   (h21 : u2 ≤ v1) (hv : 0 < v1) (b1 : u1 < 18446744073709551616) (b0 : u0 < 18446744073709551616) (c1 : v1 < 18446744073709551616) (c0 : v0 < 18446744073709551616) : Calls Try.prog 110 #[.int .u64 (((u2 : Nat) : Int)), .int .u64 (((u1 : Nat) : Int)), .int .u64 (((u0 : Nat) : Int)), .int .u64 (((v1 : Nat) : Int)), .int .u64 (((v0 : Nat) : Int))] w (Ret (.eq (.int .u64 (((gq u2 u1 u0 v1 v0 : Nat) : Int)))) w) := by
  refine calls_enter (a := ⟨List.toArray ([Ut u2, Ut u1, Ut u0, Ut v1, Ut v0] ++ us 63), []⟩) Try.func110 rfl (by kernel_rfl) ?_
  have NL : NoLook (bodyPost Try.prog Try.f110 (Ret (.eq (.int .u64 (((gq u2 u1 u0 v1 v0 : Nat) : Int)))) w)) := noLook_body
  refine wp_seq ?_
  refine rg (fun c d v a w h => NL c d v a w h) [(10, .eq (.int .u64 (0)))] [] [] [] 68 1 ?_ ?_
  · exact so [] (fun w1 hw1 => .fin (yld_assign rfl ⟨Grow.refl _, rfl⟩)) (.nil _ _)
  rintro w1 hw1 _ rfl -
  have W1 : Grow w w1 := (Grow.refl w).trans hw1
  refine fr ([Ut u2, Ut u1, Ut u0, Ut v1, Ut v0, u, u, u, u, u, .int .u64 (0)] ++ us 57) ?_
  refine nx ?_
  refine wp_seq ?_
  refine rg (fun c d v a w h => NL c d v a w h) [(19, .eq (.int .u64 (((u2 : Nat) : Int)))), (20, .eq (.int .u64 (((u1 : Nat) : Int)))), (21, .eq (.int .u64 (((v1 : Nat) : Int)))), (22, .tup3 (.eq (.int .u64 (((if u2 < v1 then divQ u2 u1 v1 else 0 : Nat) : Int)))) (.eq (.int .u64 (((if u2 < v1 then divR u2 u1 v1 else 0 : Nat) : Int)))) (.eq (.bool (decide (u2 < v1))))), (18, .tup3 (.eq (.int .u64 (((if u2 < v1 then divQ u2 u1 v1 else 0 : Nat) : Int)))) (.eq (.int .u64 (((if u2 < v1 then divR u2 u1 v1 else 0 : Nat) : Int)))) (.eq (.bool (decide (u2 < v1))))), (23, .eq (.int .u64 (((if u2 < v1 then divQ u2 u1 v1 else 0 : Nat) : Int)))), (24, .eq (.int .u64 (((if u2 < v1 then divR u2 u1 v1 else 0 : Nat) : Int)))), (25, .eq (.bool (decide (u2 < v1)))), (11, .eq (.int .u64 (((if u2 < v1 then divQ u2 u1 v1 else 0 : Nat) : Int)))), (12, .eq (.int .u64 (((if u2 < v1 then divR u2 u1 v1 else 0 : Nat) : Int)))), (13, .eq (.bool (decide (u2 < v1))))] [] [] [] 68 11 ?_ ?_
  · refine so [] (fun w2 hw2 => .fin (yld_move rfl ⟨Grow.refl _, rfl⟩)) ?_
    refine so [] (fun w2 hw2 => .fin (yld_move rfl ⟨Grow.refl _, rfl⟩)) ?_
    refine so [] (fun w2 hw2 => .fin (yld_move rfl ⟨Grow.refl _, rfl⟩)) ?_
    refine so [0, 1, 2] (fun w2 hw2 => by rintro _ rfl _ rfl _ rfl; exact .fin (yld_call rfl cal_word_Div rfl (cWDiv (x := u2) (y := u1) (z := v1) (by first | omega | exact wd_lt _ _ | exact Nat.mod_lt _ (by omega)) (by first | omega | exact wd_lt _ _ | exact Nat.mod_lt _ (by omega))))) ?_
    refine so [3] (fun w2 hw2 => by rintro _ ⟨x22_0, x22_1, x22_2, rfl, hx22_0, hx22_1, hx22_2⟩; exact .fin (yld_move rfl ⟨Grow.refl _, ⟨x22_0, x22_1, x22_2, rfl, hx22_0, hx22_1, hx22_2⟩⟩)) ?_
    refine so [4] (fun w2 hw2 => by rintro _ ⟨x18_0, x18_1, x18_2, rfl, hx18_0, hx18_1, hx18_2⟩; exact .fin (yld_extract rfl rfl rfl ⟨Grow.refl _, hx18_0⟩)) ?_
    refine so [4] (fun w2 hw2 => by rintro _ ⟨x18_0, x18_1, x18_2, rfl, hx18_0, hx18_1, hx18_2⟩; exact .fin (yld_extract rfl rfl rfl ⟨Grow.refl _, hx18_1⟩)) ?_
    refine so [4] (fun w2 hw2 => by rintro _ ⟨x18_0, x18_1, x18_2, rfl, hx18_0, hx18_1, hx18_2⟩; exact .fin (yld_extract rfl rfl rfl ⟨Grow.refl _, hx18_2⟩)) ?_
    refine so [5] (fun w2 hw2 => by rintro _ rfl; exact .fin (yld_assign rfl ⟨Grow.refl _, rfl⟩)) ?_
    refine so [6] (fun w2 hw2 => by rintro _ rfl; exact .fin (yld_assign rfl ⟨Grow.refl _, rfl⟩)) ?_
    exact so [7] (fun w2 hw2 => by rintro _ rfl; exact .fin (yld_assign rfl ⟨Grow.refl _, rfl⟩)) (.nil _ _)
  rintro w2 hw2 v19 - v20 - v21 - v22 - v18 - v23 - v24 - v25 - _ rfl _ rfl _ rfl -
  have W2 : Grow w w2 := W1.trans hw2
  refine fr ([Ut u2, Ut u1, Ut u0, Ut v1, Ut v0, u, u, u, u, u, .int .u64 (0), Ut (if u2 < v1 then divQ u2 u1 v1 else 0), Ut (if u2 < v1 then divR u2 u1 v1 else 0), .bool (decide (u2 < v1)), u, u, u, u, v18, v19, v20, v21, v22, v23, v24, v25] ++ us 42) ?_
  refine nx ?_
  refine wp_seq ?_
  refine wp_seq ?_
  refine rg (fun c d v a w h => NL c d v a w h) [(26, .eq (.bool (decide (u2 < v1)))), (27, .eq (.bool (!(decide (u2 < v1)))))] [] [] [] 68 2 ?_ ?_
  · refine so [] (fun w3 hw3 => .fin (yld_move rfl ⟨Grow.refl _, rfl⟩)) ?_
    exact so [0] (fun w3 hw3 => by rintro _ rfl; exact .fin (yld_not rfl rfl ⟨Grow.refl _, rfl⟩)) (.nil _ _)
  rintro w3 hw3 v26 - _ rfl -
  have W3 : Grow w w3 := W2.trans hw3
  refine fr ([Ut u2, Ut u1, Ut u0, Ut v1, Ut v0, u, u, u, u, u, .int .u64 (0), Ut (if u2 < v1 then divQ u2 u1 v1 else 0), Ut (if u2 < v1 then divR u2 u1 v1 else 0), .bool (decide (u2 < v1)), u, u, u, u, v18, v19, v20, v21, v22, v23, v24, v25, v26, .bool (!(decide (u2 < v1)))] ++ us 40) ?_
  refine nx ?_
  refine wp_cond_split (t := !(decide (u2 < v1))) rfl (fun hok => ?_) (fun hok => ?_)
  · have he : u2 = v1 := Nat.le_antisymm h21 (by simpa using hok)
    refine wp_seq ?_
    refine rg (fun c d v a w h => NL c d v a w h) [(14, .eq (.int .u64 (0)))] [] [] [] 68 1 ?_ ?_
    · exact so [] (fun w4 hw4 => .fin (yld_assign rfl ⟨Grow.refl _, rfl⟩)) (.nil _ _)
    rintro w4 hw4 _ rfl -
    have W4 : Grow w w4 := W3.trans hw4
    refine fr ([Ut u2, Ut u1, Ut u0, Ut v1, Ut v0, u, u, u, u, u, .int .u64 (0), Ut (if u2 < v1 then divQ u2 u1 v1 else 0), Ut (if u2 < v1 then divR u2 u1 v1 else 0), .bool (decide (u2 < v1)), .int .u64 (0), u, u, u, v18, v19, v20, v21, v22, v23, v24, v25, v26, .bool (!(decide (u2 < v1)))] ++ us 40) ?_
    refine nx ?_
    refine wp_seq ?_
    refine rg (fun c d v a w h => NL c d v a w h) [(11, .eq (.int .u64 (18446744073709551615)))] [] [] [] 68 1 ?_ ?_
    · exact so [] (fun w5 hw5 => .fin (yld_assign rfl ⟨Grow.refl _, rfl⟩)) (.nil _ _)
    rintro w5 hw5 _ rfl -
    have W5 : Grow w w5 := W4.trans hw5
    refine fr ([Ut u2, Ut u1, Ut u0, Ut v1, Ut v0, u, u, u, u, u, .int .u64 (0), .int .u64 (18446744073709551615), Ut (if u2 < v1 then divR u2 u1 v1 else 0), .bool (decide (u2 < v1)), .int .u64 (0), u, u, u, v18, v19, v20, v21, v22, v23, v24, v25, v26, .bool (!(decide (u2 < v1)))] ++ us 40) ?_
    refine nx ?_
    refine wp_seq ?_
    refine rg (fun c d v a w h => NL c d v a w h) [(29, .eq (.int .u64 (((u1 : Nat) : Int)))), (30, .eq (.int .u64 (((v1 : Nat) : Int)))), (31, .tup2 (.eq (.int .u64 ((((u1 + v1 + 0) % 18446744073709551616 : Nat) : Int)))) (.eq (.int .u64 ((((u1 + v1 + 0) / 18446744073709551616 : Nat) : Int))))), (28, .tup2 (.eq (.int .u64 ((((u1 + v1 + 0) % 18446744073709551616 : Nat) : Int)))) (.eq (.int .u64 ((((u1 + v1 + 0) / 18446744073709551616 : Nat) : Int))))), (32, .eq (.int .u64 ((((u1 + v1 + 0) % 18446744073709551616 : Nat) : Int)))), (33, .eq (.int .u64 ((((u1 + v1 + 0) / 18446744073709551616 : Nat) : Int)))), (12, .eq (.int .u64 ((((u1 + v1 + 0) % 18446744073709551616 : Nat) : Int)))), (14, .eq (.int .u64 ((((u1 + v1 + 0) / 18446744073709551616 : Nat) : Int))))] [] [] [] 68 8 ?_ ?_
    · refine so [] (fun w6 hw6 => .fin (yld_move rfl ⟨Grow.refl _, rfl⟩)) ?_
      refine so [] (fun w6 hw6 => .fin (yld_move rfl ⟨Grow.refl _, rfl⟩)) ?_
      refine so [0, 1] (fun w6 hw6 => by rintro _ rfl _ rfl; exact .fin (yld_call rfl cal_word_Add rfl (cWAdd (x := u1) (y := v1) (z := 0) (by first | omega | exact wd_lt _ _ | exact Nat.mod_lt _ (by omega)) (by first | omega | exact wd_lt _ _ | exact Nat.mod_lt _ (by omega)) (by omega)))) ?_
      refine so [2] (fun w6 hw6 => by rintro _ ⟨x31_0, x31_1, rfl, hx31_0, hx31_1⟩; exact .fin (yld_move rfl ⟨Grow.refl _, ⟨x31_0, x31_1, rfl, hx31_0, hx31_1⟩⟩)) ?_
      refine so [3] (fun w6 hw6 => by rintro _ ⟨x28_0, x28_1, rfl, hx28_0, hx28_1⟩; exact .fin (yld_extract rfl rfl rfl ⟨Grow.refl _, hx28_0⟩)) ?_
      refine so [3] (fun w6 hw6 => by rintro _ ⟨x28_0, x28_1, rfl, hx28_0, hx28_1⟩; exact .fin (yld_extract rfl rfl rfl ⟨Grow.refl _, hx28_1⟩)) ?_
      refine so [4] (fun w6 hw6 => by rintro _ rfl; exact .fin (yld_assign rfl ⟨Grow.refl _, rfl⟩)) ?_
      exact so [5] (fun w6 hw6 => by rintro _ rfl; exact .fin (yld_assign rfl ⟨Grow.refl _, rfl⟩)) (.nil _ _)
    rintro w6 hw6 v29 - v30 - v31 - v28 - v32 - v33 - _ rfl _ rfl -
    have W6 : Grow w w6 := W5.trans hw6
    refine fr ([Ut u2, Ut u1, Ut u0, Ut v1, Ut v0, u, u, u, u, u, .int .u64 (0), .int .u64 (18446744073709551615), Ut ((u1 + v1 + 0) % 18446744073709551616), .bool (decide (u2 < v1)), Ut ((u1 + v1 + 0) / 18446744073709551616), u, u, u, v18, v19, v20, v21, v22, v23, v24, v25, v26, .bool (!(decide (u2 < v1))), v28, v29, v30, v31, v32, v33] ++ us 34) ?_
    refine nx ?_
    refine wp_seq ?_
    refine rg (fun c d v a w h => NL c d v a w h) [(34, .eq (.int .u64 ((((u1 + v1 + 0) / 18446744073709551616 : Nat) : Int)))), (35, .eq (.bool (((((u1 + v1 + 0) / 18446744073709551616 : Nat) : Int) : Int) == (1 : Int))))] [] [] [] 68 2 ?_ ?_
    · refine so [] (fun w7 hw7 => .fin (yld_move rfl ⟨Grow.refl _, rfl⟩)) ?_
      exact so [0] (fun w7 hw7 => by rintro _ rfl; exact .fin (yld_eql rfl rfl rfl ⟨Grow.refl _, rfl⟩)) (.nil _ _)
    rintro w7 hw7 v34 - _ rfl -
    have W7 : Grow w w7 := W6.trans hw7
    refine fr ([Ut u2, Ut u1, Ut u0, Ut v1, Ut v0, u, u, u, u, u, .int .u64 (0), .int .u64 (18446744073709551615), Ut ((u1 + v1 + 0) % 18446744073709551616), .bool (decide (u2 < v1)), Ut ((u1 + v1 + 0) / 18446744073709551616), u, u, u, v18, v19, v20, v21, v22, v23, v24, v25, v26, .bool (!(decide (u2 < v1))), v28, v29, v30, v31, v32, v33, v34, .bool (((((u1 + v1 + 0) / 18446744073709551616 : Nat) : Int) : Int) == (1 : Int))] ++ us 32) ?_
    refine nx ?_
    refine wp_cond_split (t := ((((u1 + v1 + 0) / 18446744073709551616 : Nat) : Int) : Int) == (1 : Int)) rfl (fun ho => ?_) (fun ho => ?_)
    · have hov0 := g_car1 (by omega) (by omega) ho
      refine wp_seq ?_
      refine rg (fun c d v a w h => NL c d v a w h) [(36, .eq (.int .u64 (18446744073709551615))), (10, .eq (.int .u64 (18446744073709551615)))] [] [] [] 68 2 ?_ ?_
      · refine so [] (fun w8 hw8 => .fin (yld_move rfl ⟨Grow.refl _, rfl⟩)) ?_
        exact so [0] (fun w8 hw8 => by rintro _ rfl; exact .fin (yld_assign rfl ⟨Grow.refl _, rfl⟩)) (.nil _ _)
      rintro w8 hw8 v36 - _ rfl -
      have W8 : Grow w w8 := W7.trans hw8
      refine fr ([Ut u2, Ut u1, Ut u0, Ut v1, Ut v0, u, u, u, u, u, .int .u64 (18446744073709551615), .int .u64 (18446744073709551615), Ut ((u1 + v1 + 0) % 18446744073709551616), .bool (decide (u2 < v1)), Ut ((u1 + v1 + 0) / 18446744073709551616), u, u, u, v18, v19, v20, v21, v22, v23, v24, v25, v26, .bool (!(decide (u2 < v1))), v28, v29, v30, v31, v32, v33, v34, .bool (((((u1 + v1 + 0) / 18446744073709551616 : Nat) : Int) : Int) == (1 : Int)), v36] ++ us 31) ?_
      refine nx ?_
      refine wp_ret ?_
      change bodyPost Try.prog Try.f110 (Ret (.eq (.int .u64 (((gq u2 u1 u0 v1 v0 : Nat) : Int)))) w) .ret _ _
      exact body_slot rfl (by show Value.int _ _ = Value.int _ _; rw [show ((18446744073709551615 : Int)) = (((gq u2 u1 u0 v1 v0 : Nat) : Int)) from (by first | exact congrArg Nat.cast (g_done hv hinv hd) | exact congrArg Nat.cast (g_down_over hv c0 hinv hd2 hov) | exact congrArg Nat.cast (g_over he c0 hov0 hv))]) rfl W8
    · have hno := g_car2 ho
      refine wp_skip ?_
      change Code.wp _ _ _ ⟨_, []⟩ _
      refine wp_block ?_
      refine wp_loop_ghost (fun nn ac9 w9 => ∃ (q : Nat) (r : Nat), nn = q ∧ (GInv u2 u1 u0 v1 v0 q r) ∧ ∃ tt9 : Nat → Value, ac9 = ⟨List.toArray (Ut u2 :: Ut u1 :: Ut u0 :: Ut v1 :: Ut v0 :: u :: u :: u :: u :: u :: (tt9 10) :: Ut q :: Ut r :: .bool (decide (u2 < v1)) :: Ut ((u1 + v1 + 0) / 18446744073709551616) :: (tt9 15) :: (tt9 16) :: (tt9 17) :: v18 :: v19 :: v20 :: v21 :: v22 :: v23 :: v24 :: v25 :: v26 :: .bool (!(decide (u2 < v1))) :: v28 :: v29 :: v30 :: v31 :: v32 :: v33 :: v34 :: .bool (((((u1 + v1 + 0) / 18446744073709551616 : Nat) : Int) : Int) == (1 : Int)) :: u :: (tt9 37) :: (tt9 38) :: (tt9 39) :: (tt9 40) :: (tt9 41) :: (tt9 42) :: (tt9 43) :: (tt9 44) :: (tt9 45) :: (tt9 46) :: (tt9 47) :: (tt9 48) :: (tt9 49) :: (tt9 50) :: (tt9 51) :: (tt9 52) :: (tt9 53) :: (tt9 54) :: (tt9 55) :: (tt9 56) :: (tt9 57) :: (tt9 58) :: (tt9 59) :: (tt9 60) :: (tt9 61) :: (tt9 62) :: (tt9 63) :: (tt9 64) :: (tt9 65) :: (tt9 66) :: (tt9 67) :: []), []⟩ ∧ Grow w w9) (18446744073709551615) ⟨18446744073709551615, (u1 + v1 + 0) % 18446744073709551616, rfl, by rw [Nat.mod_eq_of_lt hno]; exact g_start_no he hno, fun d => ([.int .u64 (0), .int .u64 (18446744073709551615), Ut ((u1 + v1 + 0) % 18446744073709551616), .bool (decide (u2 < v1)), Ut ((u1 + v1 + 0) / 18446744073709551616), u, u, u, v18, v19, v20, v21, v22, v23, v24, v25, v26, .bool (!(decide (u2 < v1))), v28, v29, v30, v31, v32, v33, v34, .bool (((((u1 + v1 + 0) / 18446744073709551616 : Nat) : Int) : Int) == (1 : Int)), u, u, u, u, u, u, u, u, u, u, u, u, u, u, u, u, u, u, u, u, u, u, u, u, u, u, u, u, u, u, u, u] : List Value).getD (d - 10) undef, by kernel_rfl, W7⟩ ?_
      rintro nn9 _ w9 ⟨q, r, hnn9, hinv, tt9, rfl, W9⟩
      have hq := hinv.1; have hr := hinv.2.1
      refine wp_block ?_
      refine wp_seq ?_
      refine rg (fun c d v a w h => NL c d v a w h) [(38, .eq (.int .u64 (((q : Nat) : Int)))), (39, .eq (.int .u64 (((v0 : Nat) : Int)))), (40, .tup2 (.eq (.int .u64 ((((q * v0) / 18446744073709551616 : Nat) : Int)))) (.eq (.int .u64 ((((q * v0) % 18446744073709551616 : Nat) : Int))))), (37, .tup2 (.eq (.int .u64 ((((q * v0) / 18446744073709551616 : Nat) : Int)))) (.eq (.int .u64 ((((q * v0) % 18446744073709551616 : Nat) : Int))))), (41, .eq (.int .u64 ((((q * v0) / 18446744073709551616 : Nat) : Int)))), (42, .eq (.int .u64 ((((q * v0) % 18446744073709551616 : Nat) : Int)))), (15, .eq (.int .u64 ((((q * v0) / 18446744073709551616 : Nat) : Int)))), (16, .eq (.int .u64 ((((q * v0) % 18446744073709551616 : Nat) : Int))))] [] [] [] 68 8 ?_ ?_
      · refine so [] (fun w10 hw10 => .fin (yld_move rfl ⟨Grow.refl _, rfl⟩)) ?_
        refine so [] (fun w10 hw10 => .fin (yld_move rfl ⟨Grow.refl _, rfl⟩)) ?_
        refine so [0, 1] (fun w10 hw10 => by rintro _ rfl _ rfl; exact .fin (yld_call rfl cal_word_Mul rfl (cWMul (x := q) (y := v0) (by first | omega | exact wd_lt _ _ | exact Nat.mod_lt _ (by omega)) (by first | omega | exact wd_lt _ _ | exact Nat.mod_lt _ (by omega))))) ?_
        refine so [2] (fun w10 hw10 => by rintro _ ⟨x40_0, x40_1, rfl, hx40_0, hx40_1⟩; exact .fin (yld_move rfl ⟨Grow.refl _, ⟨x40_0, x40_1, rfl, hx40_0, hx40_1⟩⟩)) ?_
        refine so [3] (fun w10 hw10 => by rintro _ ⟨x37_0, x37_1, rfl, hx37_0, hx37_1⟩; exact .fin (yld_extract rfl rfl rfl ⟨Grow.refl _, hx37_0⟩)) ?_
        refine so [3] (fun w10 hw10 => by rintro _ ⟨x37_0, x37_1, rfl, hx37_0, hx37_1⟩; exact .fin (yld_extract rfl rfl rfl ⟨Grow.refl _, hx37_1⟩)) ?_
        refine so [4] (fun w10 hw10 => by rintro _ rfl; exact .fin (yld_assign rfl ⟨Grow.refl _, rfl⟩)) ?_
        exact so [5] (fun w10 hw10 => by rintro _ rfl; exact .fin (yld_assign rfl ⟨Grow.refl _, rfl⟩)) (.nil _ _)
      rintro w10 hw10 v38 - v39 - v40 - v37 - v41 - v42 - _ rfl _ rfl -
      have W10 : Grow w w10 := W9.trans hw10
      refine fr (Ut u2 :: Ut u1 :: Ut u0 :: Ut v1 :: Ut v0 :: u :: u :: u :: u :: u :: (tt9 10) :: Ut q :: Ut r :: .bool (decide (u2 < v1)) :: Ut ((u1 + v1 + 0) / 18446744073709551616) :: Ut ((q * v0) / 18446744073709551616) :: Ut ((q * v0) % 18446744073709551616) :: (tt9 17) :: v18 :: v19 :: v20 :: v21 :: v22 :: v23 :: v24 :: v25 :: v26 :: .bool (!(decide (u2 < v1))) :: v28 :: v29 :: v30 :: v31 :: v32 :: v33 :: v34 :: .bool (((((u1 + v1 + 0) / 18446744073709551616 : Nat) : Int) : Int) == (1 : Int)) :: u :: v37 :: v38 :: v39 :: v40 :: v41 :: v42 :: (tt9 43) :: (tt9 44) :: (tt9 45) :: (tt9 46) :: (tt9 47) :: (tt9 48) :: (tt9 49) :: (tt9 50) :: (tt9 51) :: (tt9 52) :: (tt9 53) :: (tt9 54) :: (tt9 55) :: (tt9 56) :: (tt9 57) :: (tt9 58) :: (tt9 59) :: (tt9 60) :: (tt9 61) :: (tt9 62) :: (tt9 63) :: (tt9 64) :: (tt9 65) :: (tt9 66) :: (tt9 67) :: []) ?_
      refine nx ?_
      refine wp_seq ?_
      refine wp_seq ?_
      obtain ⟨x12, ex12⟩ : ∃ c : Bool, c = (decide (((((q * v0) / 18446744073709551616 : Nat) : Int) : Int) < (((r : Nat) : Int) : Int))) := ⟨_, rfl⟩
      obtain ⟨x13, ex13⟩ : ∃ c : Bool, c = (((((q * v0) / 18446744073709551616 : Nat) : Int) : Int) == (((r : Nat) : Int) : Int)) := ⟨_, rfl⟩
      obtain ⟨x14, ex14⟩ : ∃ c : Bool, c = (decide (((((q * v0) % 18446744073709551616 : Nat) : Int) : Int) ≤ (((u0 : Nat) : Int) : Int))) := ⟨_, rfl⟩
      obtain ⟨x15, ex15⟩ : ∃ c : Bool, c = ((x13 && x14)) := ⟨_, rfl⟩
      obtain ⟨x16, ex16⟩ : ∃ c : Bool, c = ((x12 || x15)) := ⟨_, rfl⟩
      refine rg (fun c d v a w h => NL c d v a w h) [(43, .eq (.int .u64 ((((q * v0) / 18446744073709551616 : Nat) : Int)))), (44, .eq (.int .u64 (((r : Nat) : Int)))), (45, .eq (.bool (x12))), (46, .eq (.bool (x12))), (47, .opt ((x12 == false)) (.eq (.int .u64 ((((q * v0) / 18446744073709551616 : Nat) : Int))))), (48, .opt ((x12 == false)) (.eq (.int .u64 (((r : Nat) : Int))))), (49, .opt ((x12 == false)) (.eq (.bool (x13)))), (50, .opt ((x12 == false)) (.eq (.bool (x13)))), (51, .opt (((x12 == false) && (x13 == true))) (.eq (.int .u64 ((((q * v0) % 18446744073709551616 : Nat) : Int))))), (52, .opt (((x12 == false) && (x13 == true))) (.eq (.int .u64 (((u0 : Nat) : Int))))), (53, .opt (((x12 == false) && (x13 == true))) (.eq (.bool (x14)))), (54, .opt ((x12 == false)) (.eq (.bool (x15)))), (55, .eq (.bool (x16)))] [] [] [] 68 13 ?_ ?_
      · refine so [] (fun w11 hw11 => .fin (yld_move rfl ⟨Grow.refl _, rfl⟩)) ?_
        refine so [] (fun w11 hw11 => .fin (yld_move rfl ⟨Grow.refl _, rfl⟩)) ?_
        refine so [0, 1] (fun w11 hw11 => by rintro _ rfl _ rfl; exact .fin (yld_eqTo (c := .bool (decide (((((q * v0) / 18446744073709551616 : Nat) : Int) : Int) < (((r : Nat) : Int) : Int)))) (yld_lss rfl rfl rfl ⟨Grow.refl _, rfl⟩) (congrArg Value.bool ex12.symm))) ?_
        refine so [2] (fun w11 hw11 => by rintro _ rfl; exact .fin (yld_move rfl ⟨Grow.refl _, rfl⟩)) ?_
        refine sg (c := (x12 == false)) 46 [3] (fun w11 hw11 => by rintro _ rfl; exact .fin (⟨guard_eq, fun hc => yld_move rfl ⟨Grow.refl _, rfl⟩⟩)) ?_
        refine sg (c := (x12 == false)) 46 [3] (fun w11 hw11 => by rintro _ rfl; exact .fin (⟨guard_eq, fun hc => yld_move rfl ⟨Grow.refl _, rfl⟩⟩)) ?_
        refine sg (c := (x12 == false)) 46 [3, 4, 5] (fun w11 hw11 => by rintro _ rfl v47 h47 v48 h48; exact .fin (⟨guard_eq, fun hc => yld_eqTo (c := .bool (((((q * v0) / 18446744073709551616 : Nat) : Int) : Int) == (((r : Nat) : Int) : Int))) (yld_eql rfl (show v47 = .int .u64 ((((q * v0) / 18446744073709551616 : Nat) : Int)) from (h47.1 (by revert hc; exact fun h => h))) (show v48 = .int .u64 (((r : Nat) : Int)) from (h48.1 (by revert hc; exact fun h => h))) ⟨Grow.refl _, rfl⟩) (congrArg Value.bool ex13.symm)⟩)) ?_
        refine sg (c := (x12 == false)) 46 [3, 6] (fun w11 hw11 => by rintro _ rfl v49 h49; exact .fin (⟨guard_eq, fun hc => yld_move rfl ⟨Grow.refl _, (show v49 = .bool (x13) from (h49.1 (by revert hc; exact fun h => h)))⟩⟩)) ?_
        refine sg (c := ((x12 == false) && (x13 == true))) 50 [7] (fun w11 hw11 => by rintro v50 h50; exact .fin (⟨guard_opt h50, fun hc => yld_move rfl ⟨Grow.refl _, rfl⟩⟩)) ?_
        refine sg (c := ((x12 == false) && (x13 == true))) 50 [7] (fun w11 hw11 => by rintro v50 h50; exact .fin (⟨guard_opt h50, fun hc => yld_move rfl ⟨Grow.refl _, rfl⟩⟩)) ?_
        refine sg (c := ((x12 == false) && (x13 == true))) 50 [7, 8, 9] (fun w11 hw11 => by rintro v50 h50 v51 h51 v52 h52; exact .fin (⟨guard_opt h50, fun hc => yld_eqTo (c := .bool (decide (((((q * v0) % 18446744073709551616 : Nat) : Int) : Int) ≤ (((u0 : Nat) : Int) : Int)))) (yld_leq rfl (show v51 = .int .u64 ((((q * v0) % 18446744073709551616 : Nat) : Int)) from (h51.1 (by revert hc; exact fun h => h))) (show v52 = .int .u64 (((u0 : Nat) : Int)) from (h52.1 (by revert hc; exact fun h => h))) ⟨Grow.refl _, rfl⟩) (congrArg Value.bool ex14.symm)⟩)) ?_
        refine sg (c := (x12 == false)) 46 [3, 7, 10] (fun w11 hw11 => by rintro _ rfl v50 h50 v53 h53; exact .fin (⟨guard_eq, fun hc => yld_eqTo (c := .bool ((x13 && x14))) (yld_pick_and rfl (show v50 = .bool (x13) from (h50.1 (by revert hc; exact fun h => h))) (fun ht => h53.1 (by revert ht; revert hc; cases x12 <;> cases x13 <;> decide)) rfl ⟨Grow.refl _, rfl⟩) (congrArg Value.bool ex15.symm)⟩)) ?_
        exact so [3, 11] (fun w11 hw11 => by rintro _ rfl v54 h54; exact .fin (yld_eqTo (c := .bool ((x12 || x15))) (yld_pick_or rfl rfl rfl (fun ht => h54.1 (by revert ht; cases x12 <;> decide)) ⟨Grow.refl _, rfl⟩) (congrArg Value.bool ex16.symm))) (.nil _ _)
      rintro w11 hw11 v43 - v44 - _ rfl _ rfl v47 - v48 - v49 - v50 - v51 - v52 - v53 - v54 - _ rfl -
      have W11 : Grow w w11 := W10.trans hw11
      subst ex12
      subst ex13
      subst ex14
      subst ex15
      subst ex16
      refine fr (Ut u2 :: Ut u1 :: Ut u0 :: Ut v1 :: Ut v0 :: u :: u :: u :: u :: u :: (tt9 10) :: Ut q :: Ut r :: .bool (decide (u2 < v1)) :: Ut ((u1 + v1 + 0) / 18446744073709551616) :: Ut ((q * v0) / 18446744073709551616) :: Ut ((q * v0) % 18446744073709551616) :: (tt9 17) :: v18 :: v19 :: v20 :: v21 :: v22 :: v23 :: v24 :: v25 :: v26 :: .bool (!(decide (u2 < v1))) :: v28 :: v29 :: v30 :: v31 :: v32 :: v33 :: v34 :: .bool (((((u1 + v1 + 0) / 18446744073709551616 : Nat) : Int) : Int) == (1 : Int)) :: u :: v37 :: v38 :: v39 :: v40 :: v41 :: v42 :: v43 :: v44 :: .bool ((decide (((((q * v0) / 18446744073709551616 : Nat) : Int) : Int) < (((r : Nat) : Int) : Int)))) :: .bool ((decide (((((q * v0) / 18446744073709551616 : Nat) : Int) : Int) < (((r : Nat) : Int) : Int)))) :: v47 :: v48 :: v49 :: v50 :: v51 :: v52 :: v53 :: v54 :: .bool ((((decide (((((q * v0) / 18446744073709551616 : Nat) : Int) : Int) < (((r : Nat) : Int) : Int))) || (((((((q * v0) / 18446744073709551616 : Nat) : Int) : Int) == (((r : Nat) : Int) : Int)) && (decide (((((q * v0) % 18446744073709551616 : Nat) : Int) : Int) ≤ (((u0 : Nat) : Int) : Int)))))))) :: (tt9 56) :: (tt9 57) :: (tt9 58) :: (tt9 59) :: (tt9 60) :: (tt9 61) :: (tt9 62) :: (tt9 63) :: (tt9 64) :: (tt9 65) :: (tt9 66) :: (tt9 67) :: []) ?_
      refine nx ?_
      refine wp_cond_split (t := (((decide (((((q * v0) / 18446744073709551616 : Nat) : Int) : Int) < (((r : Nat) : Int) : Int))) || (((((((q * v0) / 18446744073709551616 : Nat) : Int) : Int) == (((r : Nat) : Int) : Int)) && (decide (((((q * v0) % 18446744073709551616 : Nat) : Int) : Int) ≤ (((u0 : Nat) : Int) : Int)))))))) rfl (fun hdone => ?_) (fun hdone => ?_)
      · have hd := g_test1 hdone
        refine wp_seq ?_
        refine rg (fun c d v a w h => NL c d v a w h) [(56, .eq (.int .u64 (((q : Nat) : Int)))), (10, .eq (.int .u64 (((q : Nat) : Int))))] [] [] [] 68 2 ?_ ?_
        · refine so [] (fun w17 hw17 => .fin (yld_move rfl ⟨Grow.refl _, rfl⟩)) ?_
          exact so [0] (fun w17 hw17 => by rintro _ rfl; exact .fin (yld_assign rfl ⟨Grow.refl _, rfl⟩)) (.nil _ _)
        rintro w17 hw17 v56 - _ rfl -
        have W17 : Grow w w17 := W11.trans hw17
        refine fr (Ut u2 :: Ut u1 :: Ut u0 :: Ut v1 :: Ut v0 :: u :: u :: u :: u :: u :: Ut q :: Ut q :: Ut r :: .bool (decide (u2 < v1)) :: Ut ((u1 + v1 + 0) / 18446744073709551616) :: Ut ((q * v0) / 18446744073709551616) :: Ut ((q * v0) % 18446744073709551616) :: (tt9 17) :: v18 :: v19 :: v20 :: v21 :: v22 :: v23 :: v24 :: v25 :: v26 :: .bool (!(decide (u2 < v1))) :: v28 :: v29 :: v30 :: v31 :: v32 :: v33 :: v34 :: .bool (((((u1 + v1 + 0) / 18446744073709551616 : Nat) : Int) : Int) == (1 : Int)) :: u :: v37 :: v38 :: v39 :: v40 :: v41 :: v42 :: v43 :: v44 :: .bool ((decide (((((q * v0) / 18446744073709551616 : Nat) : Int) : Int) < (((r : Nat) : Int) : Int)))) :: .bool ((decide (((((q * v0) / 18446744073709551616 : Nat) : Int) : Int) < (((r : Nat) : Int) : Int)))) :: v47 :: v48 :: v49 :: v50 :: v51 :: v52 :: v53 :: v54 :: .bool ((((decide (((((q * v0) / 18446744073709551616 : Nat) : Int) : Int) < (((r : Nat) : Int) : Int))) || (((((((q * v0) / 18446744073709551616 : Nat) : Int) : Int) == (((r : Nat) : Int) : Int)) && (decide (((((q * v0) % 18446744073709551616 : Nat) : Int) : Int) ≤ (((u0 : Nat) : Int) : Int)))))))) :: v56 :: (tt9 57) :: (tt9 58) :: (tt9 59) :: (tt9 60) :: (tt9 61) :: (tt9 62) :: (tt9 63) :: (tt9 64) :: (tt9 65) :: (tt9 66) :: (tt9 67) :: []) ?_
        refine nx ?_
        refine wp_ret ?_
        change bodyPost Try.prog Try.f110 (Ret (.eq (.int .u64 (((gq u2 u1 u0 v1 v0 : Nat) : Int)))) w) .ret _ _
        exact body_slot rfl (by show Value.int _ _ = Value.int _ _; rw [show ((((q : Nat) : Int) : Int)) = (((gq u2 u1 u0 v1 v0 : Nat) : Int)) from (by first | exact congrArg Nat.cast (g_done hv hinv hd) | exact congrArg Nat.cast (g_down_over hv c0 hinv hd2 hov) | exact congrArg Nat.cast (g_over he c0 hov0 hv))]) rfl W17
      · have hd2 := g_test2 b0 hdone
        refine wp_skip ?_
        change Code.wp _ _ _ ⟨_, []⟩ _
        refine wp_seq ?_
        refine rg (fun c d v a w h => NL c d v a w h) [(57, .eq (.int .u64 (((q : Nat) : Int)))), (58, .eq (.int .u64 (((q - 1 : Nat) : Int))))] [] [] [] 68 2 ?_ ?_
        · refine so [] (fun w18 hw18 => .fin (yld_move rfl ⟨Grow.refl _, rfl⟩)) ?_
          exact so [0] (fun w18 hw18 => by rintro _ rfl; exact .fin (yld_sub rfl rfl rfl (r := ((q - 1 : Nat) : Int)) (by have := (g_less hv hinv hd2).1; rw [IntKind.wrap_u64]; omega) ⟨Grow.refl _, rfl⟩)) (.nil _ _)
        rintro w18 hw18 v57 - _ rfl -
        have W18 : Grow w w18 := W11.trans hw18
        have KK : Kept [] w18 w18 := fun _ _ => rfl
        refine fr (Ut u2 :: Ut u1 :: Ut u0 :: Ut v1 :: Ut v0 :: u :: u :: u :: u :: u :: (tt9 10) :: Ut q :: Ut r :: .bool (decide (u2 < v1)) :: Ut ((u1 + v1 + 0) / 18446744073709551616) :: Ut ((q * v0) / 18446744073709551616) :: Ut ((q * v0) % 18446744073709551616) :: (tt9 17) :: v18 :: v19 :: v20 :: v21 :: v22 :: v23 :: v24 :: v25 :: v26 :: .bool (!(decide (u2 < v1))) :: v28 :: v29 :: v30 :: v31 :: v32 :: v33 :: v34 :: .bool (((((u1 + v1 + 0) / 18446744073709551616 : Nat) : Int) : Int) == (1 : Int)) :: u :: v37 :: v38 :: v39 :: v40 :: v41 :: v42 :: v43 :: v44 :: .bool ((decide (((((q * v0) / 18446744073709551616 : Nat) : Int) : Int) < (((r : Nat) : Int) : Int)))) :: .bool ((decide (((((q * v0) / 18446744073709551616 : Nat) : Int) : Int) < (((r : Nat) : Int) : Int)))) :: v47 :: v48 :: v49 :: v50 :: v51 :: v52 :: v53 :: v54 :: .bool ((((decide (((((q * v0) / 18446744073709551616 : Nat) : Int) : Int) < (((r : Nat) : Int) : Int))) || (((((((q * v0) / 18446744073709551616 : Nat) : Int) : Int) == (((r : Nat) : Int) : Int)) && (decide (((((q * v0) % 18446744073709551616 : Nat) : Int) : Int) ≤ (((u0 : Nat) : Int) : Int)))))))) :: (tt9 56) :: v57 :: Ut (q - 1) :: (tt9 59) :: (tt9 60) :: (tt9 61) :: (tt9 62) :: (tt9 63) :: (tt9 64) :: (tt9 65) :: (tt9 66) :: (tt9 67) :: []) ?_
        change wpListS _ _ _ _ [_] ⟨_, []⟩ _
        refine wpListS_yld rfl ?_
        refine yld_assign rfl ⟨fun _ => KK, ?_⟩
        refine wpListS_nil ?_
        change Code.wp _ _ _ ⟨List.toArray (List.set _ 11 _), []⟩ _
        refine wp_seq ?_
        refine rg (fun c d v a w h => NL c d v a w h) [(17, .eq (.int .u64 (0)))] [] [] [] 68 1 ?_ ?_
        · exact so [] (fun w19 hw19 => .fin (yld_assign rfl ⟨Grow.refl _, rfl⟩)) (.nil _ _)
        rintro w19 hw19 _ rfl -
        have W19 : Grow w w19 := W18.trans hw19
        refine fr (Ut u2 :: Ut u1 :: Ut u0 :: Ut v1 :: Ut v0 :: u :: u :: u :: u :: u :: (tt9 10) :: Ut (q - 1) :: Ut r :: .bool (decide (u2 < v1)) :: Ut ((u1 + v1 + 0) / 18446744073709551616) :: Ut ((q * v0) / 18446744073709551616) :: Ut ((q * v0) % 18446744073709551616) :: .int .u64 (0) :: v18 :: v19 :: v20 :: v21 :: v22 :: v23 :: v24 :: v25 :: v26 :: .bool (!(decide (u2 < v1))) :: v28 :: v29 :: v30 :: v31 :: v32 :: v33 :: v34 :: .bool (((((u1 + v1 + 0) / 18446744073709551616 : Nat) : Int) : Int) == (1 : Int)) :: u :: v37 :: v38 :: v39 :: v40 :: v41 :: v42 :: v43 :: v44 :: .bool ((decide (((((q * v0) / 18446744073709551616 : Nat) : Int) : Int) < (((r : Nat) : Int) : Int)))) :: .bool ((decide (((((q * v0) / 18446744073709551616 : Nat) : Int) : Int) < (((r : Nat) : Int) : Int)))) :: v47 :: v48 :: v49 :: v50 :: v51 :: v52 :: v53 :: v54 :: .bool ((((decide (((((q * v0) / 18446744073709551616 : Nat) : Int) : Int) < (((r : Nat) : Int) : Int))) || (((((((q * v0) / 18446744073709551616 : Nat) : Int) : Int) == (((r : Nat) : Int) : Int)) && (decide (((((q * v0) % 18446744073709551616 : Nat) : Int) : Int) ≤ (((u0 : Nat) : Int) : Int)))))))) :: (tt9 56) :: v57 :: Ut (q - 1) :: (tt9 59) :: (tt9 60) :: (tt9 61) :: (tt9 62) :: (tt9 63) :: (tt9 64) :: (tt9 65) :: (tt9 66) :: (tt9 67) :: []) ?_
        refine nx ?_
        refine wp_seq ?_
        refine rg (fun c d v a w h => NL c d v a w h) [(60, .eq (.int .u64 (((r : Nat) : Int)))), (61, .eq (.int .u64 (((v1 : Nat) : Int)))), (62, .tup2 (.eq (.int .u64 ((((r + v1 + 0) % 18446744073709551616 : Nat) : Int)))) (.eq (.int .u64 ((((r + v1 + 0) / 18446744073709551616 : Nat) : Int))))), (59, .tup2 (.eq (.int .u64 ((((r + v1 + 0) % 18446744073709551616 : Nat) : Int)))) (.eq (.int .u64 ((((r + v1 + 0) / 18446744073709551616 : Nat) : Int))))), (63, .eq (.int .u64 ((((r + v1 + 0) % 18446744073709551616 : Nat) : Int)))), (64, .eq (.int .u64 ((((r + v1 + 0) / 18446744073709551616 : Nat) : Int))))] [] [5] [] 68 6 ?_ ?_
        · refine so [] (fun w20 hw20 => .fin (yld_move rfl ⟨Grow.refl _, rfl⟩)) ?_
          refine so [] (fun w20 hw20 => .fin (yld_move rfl ⟨Grow.refl _, rfl⟩)) ?_
          refine so [0, 1] (fun w20 hw20 => by rintro _ rfl _ rfl; exact .fin (yld_call rfl cal_word_Add rfl (cWAdd (x := r) (y := v1) (z := 0) (by first | omega | exact wd_lt _ _ | exact Nat.mod_lt _ (by omega)) (by first | omega | exact wd_lt _ _ | exact Nat.mod_lt _ (by omega)) (by omega)))) ?_
          refine so [2] (fun w20 hw20 => by rintro _ ⟨x62_0, x62_1, rfl, hx62_0, hx62_1⟩; exact .fin (yld_move rfl ⟨Grow.refl _, ⟨x62_0, x62_1, rfl, hx62_0, hx62_1⟩⟩)) ?_
          refine so [3] (fun w20 hw20 => by rintro _ ⟨x59_0, x59_1, rfl, hx59_0, hx59_1⟩; exact .fin (yld_extract rfl rfl rfl ⟨Grow.refl _, hx59_0⟩)) ?_
          exact sl [3] (fun w20 hw20 => by rintro _ ⟨x59_0, x59_1, rfl, hx59_0, hx59_1⟩; exact .fin (⟨_, fun w2 _ => pure_extract rfl rfl rfl w2, hx59_1⟩)) (.nil _ _)
        rintro w20 hw20 v60 - v61 - v62 - v59 - _ rfl _ rfl -
        have W20 : Grow w w20 := W19.trans hw20
        have KK : Kept [] w20 w20 := fun _ _ => rfl
        refine fr (Ut u2 :: Ut u1 :: Ut u0 :: Ut v1 :: Ut v0 :: u :: u :: u :: u :: u :: (tt9 10) :: Ut (q - 1) :: Ut r :: .bool (decide (u2 < v1)) :: Ut ((u1 + v1 + 0) / 18446744073709551616) :: Ut ((q * v0) / 18446744073709551616) :: Ut ((q * v0) % 18446744073709551616) :: .int .u64 (0) :: v18 :: v19 :: v20 :: v21 :: v22 :: v23 :: v24 :: v25 :: v26 :: .bool (!(decide (u2 < v1))) :: v28 :: v29 :: v30 :: v31 :: v32 :: v33 :: v34 :: .bool (((((u1 + v1 + 0) / 18446744073709551616 : Nat) : Int) : Int) == (1 : Int)) :: u :: v37 :: v38 :: v39 :: v40 :: v41 :: v42 :: v43 :: v44 :: .bool ((decide (((((q * v0) / 18446744073709551616 : Nat) : Int) : Int) < (((r : Nat) : Int) : Int)))) :: .bool ((decide (((((q * v0) / 18446744073709551616 : Nat) : Int) : Int) < (((r : Nat) : Int) : Int)))) :: v47 :: v48 :: v49 :: v50 :: v51 :: v52 :: v53 :: v54 :: .bool ((((decide (((((q * v0) / 18446744073709551616 : Nat) : Int) : Int) < (((r : Nat) : Int) : Int))) || (((((((q * v0) / 18446744073709551616 : Nat) : Int) : Int) == (((r : Nat) : Int) : Int)) && (decide (((((q * v0) % 18446744073709551616 : Nat) : Int) : Int) ≤ (((u0 : Nat) : Int) : Int)))))))) :: (tt9 56) :: v57 :: Ut (q - 1) :: v59 :: v60 :: v61 :: v62 :: Ut ((r + v1 + 0) % 18446744073709551616) :: Ut ((r + v1 + 0) / 18446744073709551616) :: (tt9 65) :: (tt9 66) :: (tt9 67) :: []) ?_
        change wpListS _ _ _ _ [_, _] ⟨_, []⟩ _
        refine wpListS_yld rfl ?_
        refine yld_assign rfl ⟨fun _ => KK, ?_⟩
        change wpListS _ _ _ _ [_] ⟨List.toArray (List.set _ 12 _), []⟩ _
        refine wpListS_yld rfl ?_
        refine yld_assign rfl ⟨fun _ => KK, ?_⟩
        refine wpListS_nil ?_
        change Code.wp _ _ _ ⟨List.toArray (List.set _ 17 _), []⟩ _
        refine wp_seq ?_
        refine rg (fun c d v a w h => NL c d v a w h) [(65, .eq (.int .u64 ((((r + v1 + 0) / 18446744073709551616 : Nat) : Int)))), (66, .eq (.bool (((((r + v1 + 0) / 18446744073709551616 : Nat) : Int) : Int) == (1 : Int))))] [] [] [] 68 2 ?_ ?_
        · refine so [] (fun w21 hw21 => .fin (yld_move rfl ⟨Grow.refl _, rfl⟩)) ?_
          exact so [0] (fun w21 hw21 => by rintro _ rfl; exact .fin (yld_eql rfl rfl rfl ⟨Grow.refl _, rfl⟩)) (.nil _ _)
        rintro w21 hw21 v65 - _ rfl -
        have W21 : Grow w w21 := W20.trans hw21
        refine fr (Ut u2 :: Ut u1 :: Ut u0 :: Ut v1 :: Ut v0 :: u :: u :: u :: u :: u :: (tt9 10) :: Ut (q - 1) :: Ut ((r + v1 + 0) % 18446744073709551616) :: .bool (decide (u2 < v1)) :: Ut ((u1 + v1 + 0) / 18446744073709551616) :: Ut ((q * v0) / 18446744073709551616) :: Ut ((q * v0) % 18446744073709551616) :: Ut ((r + v1 + 0) / 18446744073709551616) :: v18 :: v19 :: v20 :: v21 :: v22 :: v23 :: v24 :: v25 :: v26 :: .bool (!(decide (u2 < v1))) :: v28 :: v29 :: v30 :: v31 :: v32 :: v33 :: v34 :: .bool (((((u1 + v1 + 0) / 18446744073709551616 : Nat) : Int) : Int) == (1 : Int)) :: u :: v37 :: v38 :: v39 :: v40 :: v41 :: v42 :: v43 :: v44 :: .bool ((decide (((((q * v0) / 18446744073709551616 : Nat) : Int) : Int) < (((r : Nat) : Int) : Int)))) :: .bool ((decide (((((q * v0) / 18446744073709551616 : Nat) : Int) : Int) < (((r : Nat) : Int) : Int)))) :: v47 :: v48 :: v49 :: v50 :: v51 :: v52 :: v53 :: v54 :: .bool ((((decide (((((q * v0) / 18446744073709551616 : Nat) : Int) : Int) < (((r : Nat) : Int) : Int))) || (((((((q * v0) / 18446744073709551616 : Nat) : Int) : Int) == (((r : Nat) : Int) : Int)) && (decide (((((q * v0) % 18446744073709551616 : Nat) : Int) : Int) ≤ (((u0 : Nat) : Int) : Int)))))))) :: (tt9 56) :: v57 :: Ut (q - 1) :: v59 :: v60 :: v61 :: v62 :: Ut ((r + v1 + 0) % 18446744073709551616) :: Ut ((r + v1 + 0) / 18446744073709551616) :: v65 :: .bool (((((r + v1 + 0) / 18446744073709551616 : Nat) : Int) : Int) == (1 : Int)) :: (tt9 67) :: []) ?_
        refine nx ?_
        refine wp_cond_split (t := ((((r + v1 + 0) / 18446744073709551616 : Nat) : Int) : Int) == (1 : Int)) rfl (fun hover => ?_) (fun hover => ?_)
        · have hov : 18446744073709551616 ≤ r + v1 := g_car1 (by omega) (by omega) hover
          refine wp_seq ?_
          refine rg (fun c d v a w h => NL c d v a w h) [(67, .eq (.int .u64 (((q - 1 : Nat) : Int)))), (10, .eq (.int .u64 (((q - 1 : Nat) : Int))))] [] [] [] 68 2 ?_ ?_
          · refine so [] (fun w22 hw22 => .fin (yld_move rfl ⟨Grow.refl _, rfl⟩)) ?_
            exact so [0] (fun w22 hw22 => by rintro _ rfl; exact .fin (yld_assign rfl ⟨Grow.refl _, rfl⟩)) (.nil _ _)
          rintro w22 hw22 v67 - _ rfl -
          have W22 : Grow w w22 := W21.trans hw22
          refine fr (Ut u2 :: Ut u1 :: Ut u0 :: Ut v1 :: Ut v0 :: u :: u :: u :: u :: u :: Ut (q - 1) :: Ut (q - 1) :: Ut ((r + v1 + 0) % 18446744073709551616) :: .bool (decide (u2 < v1)) :: Ut ((u1 + v1 + 0) / 18446744073709551616) :: Ut ((q * v0) / 18446744073709551616) :: Ut ((q * v0) % 18446744073709551616) :: Ut ((r + v1 + 0) / 18446744073709551616) :: v18 :: v19 :: v20 :: v21 :: v22 :: v23 :: v24 :: v25 :: v26 :: .bool (!(decide (u2 < v1))) :: v28 :: v29 :: v30 :: v31 :: v32 :: v33 :: v34 :: .bool (((((u1 + v1 + 0) / 18446744073709551616 : Nat) : Int) : Int) == (1 : Int)) :: u :: v37 :: v38 :: v39 :: v40 :: v41 :: v42 :: v43 :: v44 :: .bool ((decide (((((q * v0) / 18446744073709551616 : Nat) : Int) : Int) < (((r : Nat) : Int) : Int)))) :: .bool ((decide (((((q * v0) / 18446744073709551616 : Nat) : Int) : Int) < (((r : Nat) : Int) : Int)))) :: v47 :: v48 :: v49 :: v50 :: v51 :: v52 :: v53 :: v54 :: .bool ((((decide (((((q * v0) / 18446744073709551616 : Nat) : Int) : Int) < (((r : Nat) : Int) : Int))) || (((((((q * v0) / 18446744073709551616 : Nat) : Int) : Int) == (((r : Nat) : Int) : Int)) && (decide (((((q * v0) % 18446744073709551616 : Nat) : Int) : Int) ≤ (((u0 : Nat) : Int) : Int)))))))) :: (tt9 56) :: v57 :: Ut (q - 1) :: v59 :: v60 :: v61 :: v62 :: Ut ((r + v1 + 0) % 18446744073709551616) :: Ut ((r + v1 + 0) / 18446744073709551616) :: v65 :: .bool (((((r + v1 + 0) / 18446744073709551616 : Nat) : Int) : Int) == (1 : Int)) :: v67 :: []) ?_
          refine nx ?_
          refine wp_ret ?_
          change bodyPost Try.prog Try.f110 (Ret (.eq (.int .u64 (((gq u2 u1 u0 v1 v0 : Nat) : Int)))) w) .ret _ _
          exact body_slot rfl (by show Value.int _ _ = Value.int _ _; rw [show ((((q - 1 : Nat) : Int) : Int)) = (((gq u2 u1 u0 v1 v0 : Nat) : Int)) from (by first | exact congrArg Nat.cast (g_done hv hinv hd) | exact congrArg Nat.cast (g_down_over hv c0 hinv hd2 hov) | exact congrArg Nat.cast (g_over he c0 hov0 hv))]) rfl W22
        · have hov1 : r + v1 + 0 < 18446744073709551616 := g_car2 hover
          refine wp_skip ?_
          refine ⟨_, ?_, q - 1, (r + v1 + 0) % 18446744073709551616, rfl, by rw [Nat.mod_eq_of_lt hov1]; exact g_down hv hinv hd2 hov1, fun d => ([(tt9 10), Ut (q - 1), Ut ((r + v1 + 0) % 18446744073709551616), .bool (decide (u2 < v1)), Ut ((u1 + v1 + 0) / 18446744073709551616), Ut ((q * v0) / 18446744073709551616), Ut ((q * v0) % 18446744073709551616), Ut ((r + v1 + 0) / 18446744073709551616), v18, v19, v20, v21, v22, v23, v24, v25, v26, .bool (!(decide (u2 < v1))), v28, v29, v30, v31, v32, v33, v34, .bool (((((u1 + v1 + 0) / 18446744073709551616 : Nat) : Int) : Int) == (1 : Int)), u, v37, v38, v39, v40, v41, v42, v43, v44, .bool ((decide (((((q * v0) / 18446744073709551616 : Nat) : Int) : Int) < (((r : Nat) : Int) : Int)))), .bool ((decide (((((q * v0) / 18446744073709551616 : Nat) : Int) : Int) < (((r : Nat) : Int) : Int)))), v47, v48, v49, v50, v51, v52, v53, v54, .bool ((((decide (((((q * v0) / 18446744073709551616 : Nat) : Int) : Int) < (((r : Nat) : Int) : Int))) || (((((((q * v0) / 18446744073709551616 : Nat) : Int) : Int) == (((r : Nat) : Int) : Int)) && (decide (((((q * v0) % 18446744073709551616 : Nat) : Int) : Int) ≤ (((u0 : Nat) : Int) : Int)))))))), (tt9 56), v57, Ut (q - 1), v59, v60, v61, v62, Ut ((r + v1 + 0) % 18446744073709551616), Ut ((r + v1 + 0) / 18446744073709551616), v65, .bool (((((r + v1 + 0) / 18446744073709551616 : Nat) : Int) : Int) == (1 : Int)), (tt9 67)] : List Value).getD (d - 10) undef, by kernel_rfl, W21⟩
          rw [hnn9]; exact Nat.sub_lt (g_less hv hinv hd2).1 (by omega)
  · have hlt : u2 < v1 := by simpa using hok
    refine wp_skip ?_
    change Code.wp _ _ _ ⟨_, []⟩ _
    refine wp_block ?_
    refine wp_loop_ghost (fun nn ac23 w23 => ∃ (q : Nat) (r : Nat), nn = q ∧ (GInv u2 u1 u0 v1 v0 q r) ∧ ∃ tt23 : Nat → Value, ac23 = ⟨List.toArray (Ut u2 :: Ut u1 :: Ut u0 :: Ut v1 :: Ut v0 :: u :: u :: u :: u :: u :: (tt23 10) :: Ut q :: Ut r :: .bool (decide (u2 < v1)) :: u :: (tt23 15) :: (tt23 16) :: (tt23 17) :: v18 :: v19 :: v20 :: v21 :: v22 :: v23 :: v24 :: v25 :: v26 :: .bool (!(decide (u2 < v1))) :: u :: u :: u :: u :: u :: u :: u :: u :: u :: (tt23 37) :: (tt23 38) :: (tt23 39) :: (tt23 40) :: (tt23 41) :: (tt23 42) :: (tt23 43) :: (tt23 44) :: (tt23 45) :: (tt23 46) :: (tt23 47) :: (tt23 48) :: (tt23 49) :: (tt23 50) :: (tt23 51) :: (tt23 52) :: (tt23 53) :: (tt23 54) :: (tt23 55) :: (tt23 56) :: (tt23 57) :: (tt23 58) :: (tt23 59) :: (tt23 60) :: (tt23 61) :: (tt23 62) :: (tt23 63) :: (tt23 64) :: (tt23 65) :: (tt23 66) :: (tt23 67) :: []), []⟩ ∧ Grow w w23) (if u2 < v1 then divQ u2 u1 v1 else 0) ⟨if u2 < v1 then divQ u2 u1 v1 else 0, if u2 < v1 then divR u2 u1 v1 else 0, rfl, by rw [if_pos hlt, if_pos hlt]; exact g_start_yes hlt b1 c1 b0, fun d => ([.int .u64 (0), Ut (if u2 < v1 then divQ u2 u1 v1 else 0), Ut (if u2 < v1 then divR u2 u1 v1 else 0), .bool (decide (u2 < v1)), u, u, u, u, v18, v19, v20, v21, v22, v23, v24, v25, v26, .bool (!(decide (u2 < v1))), u, u, u, u, u, u, u, u, u, u, u, u, u, u, u, u, u, u, u, u, u, u, u, u, u, u, u, u, u, u, u, u, u, u, u, u, u, u, u, u] : List Value).getD (d - 10) undef, by kernel_rfl, W3⟩ ?_
    rintro nn23 _ w23 ⟨q, r, hnn23, hinv, tt23, rfl, W23⟩
    have hq := hinv.1; have hr := hinv.2.1
    refine wp_block ?_
    refine wp_seq ?_
    refine rg (fun c d v a w h => NL c d v a w h) [(38, .eq (.int .u64 (((q : Nat) : Int)))), (39, .eq (.int .u64 (((v0 : Nat) : Int)))), (40, .tup2 (.eq (.int .u64 ((((q * v0) / 18446744073709551616 : Nat) : Int)))) (.eq (.int .u64 ((((q * v0) % 18446744073709551616 : Nat) : Int))))), (37, .tup2 (.eq (.int .u64 ((((q * v0) / 18446744073709551616 : Nat) : Int)))) (.eq (.int .u64 ((((q * v0) % 18446744073709551616 : Nat) : Int))))), (41, .eq (.int .u64 ((((q * v0) / 18446744073709551616 : Nat) : Int)))), (42, .eq (.int .u64 ((((q * v0) % 18446744073709551616 : Nat) : Int)))), (15, .eq (.int .u64 ((((q * v0) / 18446744073709551616 : Nat) : Int)))), (16, .eq (.int .u64 ((((q * v0) % 18446744073709551616 : Nat) : Int))))] [] [] [] 68 8 ?_ ?_
    · refine so [] (fun w24 hw24 => .fin (yld_move rfl ⟨Grow.refl _, rfl⟩)) ?_
      refine so [] (fun w24 hw24 => .fin (yld_move rfl ⟨Grow.refl _, rfl⟩)) ?_
      refine so [0, 1] (fun w24 hw24 => by rintro _ rfl _ rfl; exact .fin (yld_call rfl cal_word_Mul rfl (cWMul (x := q) (y := v0) (by first | omega | exact wd_lt _ _ | exact Nat.mod_lt _ (by omega)) (by first | omega | exact wd_lt _ _ | exact Nat.mod_lt _ (by omega))))) ?_
      refine so [2] (fun w24 hw24 => by rintro _ ⟨x40_0, x40_1, rfl, hx40_0, hx40_1⟩; exact .fin (yld_move rfl ⟨Grow.refl _, ⟨x40_0, x40_1, rfl, hx40_0, hx40_1⟩⟩)) ?_
      refine so [3] (fun w24 hw24 => by rintro _ ⟨x37_0, x37_1, rfl, hx37_0, hx37_1⟩; exact .fin (yld_extract rfl rfl rfl ⟨Grow.refl _, hx37_0⟩)) ?_
      refine so [3] (fun w24 hw24 => by rintro _ ⟨x37_0, x37_1, rfl, hx37_0, hx37_1⟩; exact .fin (yld_extract rfl rfl rfl ⟨Grow.refl _, hx37_1⟩)) ?_
      refine so [4] (fun w24 hw24 => by rintro _ rfl; exact .fin (yld_assign rfl ⟨Grow.refl _, rfl⟩)) ?_
      exact so [5] (fun w24 hw24 => by rintro _ rfl; exact .fin (yld_assign rfl ⟨Grow.refl _, rfl⟩)) (.nil _ _)
    rintro w24 hw24 v38 - v39 - v40 - v37 - v41 - v42 - _ rfl _ rfl -
    have W24 : Grow w w24 := W23.trans hw24
    refine fr (Ut u2 :: Ut u1 :: Ut u0 :: Ut v1 :: Ut v0 :: u :: u :: u :: u :: u :: (tt23 10) :: Ut q :: Ut r :: .bool (decide (u2 < v1)) :: u :: Ut ((q * v0) / 18446744073709551616) :: Ut ((q * v0) % 18446744073709551616) :: (tt23 17) :: v18 :: v19 :: v20 :: v21 :: v22 :: v23 :: v24 :: v25 :: v26 :: .bool (!(decide (u2 < v1))) :: u :: u :: u :: u :: u :: u :: u :: u :: u :: v37 :: v38 :: v39 :: v40 :: v41 :: v42 :: (tt23 43) :: (tt23 44) :: (tt23 45) :: (tt23 46) :: (tt23 47) :: (tt23 48) :: (tt23 49) :: (tt23 50) :: (tt23 51) :: (tt23 52) :: (tt23 53) :: (tt23 54) :: (tt23 55) :: (tt23 56) :: (tt23 57) :: (tt23 58) :: (tt23 59) :: (tt23 60) :: (tt23 61) :: (tt23 62) :: (tt23 63) :: (tt23 64) :: (tt23 65) :: (tt23 66) :: (tt23 67) :: []) ?_
    refine nx ?_
    refine wp_seq ?_
    refine wp_seq ?_
    obtain ⟨x26, ex26⟩ : ∃ c : Bool, c = (decide (((((q * v0) / 18446744073709551616 : Nat) : Int) : Int) < (((r : Nat) : Int) : Int))) := ⟨_, rfl⟩
    obtain ⟨x27, ex27⟩ : ∃ c : Bool, c = (((((q * v0) / 18446744073709551616 : Nat) : Int) : Int) == (((r : Nat) : Int) : Int)) := ⟨_, rfl⟩
    obtain ⟨x28, ex28⟩ : ∃ c : Bool, c = (decide (((((q * v0) % 18446744073709551616 : Nat) : Int) : Int) ≤ (((u0 : Nat) : Int) : Int))) := ⟨_, rfl⟩
    obtain ⟨x29, ex29⟩ : ∃ c : Bool, c = ((x27 && x28)) := ⟨_, rfl⟩
    obtain ⟨x30, ex30⟩ : ∃ c : Bool, c = ((x26 || x29)) := ⟨_, rfl⟩
    refine rg (fun c d v a w h => NL c d v a w h) [(43, .eq (.int .u64 ((((q * v0) / 18446744073709551616 : Nat) : Int)))), (44, .eq (.int .u64 (((r : Nat) : Int)))), (45, .eq (.bool (x26))), (46, .eq (.bool (x26))), (47, .opt ((x26 == false)) (.eq (.int .u64 ((((q * v0) / 18446744073709551616 : Nat) : Int))))), (48, .opt ((x26 == false)) (.eq (.int .u64 (((r : Nat) : Int))))), (49, .opt ((x26 == false)) (.eq (.bool (x27)))), (50, .opt ((x26 == false)) (.eq (.bool (x27)))), (51, .opt (((x26 == false) && (x27 == true))) (.eq (.int .u64 ((((q * v0) % 18446744073709551616 : Nat) : Int))))), (52, .opt (((x26 == false) && (x27 == true))) (.eq (.int .u64 (((u0 : Nat) : Int))))), (53, .opt (((x26 == false) && (x27 == true))) (.eq (.bool (x28)))), (54, .opt ((x26 == false)) (.eq (.bool (x29)))), (55, .eq (.bool (x30)))] [] [] [] 68 13 ?_ ?_
    · refine so [] (fun w25 hw25 => .fin (yld_move rfl ⟨Grow.refl _, rfl⟩)) ?_
      refine so [] (fun w25 hw25 => .fin (yld_move rfl ⟨Grow.refl _, rfl⟩)) ?_
      refine so [0, 1] (fun w25 hw25 => by rintro _ rfl _ rfl; exact .fin (yld_eqTo (c := .bool (decide (((((q * v0) / 18446744073709551616 : Nat) : Int) : Int) < (((r : Nat) : Int) : Int)))) (yld_lss rfl rfl rfl ⟨Grow.refl _, rfl⟩) (congrArg Value.bool ex26.symm))) ?_
      refine so [2] (fun w25 hw25 => by rintro _ rfl; exact .fin (yld_move rfl ⟨Grow.refl _, rfl⟩)) ?_
      refine sg (c := (x26 == false)) 46 [3] (fun w25 hw25 => by rintro _ rfl; exact .fin (⟨guard_eq, fun hc => yld_move rfl ⟨Grow.refl _, rfl⟩⟩)) ?_
      refine sg (c := (x26 == false)) 46 [3] (fun w25 hw25 => by rintro _ rfl; exact .fin (⟨guard_eq, fun hc => yld_move rfl ⟨Grow.refl _, rfl⟩⟩)) ?_
      refine sg (c := (x26 == false)) 46 [3, 4, 5] (fun w25 hw25 => by rintro _ rfl v47 h47 v48 h48; exact .fin (⟨guard_eq, fun hc => yld_eqTo (c := .bool (((((q * v0) / 18446744073709551616 : Nat) : Int) : Int) == (((r : Nat) : Int) : Int))) (yld_eql rfl (show v47 = .int .u64 ((((q * v0) / 18446744073709551616 : Nat) : Int)) from (h47.1 (by revert hc; exact fun h => h))) (show v48 = .int .u64 (((r : Nat) : Int)) from (h48.1 (by revert hc; exact fun h => h))) ⟨Grow.refl _, rfl⟩) (congrArg Value.bool ex27.symm)⟩)) ?_
      refine sg (c := (x26 == false)) 46 [3, 6] (fun w25 hw25 => by rintro _ rfl v49 h49; exact .fin (⟨guard_eq, fun hc => yld_move rfl ⟨Grow.refl _, (show v49 = .bool (x27) from (h49.1 (by revert hc; exact fun h => h)))⟩⟩)) ?_
      refine sg (c := ((x26 == false) && (x27 == true))) 50 [7] (fun w25 hw25 => by rintro v50 h50; exact .fin (⟨guard_opt h50, fun hc => yld_move rfl ⟨Grow.refl _, rfl⟩⟩)) ?_
      refine sg (c := ((x26 == false) && (x27 == true))) 50 [7] (fun w25 hw25 => by rintro v50 h50; exact .fin (⟨guard_opt h50, fun hc => yld_move rfl ⟨Grow.refl _, rfl⟩⟩)) ?_
      refine sg (c := ((x26 == false) && (x27 == true))) 50 [7, 8, 9] (fun w25 hw25 => by rintro v50 h50 v51 h51 v52 h52; exact .fin (⟨guard_opt h50, fun hc => yld_eqTo (c := .bool (decide (((((q * v0) % 18446744073709551616 : Nat) : Int) : Int) ≤ (((u0 : Nat) : Int) : Int)))) (yld_leq rfl (show v51 = .int .u64 ((((q * v0) % 18446744073709551616 : Nat) : Int)) from (h51.1 (by revert hc; exact fun h => h))) (show v52 = .int .u64 (((u0 : Nat) : Int)) from (h52.1 (by revert hc; exact fun h => h))) ⟨Grow.refl _, rfl⟩) (congrArg Value.bool ex28.symm)⟩)) ?_
      refine sg (c := (x26 == false)) 46 [3, 7, 10] (fun w25 hw25 => by rintro _ rfl v50 h50 v53 h53; exact .fin (⟨guard_eq, fun hc => yld_eqTo (c := .bool ((x27 && x28))) (yld_pick_and rfl (show v50 = .bool (x27) from (h50.1 (by revert hc; exact fun h => h))) (fun ht => h53.1 (by revert ht; revert hc; cases x26 <;> cases x27 <;> decide)) rfl ⟨Grow.refl _, rfl⟩) (congrArg Value.bool ex29.symm)⟩)) ?_
      exact so [3, 11] (fun w25 hw25 => by rintro _ rfl v54 h54; exact .fin (yld_eqTo (c := .bool ((x26 || x29))) (yld_pick_or rfl rfl rfl (fun ht => h54.1 (by revert ht; cases x26 <;> decide)) ⟨Grow.refl _, rfl⟩) (congrArg Value.bool ex30.symm))) (.nil _ _)
    rintro w25 hw25 v43 - v44 - _ rfl _ rfl v47 - v48 - v49 - v50 - v51 - v52 - v53 - v54 - _ rfl -
    have W25 : Grow w w25 := W24.trans hw25
    subst ex26
    subst ex27
    subst ex28
    subst ex29
    subst ex30
    refine fr (Ut u2 :: Ut u1 :: Ut u0 :: Ut v1 :: Ut v0 :: u :: u :: u :: u :: u :: (tt23 10) :: Ut q :: Ut r :: .bool (decide (u2 < v1)) :: u :: Ut ((q * v0) / 18446744073709551616) :: Ut ((q * v0) % 18446744073709551616) :: (tt23 17) :: v18 :: v19 :: v20 :: v21 :: v22 :: v23 :: v24 :: v25 :: v26 :: .bool (!(decide (u2 < v1))) :: u :: u :: u :: u :: u :: u :: u :: u :: u :: v37 :: v38 :: v39 :: v40 :: v41 :: v42 :: v43 :: v44 :: .bool ((decide (((((q * v0) / 18446744073709551616 : Nat) : Int) : Int) < (((r : Nat) : Int) : Int)))) :: .bool ((decide (((((q * v0) / 18446744073709551616 : Nat) : Int) : Int) < (((r : Nat) : Int) : Int)))) :: v47 :: v48 :: v49 :: v50 :: v51 :: v52 :: v53 :: v54 :: .bool ((((decide (((((q * v0) / 18446744073709551616 : Nat) : Int) : Int) < (((r : Nat) : Int) : Int))) || (((((((q * v0) / 18446744073709551616 : Nat) : Int) : Int) == (((r : Nat) : Int) : Int)) && (decide (((((q * v0) % 18446744073709551616 : Nat) : Int) : Int) ≤ (((u0 : Nat) : Int) : Int)))))))) :: (tt23 56) :: (tt23 57) :: (tt23 58) :: (tt23 59) :: (tt23 60) :: (tt23 61) :: (tt23 62) :: (tt23 63) :: (tt23 64) :: (tt23 65) :: (tt23 66) :: (tt23 67) :: []) ?_
    refine nx ?_
    refine wp_cond_split (t := (((decide (((((q * v0) / 18446744073709551616 : Nat) : Int) : Int) < (((r : Nat) : Int) : Int))) || (((((((q * v0) / 18446744073709551616 : Nat) : Int) : Int) == (((r : Nat) : Int) : Int)) && (decide (((((q * v0) % 18446744073709551616 : Nat) : Int) : Int) ≤ (((u0 : Nat) : Int) : Int)))))))) rfl (fun hdone => ?_) (fun hdone => ?_)
    · have hd := g_test1 hdone
      refine wp_seq ?_
      refine rg (fun c d v a w h => NL c d v a w h) [(56, .eq (.int .u64 (((q : Nat) : Int)))), (10, .eq (.int .u64 (((q : Nat) : Int))))] [] [] [] 68 2 ?_ ?_
      · refine so [] (fun w31 hw31 => .fin (yld_move rfl ⟨Grow.refl _, rfl⟩)) ?_
        exact so [0] (fun w31 hw31 => by rintro _ rfl; exact .fin (yld_assign rfl ⟨Grow.refl _, rfl⟩)) (.nil _ _)
      rintro w31 hw31 v56 - _ rfl -
      have W31 : Grow w w31 := W25.trans hw31
      refine fr (Ut u2 :: Ut u1 :: Ut u0 :: Ut v1 :: Ut v0 :: u :: u :: u :: u :: u :: Ut q :: Ut q :: Ut r :: .bool (decide (u2 < v1)) :: u :: Ut ((q * v0) / 18446744073709551616) :: Ut ((q * v0) % 18446744073709551616) :: (tt23 17) :: v18 :: v19 :: v20 :: v21 :: v22 :: v23 :: v24 :: v25 :: v26 :: .bool (!(decide (u2 < v1))) :: u :: u :: u :: u :: u :: u :: u :: u :: u :: v37 :: v38 :: v39 :: v40 :: v41 :: v42 :: v43 :: v44 :: .bool ((decide (((((q * v0) / 18446744073709551616 : Nat) : Int) : Int) < (((r : Nat) : Int) : Int)))) :: .bool ((decide (((((q * v0) / 18446744073709551616 : Nat) : Int) : Int) < (((r : Nat) : Int) : Int)))) :: v47 :: v48 :: v49 :: v50 :: v51 :: v52 :: v53 :: v54 :: .bool ((((decide (((((q * v0) / 18446744073709551616 : Nat) : Int) : Int) < (((r : Nat) : Int) : Int))) || (((((((q * v0) / 18446744073709551616 : Nat) : Int) : Int) == (((r : Nat) : Int) : Int)) && (decide (((((q * v0) % 18446744073709551616 : Nat) : Int) : Int) ≤ (((u0 : Nat) : Int) : Int)))))))) :: v56 :: (tt23 57) :: (tt23 58) :: (tt23 59) :: (tt23 60) :: (tt23 61) :: (tt23 62) :: (tt23 63) :: (tt23 64) :: (tt23 65) :: (tt23 66) :: (tt23 67) :: []) ?_
      refine nx ?_
      refine wp_ret ?_
      change bodyPost Try.prog Try.f110 (Ret (.eq (.int .u64 (((gq u2 u1 u0 v1 v0 : Nat) : Int)))) w) .ret _ _
      exact body_slot rfl (by show Value.int _ _ = Value.int _ _; rw [show ((((q : Nat) : Int) : Int)) = (((gq u2 u1 u0 v1 v0 : Nat) : Int)) from (by first | exact congrArg Nat.cast (g_done hv hinv hd) | exact congrArg Nat.cast (g_down_over hv c0 hinv hd2 hov) | exact congrArg Nat.cast (g_over he c0 hov0 hv))]) rfl W31
    · have hd2 := g_test2 b0 hdone
      refine wp_skip ?_
      change Code.wp _ _ _ ⟨_, []⟩ _
      refine wp_seq ?_
      refine rg (fun c d v a w h => NL c d v a w h) [(57, .eq (.int .u64 (((q : Nat) : Int)))), (58, .eq (.int .u64 (((q - 1 : Nat) : Int))))] [] [] [] 68 2 ?_ ?_
      · refine so [] (fun w32 hw32 => .fin (yld_move rfl ⟨Grow.refl _, rfl⟩)) ?_
        exact so [0] (fun w32 hw32 => by rintro _ rfl; exact .fin (yld_sub rfl rfl rfl (r := ((q - 1 : Nat) : Int)) (by have := (g_less hv hinv hd2).1; rw [IntKind.wrap_u64]; omega) ⟨Grow.refl _, rfl⟩)) (.nil _ _)
      rintro w32 hw32 v57 - _ rfl -
      have W32 : Grow w w32 := W25.trans hw32
      have KK : Kept [] w32 w32 := fun _ _ => rfl
      refine fr (Ut u2 :: Ut u1 :: Ut u0 :: Ut v1 :: Ut v0 :: u :: u :: u :: u :: u :: (tt23 10) :: Ut q :: Ut r :: .bool (decide (u2 < v1)) :: u :: Ut ((q * v0) / 18446744073709551616) :: Ut ((q * v0) % 18446744073709551616) :: (tt23 17) :: v18 :: v19 :: v20 :: v21 :: v22 :: v23 :: v24 :: v25 :: v26 :: .bool (!(decide (u2 < v1))) :: u :: u :: u :: u :: u :: u :: u :: u :: u :: v37 :: v38 :: v39 :: v40 :: v41 :: v42 :: v43 :: v44 :: .bool ((decide (((((q * v0) / 18446744073709551616 : Nat) : Int) : Int) < (((r : Nat) : Int) : Int)))) :: .bool ((decide (((((q * v0) / 18446744073709551616 : Nat) : Int) : Int) < (((r : Nat) : Int) : Int)))) :: v47 :: v48 :: v49 :: v50 :: v51 :: v52 :: v53 :: v54 :: .bool ((((decide (((((q * v0) / 18446744073709551616 : Nat) : Int) : Int) < (((r : Nat) : Int) : Int))) || (((((((q * v0) / 18446744073709551616 : Nat) : Int) : Int) == (((r : Nat) : Int) : Int)) && (decide (((((q * v0) % 18446744073709551616 : Nat) : Int) : Int) ≤ (((u0 : Nat) : Int) : Int)))))))) :: (tt23 56) :: v57 :: Ut (q - 1) :: (tt23 59) :: (tt23 60) :: (tt23 61) :: (tt23 62) :: (tt23 63) :: (tt23 64) :: (tt23 65) :: (tt23 66) :: (tt23 67) :: []) ?_
      change wpListS _ _ _ _ [_] ⟨_, []⟩ _
      refine wpListS_yld rfl ?_
      refine yld_assign rfl ⟨fun _ => KK, ?_⟩
      refine wpListS_nil ?_
      change Code.wp _ _ _ ⟨List.toArray (List.set _ 11 _), []⟩ _
      refine wp_seq ?_
      refine rg (fun c d v a w h => NL c d v a w h) [(17, .eq (.int .u64 (0)))] [] [] [] 68 1 ?_ ?_
      · exact so [] (fun w33 hw33 => .fin (yld_assign rfl ⟨Grow.refl _, rfl⟩)) (.nil _ _)
      rintro w33 hw33 _ rfl -
      have W33 : Grow w w33 := W32.trans hw33
      refine fr (Ut u2 :: Ut u1 :: Ut u0 :: Ut v1 :: Ut v0 :: u :: u :: u :: u :: u :: (tt23 10) :: Ut (q - 1) :: Ut r :: .bool (decide (u2 < v1)) :: u :: Ut ((q * v0) / 18446744073709551616) :: Ut ((q * v0) % 18446744073709551616) :: .int .u64 (0) :: v18 :: v19 :: v20 :: v21 :: v22 :: v23 :: v24 :: v25 :: v26 :: .bool (!(decide (u2 < v1))) :: u :: u :: u :: u :: u :: u :: u :: u :: u :: v37 :: v38 :: v39 :: v40 :: v41 :: v42 :: v43 :: v44 :: .bool ((decide (((((q * v0) / 18446744073709551616 : Nat) : Int) : Int) < (((r : Nat) : Int) : Int)))) :: .bool ((decide (((((q * v0) / 18446744073709551616 : Nat) : Int) : Int) < (((r : Nat) : Int) : Int)))) :: v47 :: v48 :: v49 :: v50 :: v51 :: v52 :: v53 :: v54 :: .bool ((((decide (((((q * v0) / 18446744073709551616 : Nat) : Int) : Int) < (((r : Nat) : Int) : Int))) || (((((((q * v0) / 18446744073709551616 : Nat) : Int) : Int) == (((r : Nat) : Int) : Int)) && (decide (((((q * v0) % 18446744073709551616 : Nat) : Int) : Int) ≤ (((u0 : Nat) : Int) : Int)))))))) :: (tt23 56) :: v57 :: Ut (q - 1) :: (tt23 59) :: (tt23 60) :: (tt23 61) :: (tt23 62) :: (tt23 63) :: (tt23 64) :: (tt23 65) :: (tt23 66) :: (tt23 67) :: []) ?_
      refine nx ?_
      refine wp_seq ?_
      refine rg (fun c d v a w h => NL c d v a w h) [(60, .eq (.int .u64 (((r : Nat) : Int)))), (61, .eq (.int .u64 (((v1 : Nat) : Int)))), (62, .tup2 (.eq (.int .u64 ((((r + v1 + 0) % 18446744073709551616 : Nat) : Int)))) (.eq (.int .u64 ((((r + v1 + 0) / 18446744073709551616 : Nat) : Int))))), (59, .tup2 (.eq (.int .u64 ((((r + v1 + 0) % 18446744073709551616 : Nat) : Int)))) (.eq (.int .u64 ((((r + v1 + 0) / 18446744073709551616 : Nat) : Int))))), (63, .eq (.int .u64 ((((r + v1 + 0) % 18446744073709551616 : Nat) : Int)))), (64, .eq (.int .u64 ((((r + v1 + 0) / 18446744073709551616 : Nat) : Int))))] [] [5] [] 68 6 ?_ ?_
      · refine so [] (fun w34 hw34 => .fin (yld_move rfl ⟨Grow.refl _, rfl⟩)) ?_
        refine so [] (fun w34 hw34 => .fin (yld_move rfl ⟨Grow.refl _, rfl⟩)) ?_
        refine so [0, 1] (fun w34 hw34 => by rintro _ rfl _ rfl; exact .fin (yld_call rfl cal_word_Add rfl (cWAdd (x := r) (y := v1) (z := 0) (by first | omega | exact wd_lt _ _ | exact Nat.mod_lt _ (by omega)) (by first | omega | exact wd_lt _ _ | exact Nat.mod_lt _ (by omega)) (by omega)))) ?_
        refine so [2] (fun w34 hw34 => by rintro _ ⟨x62_0, x62_1, rfl, hx62_0, hx62_1⟩; exact .fin (yld_move rfl ⟨Grow.refl _, ⟨x62_0, x62_1, rfl, hx62_0, hx62_1⟩⟩)) ?_
        refine so [3] (fun w34 hw34 => by rintro _ ⟨x59_0, x59_1, rfl, hx59_0, hx59_1⟩; exact .fin (yld_extract rfl rfl rfl ⟨Grow.refl _, hx59_0⟩)) ?_
        exact sl [3] (fun w34 hw34 => by rintro _ ⟨x59_0, x59_1, rfl, hx59_0, hx59_1⟩; exact .fin (⟨_, fun w2 _ => pure_extract rfl rfl rfl w2, hx59_1⟩)) (.nil _ _)
      rintro w34 hw34 v60 - v61 - v62 - v59 - _ rfl _ rfl -
      have W34 : Grow w w34 := W33.trans hw34
      have KK : Kept [] w34 w34 := fun _ _ => rfl
      refine fr (Ut u2 :: Ut u1 :: Ut u0 :: Ut v1 :: Ut v0 :: u :: u :: u :: u :: u :: (tt23 10) :: Ut (q - 1) :: Ut r :: .bool (decide (u2 < v1)) :: u :: Ut ((q * v0) / 18446744073709551616) :: Ut ((q * v0) % 18446744073709551616) :: .int .u64 (0) :: v18 :: v19 :: v20 :: v21 :: v22 :: v23 :: v24 :: v25 :: v26 :: .bool (!(decide (u2 < v1))) :: u :: u :: u :: u :: u :: u :: u :: u :: u :: v37 :: v38 :: v39 :: v40 :: v41 :: v42 :: v43 :: v44 :: .bool ((decide (((((q * v0) / 18446744073709551616 : Nat) : Int) : Int) < (((r : Nat) : Int) : Int)))) :: .bool ((decide (((((q * v0) / 18446744073709551616 : Nat) : Int) : Int) < (((r : Nat) : Int) : Int)))) :: v47 :: v48 :: v49 :: v50 :: v51 :: v52 :: v53 :: v54 :: .bool ((((decide (((((q * v0) / 18446744073709551616 : Nat) : Int) : Int) < (((r : Nat) : Int) : Int))) || (((((((q * v0) / 18446744073709551616 : Nat) : Int) : Int) == (((r : Nat) : Int) : Int)) && (decide (((((q * v0) % 18446744073709551616 : Nat) : Int) : Int) ≤ (((u0 : Nat) : Int) : Int)))))))) :: (tt23 56) :: v57 :: Ut (q - 1) :: v59 :: v60 :: v61 :: v62 :: Ut ((r + v1 + 0) % 18446744073709551616) :: Ut ((r + v1 + 0) / 18446744073709551616) :: (tt23 65) :: (tt23 66) :: (tt23 67) :: []) ?_
      change wpListS _ _ _ _ [_, _] ⟨_, []⟩ _
      refine wpListS_yld rfl ?_
      refine yld_assign rfl ⟨fun _ => KK, ?_⟩
      change wpListS _ _ _ _ [_] ⟨List.toArray (List.set _ 12 _), []⟩ _
      refine wpListS_yld rfl ?_
      refine yld_assign rfl ⟨fun _ => KK, ?_⟩
      refine wpListS_nil ?_
      change Code.wp _ _ _ ⟨List.toArray (List.set _ 17 _), []⟩ _
      refine wp_seq ?_
      refine rg (fun c d v a w h => NL c d v a w h) [(65, .eq (.int .u64 ((((r + v1 + 0) / 18446744073709551616 : Nat) : Int)))), (66, .eq (.bool (((((r + v1 + 0) / 18446744073709551616 : Nat) : Int) : Int) == (1 : Int))))] [] [] [] 68 2 ?_ ?_
      · refine so [] (fun w35 hw35 => .fin (yld_move rfl ⟨Grow.refl _, rfl⟩)) ?_
        exact so [0] (fun w35 hw35 => by rintro _ rfl; exact .fin (yld_eql rfl rfl rfl ⟨Grow.refl _, rfl⟩)) (.nil _ _)
      rintro w35 hw35 v65 - _ rfl -
      have W35 : Grow w w35 := W34.trans hw35
      refine fr (Ut u2 :: Ut u1 :: Ut u0 :: Ut v1 :: Ut v0 :: u :: u :: u :: u :: u :: (tt23 10) :: Ut (q - 1) :: Ut ((r + v1 + 0) % 18446744073709551616) :: .bool (decide (u2 < v1)) :: u :: Ut ((q * v0) / 18446744073709551616) :: Ut ((q * v0) % 18446744073709551616) :: Ut ((r + v1 + 0) / 18446744073709551616) :: v18 :: v19 :: v20 :: v21 :: v22 :: v23 :: v24 :: v25 :: v26 :: .bool (!(decide (u2 < v1))) :: u :: u :: u :: u :: u :: u :: u :: u :: u :: v37 :: v38 :: v39 :: v40 :: v41 :: v42 :: v43 :: v44 :: .bool ((decide (((((q * v0) / 18446744073709551616 : Nat) : Int) : Int) < (((r : Nat) : Int) : Int)))) :: .bool ((decide (((((q * v0) / 18446744073709551616 : Nat) : Int) : Int) < (((r : Nat) : Int) : Int)))) :: v47 :: v48 :: v49 :: v50 :: v51 :: v52 :: v53 :: v54 :: .bool ((((decide (((((q * v0) / 18446744073709551616 : Nat) : Int) : Int) < (((r : Nat) : Int) : Int))) || (((((((q * v0) / 18446744073709551616 : Nat) : Int) : Int) == (((r : Nat) : Int) : Int)) && (decide (((((q * v0) % 18446744073709551616 : Nat) : Int) : Int) ≤ (((u0 : Nat) : Int) : Int)))))))) :: (tt23 56) :: v57 :: Ut (q - 1) :: v59 :: v60 :: v61 :: v62 :: Ut ((r + v1 + 0) % 18446744073709551616) :: Ut ((r + v1 + 0) / 18446744073709551616) :: v65 :: .bool (((((r + v1 + 0) / 18446744073709551616 : Nat) : Int) : Int) == (1 : Int)) :: (tt23 67) :: []) ?_
      refine nx ?_
      refine wp_cond_split (t := ((((r + v1 + 0) / 18446744073709551616 : Nat) : Int) : Int) == (1 : Int)) rfl (fun hover => ?_) (fun hover => ?_)
      · have hov : 18446744073709551616 ≤ r + v1 := g_car1 (by omega) (by omega) hover
        refine wp_seq ?_
        refine rg (fun c d v a w h => NL c d v a w h) [(67, .eq (.int .u64 (((q - 1 : Nat) : Int)))), (10, .eq (.int .u64 (((q - 1 : Nat) : Int))))] [] [] [] 68 2 ?_ ?_
        · refine so [] (fun w36 hw36 => .fin (yld_move rfl ⟨Grow.refl _, rfl⟩)) ?_
          exact so [0] (fun w36 hw36 => by rintro _ rfl; exact .fin (yld_assign rfl ⟨Grow.refl _, rfl⟩)) (.nil _ _)
        rintro w36 hw36 v67 - _ rfl -
        have W36 : Grow w w36 := W35.trans hw36
        refine fr (Ut u2 :: Ut u1 :: Ut u0 :: Ut v1 :: Ut v0 :: u :: u :: u :: u :: u :: Ut (q - 1) :: Ut (q - 1) :: Ut ((r + v1 + 0) % 18446744073709551616) :: .bool (decide (u2 < v1)) :: u :: Ut ((q * v0) / 18446744073709551616) :: Ut ((q * v0) % 18446744073709551616) :: Ut ((r + v1 + 0) / 18446744073709551616) :: v18 :: v19 :: v20 :: v21 :: v22 :: v23 :: v24 :: v25 :: v26 :: .bool (!(decide (u2 < v1))) :: u :: u :: u :: u :: u :: u :: u :: u :: u :: v37 :: v38 :: v39 :: v40 :: v41 :: v42 :: v43 :: v44 :: .bool ((decide (((((q * v0) / 18446744073709551616 : Nat) : Int) : Int) < (((r : Nat) : Int) : Int)))) :: .bool ((decide (((((q * v0) / 18446744073709551616 : Nat) : Int) : Int) < (((r : Nat) : Int) : Int)))) :: v47 :: v48 :: v49 :: v50 :: v51 :: v52 :: v53 :: v54 :: .bool ((((decide (((((q * v0) / 18446744073709551616 : Nat) : Int) : Int) < (((r : Nat) : Int) : Int))) || (((((((q * v0) / 18446744073709551616 : Nat) : Int) : Int) == (((r : Nat) : Int) : Int)) && (decide (((((q * v0) % 18446744073709551616 : Nat) : Int) : Int) ≤ (((u0 : Nat) : Int) : Int)))))))) :: (tt23 56) :: v57 :: Ut (q - 1) :: v59 :: v60 :: v61 :: v62 :: Ut ((r + v1 + 0) % 18446744073709551616) :: Ut ((r + v1 + 0) / 18446744073709551616) :: v65 :: .bool (((((r + v1 + 0) / 18446744073709551616 : Nat) : Int) : Int) == (1 : Int)) :: v67 :: []) ?_
        refine nx ?_
        refine wp_ret ?_
        change bodyPost Try.prog Try.f110 (Ret (.eq (.int .u64 (((gq u2 u1 u0 v1 v0 : Nat) : Int)))) w) .ret _ _
        exact body_slot rfl (by show Value.int _ _ = Value.int _ _; rw [show ((((q - 1 : Nat) : Int) : Int)) = (((gq u2 u1 u0 v1 v0 : Nat) : Int)) from (by first | exact congrArg Nat.cast (g_done hv hinv hd) | exact congrArg Nat.cast (g_down_over hv c0 hinv hd2 hov) | exact congrArg Nat.cast (g_over he c0 hov0 hv))]) rfl W36
      · have hov1 : r + v1 + 0 < 18446744073709551616 := g_car2 hover
        refine wp_skip ?_
        refine ⟨_, ?_, q - 1, (r + v1 + 0) % 18446744073709551616, rfl, by rw [Nat.mod_eq_of_lt hov1]; exact g_down hv hinv hd2 hov1, fun d => ([(tt23 10), Ut (q - 1), Ut ((r + v1 + 0) % 18446744073709551616), .bool (decide (u2 < v1)), u, Ut ((q * v0) / 18446744073709551616), Ut ((q * v0) % 18446744073709551616), Ut ((r + v1 + 0) / 18446744073709551616), v18, v19, v20, v21, v22, v23, v24, v25, v26, .bool (!(decide (u2 < v1))), u, u, u, u, u, u, u, u, u, v37, v38, v39, v40, v41, v42, v43, v44, .bool ((decide (((((q * v0) / 18446744073709551616 : Nat) : Int) : Int) < (((r : Nat) : Int) : Int)))), .bool ((decide (((((q * v0) / 18446744073709551616 : Nat) : Int) : Int) < (((r : Nat) : Int) : Int)))), v47, v48, v49, v50, v51, v52, v53, v54, .bool ((((decide (((((q * v0) / 18446744073709551616 : Nat) : Int) : Int) < (((r : Nat) : Int) : Int))) || (((((((q * v0) / 18446744073709551616 : Nat) : Int) : Int) == (((r : Nat) : Int) : Int)) && (decide (((((q * v0) % 18446744073709551616 : Nat) : Int) : Int) ≤ (((u0 : Nat) : Int) : Int)))))))), (tt23 56), v57, Ut (q - 1), v59, v60, v61, v62, Ut ((r + v1 + 0) % 18446744073709551616), Ut ((r + v1 + 0) / 18446744073709551616), v65, .bool (((((r + v1 + 0) / 18446744073709551616 : Nat) : Int) : Int) == (1 : Int)), (tt23 67)] : List Value).getD (d - 10) undef, by kernel_rfl, W35⟩
        rw [hnn23]; exact Nat.sub_lt (g_less hv hinv hd2).1 (by omega)
end Go.Proofs.Ytngghjhmfpmilaa
