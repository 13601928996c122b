/- The parts Bases, BlawA, SQ, Bnd, SQD, Row, SO, SO2. -/
import Derived.Test.YtgighdoacajmfaaQ5
set_option maxRecDepth 100000
namespace Go.Proofs.Ytgighdoacajmfaa
open Go.RowKit
def clampM (most : Int) : Nat := (max 0 (min most 1099511627776)).toNat
theorem ways_low (d j mm C : Nat) (hC : Ch.ways d mm = C) (hj : j ≤ mm) : Ch.ways d j ≤ C := by
 have := Ch.ways_le d j (mm - j)
 rw [show j + (mm - j) = mm by omega, hC] at this; exact this
theorem bases_over (n m M d j mm : Nat) (hC : Ch.ways d mm = Ch.choose n m) (hj : j + 1 ≤ mm) (h : M < Ch.ways d (j + 1)) : Ch.basesV n m M = M + 1 ∧ Ch.basesB n m M = false := by
 have h1 := ways_low d (j + 1) mm _ hC hj
 unfold Ch.basesV Ch.basesB
 rw [if_neg zo]
 exact ⟨rfl, decide_eq_false zo⟩
theorem bases_end (n m M d mm : Nat) (hC : Ch.ways d mm = Ch.choose n m) (h : mm = 0 ∨ Ch.ways d mm ≤ M) : Ch.basesV n m M = Ch.ways d mm ∧ Ch.basesB n m M = decide ((Ch.ways d mm : Int) ≤ M) := by
 unfold Ch.basesV Ch.basesB
 rw [← hC]
 constructor
 ·by_cases hh : Ch.ways d mm ≤ M
  ·rw [if_pos hh]
  ·rw [if_neg hh]
   rcases h with h | h
   ·subst h; rw [Ch.ways_zero] at *; omega
   ·exact absurd h hh
 ·rw [decide_eq_decide]; omega
theorem ret_ibb {a b : Int} {x y : Bool} (h : a = b) (h' : x = y) : Ending.returned (.tuple #[.int .i64 a, .bool x]) = Ending.returned (.tuple #[.int .i64 b, .bool y]) := by rw [h, h']
theorem mul_small {x y hi lo : Int} (h : MulRel x y 0 0 hi lo) (hb : x * y < 18446744073709551616) : hi = 0 ∧ lo = x * y := by
 obtain ⟨⟨h1, h2⟩, ⟨h3, h4⟩, h5⟩ := h
 generalize x * y = z at *
 omega
theorem divQ_ways (d j : Nat) : divQ 0 (Ch.ways d j * (d + (j + 1))) (j + 1) = Ch.ways d (j + 1) := by
 unfold divQ; rw [Nat.zero_mul, Nat.zero_add, Ch.ways_div]
set_option maxHeartbeats 1000000 in
theorem bBases_alo (m j0 : Nat) (M : Nat) (hmj : m ≤ j0) (hn : m + j0 ≤ 200) (hM : 0 < M ∧ M ≤ 1099511627776) (w : World) :
  Calls Try.prog 31 #[.int .i64 (m + j0 : Nat), .int .i64 m, .int .i64 M] w fun e w' => e = .returned (.tuple #[.int .i64 (Ch.basesV (m + j0) m M), .bool (Ch.basesB (m + j0) m M)]) ∧ Drawn w w' := by
 have hC : Ch.ways j0 m = Ch.choose (m + j0) m := by
  have := Ch.ways_of (m + j0) m zo
  rw [show min m (m + j0 - m) = m by omega, show m + j0 - m = j0 by omega] at this
  exact this
 have HC := Lib.hid hC
 clear hC
 have hmj' : (m : Int) ≤ j0 := by omega
 have hm0 : (0 : Int) ≤ m := by omega
 have hnm : (m : Int) + j0 - m = j0 := by omega
 have hnj : (m : Int) + j0 - j0 = m := by omega
 go_enter Try.func31, Try.ntmps31
 go_wp2_with fail
 go_loopw [8, 9] (fun c i wr => ∃ j : Nat, c = .int .i64 (Ch.ways j0 j) ∧ i = .int .i64 ((j : Int) + 1) ∧ j ≤ m ∧ Hid (j = 0 ∨ Ch.ways j0 j ≤ M) ∧ Drawn w wr) (fun c i wr => (m + 1 - (intOf i).toNat))
 case atStart => exact ⟨0, by rw [Ch.ways_zero]; rfl, rfl, by omega, .inl rfl, Drawn.refl _⟩
 case round =>
  obtain ⟨j, rfl, rfl, hj, hw, ⟨nd, rfl⟩⟩ := hrel
  have hw1 : Ch.ways j0 j ≤ 1099511627776 := by
   rcases hw.out with h | h
   ·subst h; rw [Ch.ways_zero]; omega
   ·omega
  by_cases hlt : j < m
  ·have hpb : Ch.ways j0 j * (j0 + (j + 1)) ≤ 1099511627776 * 401 := Nat.mul_le_mul hw1 zo
   have hpe : (Ch.ways j0 j : Int) * ((j0 : Int) + ((j : Int) + 1)) = ((Ch.ways j0 j * (j0 + (j + 1)) : Nat) : Int) := by simp
   have hmul := wMul (Ch.ways j0 j : Int) ((j0 : Int) + ((j : Int) + 1)) ⟨by omega, by omega⟩ ⟨by omega, by omega⟩
   have hdiv := wDiv_yes 0 (Ch.ways j0 j * (j0 + (j + 1))) (j + 1) zo zo zo
   rw [divQ_ways, show ((0 : Nat) : Int) = 0 from rfl, show ((j + 1 : Nat) : Int) = (j : Int) + 1 by simp] at hdiv
   generalize hP : Ch.ways j0 j * (j0 + (j + 1)) = P at *
   have HP := Lib.hid hpe
   have HM := Lib.hid hmul
   have HD := Lib.hid hdiv
   clear hpe hmul hdiv hP
   by_cases hov : M < Ch.ways j0 (j + 1)
   ·have hov' : (M : Int) < (Ch.ways j0 (j + 1) : Nat) := by omega
    have HR := Lib.hid (bases_over _ _ M j0 j m HC.out zo hov)
    clear hov
    go_wp2_with fail
    refine (HM.out _).mono ?_
    rintro e w' ⟨hi, lo, rfl, hr, rfl⟩
    have hr1 := mul_small hr (by rw [HP.out]; omega)
    rw [HP.out] at hr1
    obtain ⟨rfl, rfl⟩ := hr1
    clear hr
    go_wp2_with fail
    refine (HD.out _).mono ?_
    rintro e w' ⟨rfl, nd2, rfl⟩
    go_wp2_with fail
    go_ret2
    exact ⟨ret_ibb (by rw [HR.out.1]; rfl) HR.out.2.symm, _, rfl⟩
   ·have hov' : (Ch.ways j0 (j + 1) : Nat) ≤ (M : Int) := by omega
    have HW : Hid (j + 1 = 0 ∨ Ch.ways j0 (j + 1) ≤ M) := .inr zo
    clear hov
    go_wp2_with fail
    refine (HM.out _).mono ?_
    rintro e w' ⟨hi, lo, rfl, hr, rfl⟩
    have hr1 := mul_small hr (by rw [HP.out]; omega)
    rw [HP.out] at hr1
    obtain ⟨rfl, rfl⟩ := hr1
    clear hr
    go_wp2_with fail
    refine (HD.out _).mono ?_
    rintro e w' ⟨rfl, nd2, rfl⟩
    go_wp2_with fail
    go_roundw
    case rel => exact ⟨j + 1, rfl, rfl, by omega, HW, _, rfl⟩
    case measure => simp [intOf]; omega
  ·obtain rfl : j = m := by omega
   have HR := Lib.hid (bases_end _ _ M j0 _ HC.out hw.out)
   go_wp2
   go_ret2
   exact ⟨ret_ibb (by rw [HR.out.1]) (by rw [HR.out.2]; first | rfl | simp), _, rfl⟩
set_option maxHeartbeats 1000000 in
theorem bBases_ahi (m j0 : Nat) (M : Nat) (hmj : j0 < m) (hn : m + j0 ≤ 200) (hM : 0 < M ∧ M ≤ 1099511627776) (w : World) :
  Calls Try.prog 31 #[.int .i64 (m + j0 : Nat), .int .i64 m, .int .i64 M] w fun e w' => e = .returned (.tuple #[.int .i64 (Ch.basesV (m + j0) m M), .bool (Ch.basesB (m + j0) m M)]) ∧ Drawn w w' := by
 have hC : Ch.ways m j0 = Ch.choose (m + j0) m := by
  have := Ch.ways_of (m + j0) m zo
  rw [show min m (m + j0 - m) = j0 by omega, show m + j0 - j0 = m by omega] at this
  exact this
 have HC := Lib.hid hC
 clear hC
 have hmj' : (j0 : Int) < m := by omega
 have hm0 : (0 : Int) ≤ m := by omega
 have hnm : (m : Int) + j0 - m = j0 := by omega
 have hnj : (m : Int) + j0 - j0 = m := by omega
 go_enter Try.func31, Try.ntmps31
 go_wp2_with fail
 go_loopw [8, 9] (fun c i wr => ∃ j : Nat, c = .int .i64 (Ch.ways m j) ∧ i = .int .i64 ((j : Int) + 1) ∧ j ≤ j0 ∧ Hid (j = 0 ∨ Ch.ways m j ≤ M) ∧ Drawn w wr) (fun c i wr => (j0 + 1 - (intOf i).toNat))
 case atStart => exact ⟨0, by rw [Ch.ways_zero]; rfl, rfl, by omega, .inl rfl, Drawn.refl _⟩
 case round =>
  obtain ⟨j, rfl, rfl, hj, hw, ⟨nd, rfl⟩⟩ := hrel
  have hw1 : Ch.ways m j ≤ 1099511627776 := by
   rcases hw.out with h | h
   ·subst h; rw [Ch.ways_zero]; omega
   ·omega
  by_cases hlt : j < j0
  ·have hpb : Ch.ways m j * (m + (j + 1)) ≤ 1099511627776 * 401 := Nat.mul_le_mul hw1 zo
   have hpe : (Ch.ways m j : Int) * ((m : Int) + ((j : Int) + 1)) = ((Ch.ways m j * (m + (j + 1)) : Nat) : Int) := by simp
   have hmul := wMul (Ch.ways m j : Int) ((m : Int) + ((j : Int) + 1)) ⟨by omega, by omega⟩ ⟨by omega, by omega⟩
   have hdiv := wDiv_yes 0 (Ch.ways m j * (m + (j + 1))) (j + 1) zo zo zo
   rw [divQ_ways, show ((0 : Nat) : Int) = 0 from rfl, show ((j + 1 : Nat) : Int) = (j : Int) + 1 by simp] at hdiv
   generalize hP : Ch.ways m j * (m + (j + 1)) = P at *
   have HP := Lib.hid hpe
   have HM := Lib.hid hmul
   have HD := Lib.hid hdiv
   clear hpe hmul hdiv hP
   by_cases hov : M < Ch.ways m (j + 1)
   ·have hov' : (M : Int) < (Ch.ways m (j + 1) : Nat) := by omega
    have HR := Lib.hid (bases_over _ _ M m j j0 HC.out zo hov)
    clear hov
    go_wp2_with fail
    refine (HM.out _).mono ?_
    rintro e w' ⟨hi, lo, rfl, hr, rfl⟩
    have hr1 := mul_small hr (by rw [HP.out]; omega)
    rw [HP.out] at hr1
    obtain ⟨rfl, rfl⟩ := hr1
    clear hr
    go_wp2_with fail
    refine (HD.out _).mono ?_
    rintro e w' ⟨rfl, nd2, rfl⟩
    go_wp2_with fail
    go_ret2
    exact ⟨ret_ibb (by rw [HR.out.1]; rfl) HR.out.2.symm, _, rfl⟩
   ·have hov' : (Ch.ways m (j + 1) : Nat) ≤ (M : Int) := by omega
    have HW : Hid (j + 1 = 0 ∨ Ch.ways m (j + 1) ≤ M) := .inr zo
    clear hov
    go_wp2_with fail
    refine (HM.out _).mono ?_
    rintro e w' ⟨hi, lo, rfl, hr, rfl⟩
    have hr1 := mul_small hr (by rw [HP.out]; omega)
    rw [HP.out] at hr1
    obtain ⟨rfl, rfl⟩ := hr1
    clear hr
    go_wp2_with fail
    refine (HD.out _).mono ?_
    rintro e w' ⟨rfl, nd2, rfl⟩
    go_wp2_with fail
    go_roundw
    case rel => exact ⟨j + 1, rfl, rfl, by omega, HW, _, rfl⟩
    case measure => simp [intOf]; omega
  ·obtain rfl : j = j0 := by omega
   have HR := Lib.hid (bases_end _ _ M m _ HC.out hw.out)
   go_wp2
   go_ret2
   exact ⟨ret_ibb (by rw [HR.out.1]) (by rw [HR.out.2]; first | rfl | simp), _, rfl⟩
set_option maxHeartbeats 1000000 in
theorem bBases_blo (m j0 : Nat) (most : Int) (hmj : m ≤ j0) (hn : m + j0 ≤ 200) (hM : most ≤ 0) (w : World) :
  Calls Try.prog 31 #[.int .i64 (m + j0 : Nat), .int .i64 m, .int .i64 most] w fun e w' => e = .returned (.tuple #[.int .i64 (Ch.basesV (m + j0) m 0), .bool (Ch.basesB (m + j0) m 0)]) ∧ Drawn w w' := by
 have hC : Ch.ways j0 m = Ch.choose (m + j0) m := by
  have := Ch.ways_of (m + j0) m zo
  rw [show min m (m + j0 - m) = m by omega, show m + j0 - m = j0 by omega] at this
  exact this
 have HC := Lib.hid hC
 clear hC
 have hmj' : (m : Int) ≤ j0 := by omega
 have hm0 : (0 : Int) ≤ m := by omega
 have hnm : (m : Int) + j0 - m = j0 := by omega
 have hnj : (m : Int) + j0 - j0 = m := by omega
 go_enter Try.func31, Try.ntmps31
 go_wp2_with fail
 go_loopw [8, 9] (fun c i wr => ∃ j : Nat, c = .int .i64 (Ch.ways j0 j) ∧ i = .int .i64 ((j : Int) + 1) ∧ j ≤ m ∧ Hid (j = 0 ∨ Ch.ways j0 j ≤ 0) ∧ Drawn w wr) (fun c i wr => (m + 1 - (intOf i).toNat))
 case atStart => exact ⟨0, by rw [Ch.ways_zero]; rfl, rfl, by omega, .inl rfl, Drawn.refl _⟩
 case round =>
  obtain ⟨j, rfl, rfl, hj, hw, ⟨nd, rfl⟩⟩ := hrel
  have hw1 : Ch.ways j0 j ≤ 1099511627776 := by
   rcases hw.out with h | h
   ·subst h; rw [Ch.ways_zero]; omega
   ·omega
  by_cases hlt : j < m
  ·have hpb : Ch.ways j0 j * (j0 + (j + 1)) ≤ 1099511627776 * 401 := Nat.mul_le_mul hw1 zo
   have hpe : (Ch.ways j0 j : Int) * ((j0 : Int) + ((j : Int) + 1)) = ((Ch.ways j0 j * (j0 + (j + 1)) : Nat) : Int) := by simp
   have hmul := wMul (Ch.ways j0 j : Int) ((j0 : Int) + ((j : Int) + 1)) ⟨by omega, by omega⟩ ⟨by omega, by omega⟩
   have hdiv := wDiv_yes 0 (Ch.ways j0 j * (j0 + (j + 1))) (j + 1) zo zo zo
   rw [divQ_ways, show ((0 : Nat) : Int) = 0 from rfl, show ((j + 1 : Nat) : Int) = (j : Int) + 1 by simp] at hdiv
   generalize hP : Ch.ways j0 j * (j0 + (j + 1)) = P at *
   have HP := Lib.hid hpe
   have HM := Lib.hid hmul
   have HD := Lib.hid hdiv
   clear hpe hmul hdiv hP
   by_cases hov : 0 < Ch.ways j0 (j + 1)
   ·have hov' : (0 : Int) < (Ch.ways j0 (j + 1) : Nat) := by omega
    have HR := Lib.hid (bases_over _ _ 0 j0 j m HC.out zo hov)
    clear hov
    go_wp2_with fail
    refine (HM.out _).mono ?_
    rintro e w' ⟨hi, lo, rfl, hr, rfl⟩
    have hr1 := mul_small hr (by rw [HP.out]; omega)
    rw [HP.out] at hr1
    obtain ⟨rfl, rfl⟩ := hr1
    clear hr
    go_wp2_with fail
    refine (HD.out _).mono ?_
    rintro e w' ⟨rfl, nd2, rfl⟩
    go_wp2_with fail
    go_ret2
    exact ⟨ret_ibb (by rw [HR.out.1]; rfl) HR.out.2.symm, _, rfl⟩
   ·have hov' : (Ch.ways j0 (j + 1) : Nat) ≤ (0 : Int) := by omega
    have HW : Hid (j + 1 = 0 ∨ Ch.ways j0 (j + 1) ≤ 0) := .inr zo
    clear hov
    go_wp2_with fail
    refine (HM.out _).mono ?_
    rintro e w' ⟨hi, lo, rfl, hr, rfl⟩
    have hr1 := mul_small hr (by rw [HP.out]; omega)
    rw [HP.out] at hr1
    obtain ⟨rfl, rfl⟩ := hr1
    clear hr
    go_wp2_with fail
    refine (HD.out _).mono ?_
    rintro e w' ⟨rfl, nd2, rfl⟩
    go_wp2_with fail
    go_roundw
    case rel => exact ⟨j + 1, rfl, rfl, by omega, HW, _, rfl⟩
    case measure => simp [intOf]; omega
  ·obtain rfl : j = m := by omega
   have HR := Lib.hid (bases_end _ _ 0 j0 _ HC.out hw.out)
   go_wp2
   go_ret2
   exact ⟨ret_ibb (by rw [HR.out.1]) (by rw [HR.out.2]; first | rfl | simp), _, rfl⟩
set_option maxHeartbeats 1000000 in
theorem bBases_bhi (m j0 : Nat) (most : Int) (hmj : j0 < m) (hn : m + j0 ≤ 200) (hM : most ≤ 0) (w : World) :
  Calls Try.prog 31 #[.int .i64 (m + j0 : Nat), .int .i64 m, .int .i64 most] w fun e w' => e = .returned (.tuple #[.int .i64 (Ch.basesV (m + j0) m 0), .bool (Ch.basesB (m + j0) m 0)]) ∧ Drawn w w' := by
 have hC : Ch.ways m j0 = Ch.choose (m + j0) m := by
  have := Ch.ways_of (m + j0) m zo
  rw [show min m (m + j0 - m) = j0 by omega, show m + j0 - j0 = m by omega] at this
  exact this
 have HC := Lib.hid hC
 clear hC
 have hmj' : (j0 : Int) < m := by omega
 have hm0 : (0 : Int) ≤ m := by omega
 have hnm : (m : Int) + j0 - m = j0 := by omega
 have hnj : (m : Int) + j0 - j0 = m := by omega
 go_enter Try.func31, Try.ntmps31
 go_wp2_with fail
 go_loopw [8, 9] (fun c i wr => ∃ j : Nat, c = .int .i64 (Ch.ways m j) ∧ i = .int .i64 ((j : Int) + 1) ∧ j ≤ j0 ∧ Hid (j = 0 ∨ Ch.ways m j ≤ 0) ∧ Drawn w wr) (fun c i wr => (j0 + 1 - (intOf i).toNat))
 case atStart => exact ⟨0, by rw [Ch.ways_zero]; rfl, rfl, by omega, .inl rfl, Drawn.refl _⟩
 case round =>
  obtain ⟨j, rfl, rfl, hj, hw, ⟨nd, rfl⟩⟩ := hrel
  have hw1 : Ch.ways m j ≤ 1099511627776 := by
   rcases hw.out with h | h
   ·subst h; rw [Ch.ways_zero]; omega
   ·omega
  by_cases hlt : j < j0
  ·have hpb : Ch.ways m j * (m + (j + 1)) ≤ 1099511627776 * 401 := Nat.mul_le_mul hw1 zo
   have hpe : (Ch.ways m j : Int) * ((m : Int) + ((j : Int) + 1)) = ((Ch.ways m j * (m + (j + 1)) : Nat) : Int) := by simp
   have hmul := wMul (Ch.ways m j : Int) ((m : Int) + ((j : Int) + 1)) ⟨by omega, by omega⟩ ⟨by omega, by omega⟩
   have hdiv := wDiv_yes 0 (Ch.ways m j * (m + (j + 1))) (j + 1) zo zo zo
   rw [divQ_ways, show ((0 : Nat) : Int) = 0 from rfl, show ((j + 1 : Nat) : Int) = (j : Int) + 1 by simp] at hdiv
   generalize hP : Ch.ways m j * (m + (j + 1)) = P at *
   have HP := Lib.hid hpe
   have HM := Lib.hid hmul
   have HD := Lib.hid hdiv
   clear hpe hmul hdiv hP
   by_cases hov : 0 < Ch.ways m (j + 1)
   ·have hov' : (0 : Int) < (Ch.ways m (j + 1) : Nat) := by omega
    have HR := Lib.hid (bases_over _ _ 0 m j j0 HC.out zo hov)
    clear hov
    go_wp2_with fail
    refine (HM.out _).mono ?_
    rintro e w' ⟨hi, lo, rfl, hr, rfl⟩
    have hr1 := mul_small hr (by rw [HP.out]; omega)
    rw [HP.out] at hr1
    obtain ⟨rfl, rfl⟩ := hr1
    clear hr
    go_wp2_with fail
    refine (HD.out _).mono ?_
    rintro e w' ⟨rfl, nd2, rfl⟩
    go_wp2_with fail
    go_ret2
    exact ⟨ret_ibb (by rw [HR.out.1]; rfl) HR.out.2.symm, _, rfl⟩
   ·have hov' : (Ch.ways m (j + 1) : Nat) ≤ (0 : Int) := by omega
    have HW : Hid (j + 1 = 0 ∨ Ch.ways m (j + 1) ≤ 0) := .inr zo
    clear hov
    go_wp2_with fail
    refine (HM.out _).mono ?_
    rintro e w' ⟨hi, lo, rfl, hr, rfl⟩
    have hr1 := mul_small hr (by rw [HP.out]; omega)
    rw [HP.out] at hr1
    obtain ⟨rfl, rfl⟩ := hr1
    clear hr
    go_wp2_with fail
    refine (HD.out _).mono ?_
    rintro e w' ⟨rfl, nd2, rfl⟩
    go_wp2_with fail
    go_roundw
    case rel => exact ⟨j + 1, rfl, rfl, by omega, HW, _, rfl⟩
    case measure => simp [intOf]; omega
  ·obtain rfl : j = j0 := by omega
   have HR := Lib.hid (bases_end _ _ 0 m _ HC.out hw.out)
   go_wp2
   go_ret2
   exact ⟨ret_ibb (by rw [HR.out.1]) (by rw [HR.out.2]; first | rfl | simp), _, rfl⟩
set_option maxHeartbeats 1000000 in
theorem bBases_clo (m j0 : Nat) (most : Int) (hmj : m ≤ j0) (hn : m + j0 ≤ 200) (hM : 1099511627776 < most) (w : World) :
  Calls Try.prog 31 #[.int .i64 (m + j0 : Nat), .int .i64 m, .int .i64 most] w fun e w' => e = .returned (.tuple #[.int .i64 (Ch.basesV (m + j0) m 1099511627776), .bool (Ch.basesB (m + j0) m 1099511627776)]) ∧ Drawn w w' := by
 have hC : Ch.ways j0 m = Ch.choose (m + j0) m := by
  have := Ch.ways_of (m + j0) m zo
  rw [show min m (m + j0 - m) = m by omega, show m + j0 - m = j0 by omega] at this
  exact this
 have HC := Lib.hid hC
 clear hC
 have hmj' : (m : Int) ≤ j0 := by omega
 have hm0 : (0 : Int) ≤ m := by omega
 have hnm : (m : Int) + j0 - m = j0 := by omega
 have hnj : (m : Int) + j0 - j0 = m := by omega
 go_enter Try.func31, Try.ntmps31
 go_wp2_with fail
 go_loopw [8, 9] (fun c i wr => ∃ j : Nat, c = .int .i64 (Ch.ways j0 j) ∧ i = .int .i64 ((j : Int) + 1) ∧ j ≤ m ∧ Hid (j = 0 ∨ Ch.ways j0 j ≤ 1099511627776) ∧ Drawn w wr) (fun c i wr => (m + 1 - (intOf i).toNat))
 case atStart => exact ⟨0, by rw [Ch.ways_zero]; rfl, rfl, by omega, .inl rfl, Drawn.refl _⟩
 case round =>
  obtain ⟨j, rfl, rfl, hj, hw, ⟨nd, rfl⟩⟩ := hrel
  have hw1 : Ch.ways j0 j ≤ 1099511627776 := by
   rcases hw.out with h | h
   ·subst h; rw [Ch.ways_zero]; omega
   ·omega
  by_cases hlt : j < m
  ·have hpb : Ch.ways j0 j * (j0 + (j + 1)) ≤ 1099511627776 * 401 := Nat.mul_le_mul hw1 zo
   have hpe : (Ch.ways j0 j : Int) * ((j0 : Int) + ((j : Int) + 1)) = ((Ch.ways j0 j * (j0 + (j + 1)) : Nat) : Int) := by simp
   have hmul := wMul (Ch.ways j0 j : Int) ((j0 : Int) + ((j : Int) + 1)) ⟨by omega, by omega⟩ ⟨by omega, by omega⟩
   have hdiv := wDiv_yes 0 (Ch.ways j0 j * (j0 + (j + 1))) (j + 1) zo zo zo
   rw [divQ_ways, show ((0 : Nat) : Int) = 0 from rfl, show ((j + 1 : Nat) : Int) = (j : Int) + 1 by simp] at hdiv
   generalize hP : Ch.ways j0 j * (j0 + (j + 1)) = P at *
   have HP := Lib.hid hpe
   have HM := Lib.hid hmul
   have HD := Lib.hid hdiv
   clear hpe hmul hdiv hP
   by_cases hov : 1099511627776 < Ch.ways j0 (j + 1)
   ·have hov' : (1099511627776 : Int) < (Ch.ways j0 (j + 1) : Nat) := by omega
    have HR := Lib.hid (bases_over _ _ 1099511627776 j0 j m HC.out zo hov)
    clear hov
    go_wp2_with fail
    refine (HM.out _).mono ?_
    rintro e w' ⟨hi, lo, rfl, hr, rfl⟩
    have hr1 := mul_small hr (by rw [HP.out]; omega)
    rw [HP.out] at hr1
    obtain ⟨rfl, rfl⟩ := hr1
    clear hr
    go_wp2_with fail
    refine (HD.out _).mono ?_
    rintro e w' ⟨rfl, nd2, rfl⟩
    go_wp2_with fail
    go_ret2
    exact ⟨ret_ibb (by rw [HR.out.1]; rfl) HR.out.2.symm, _, rfl⟩
   ·have hov' : (Ch.ways j0 (j + 1) : Nat) ≤ (1099511627776 : Int) := by omega
    have HW : Hid (j + 1 = 0 ∨ Ch.ways j0 (j + 1) ≤ 1099511627776) := .inr zo
    clear hov
    go_wp2_with fail
    refine (HM.out _).mono ?_
    rintro e w' ⟨hi, lo, rfl, hr, rfl⟩
    have hr1 := mul_small hr (by rw [HP.out]; omega)
    rw [HP.out] at hr1
    obtain ⟨rfl, rfl⟩ := hr1
    clear hr
    go_wp2_with fail
    refine (HD.out _).mono ?_
    rintro e w' ⟨rfl, nd2, rfl⟩
    go_wp2_with fail
    go_roundw
    case rel => exact ⟨j + 1, rfl, rfl, by omega, HW, _, rfl⟩
    case measure => simp [intOf]; omega
  ·obtain rfl : j = m := by omega
   have HR := Lib.hid (bases_end _ _ 1099511627776 j0 _ HC.out hw.out)
   go_wp2
   go_ret2
   exact ⟨ret_ibb (by rw [HR.out.1]) (by rw [HR.out.2]; first | rfl | simp), _, rfl⟩
set_option maxHeartbeats 1000000 in
theorem bBases_chi (m j0 : Nat) (most : Int) (hmj : j0 < m) (hn : m + j0 ≤ 200) (hM : 1099511627776 < most) (w : World) :
  Calls Try.prog 31 #[.int .i64 (m + j0 : Nat), .int .i64 m, .int .i64 most] w fun e w' => e = .returned (.tuple #[.int .i64 (Ch.basesV (m + j0) m 1099511627776), .bool (Ch.basesB (m + j0) m 1099511627776)]) ∧ Drawn w w' := by
 have hC : Ch.ways m j0 = Ch.choose (m + j0) m := by
  have := Ch.ways_of (m + j0) m zo
  rw [show min m (m + j0 - m) = j0 by omega, show m + j0 - j0 = m by omega] at this
  exact this
 have HC := Lib.hid hC
 clear hC
 have hmj' : (j0 : Int) < m := by omega
 have hm0 : (0 : Int) ≤ m := by omega
 have hnm : (m : Int) + j0 - m = j0 := by omega
 have hnj : (m : Int) + j0 - j0 = m := by omega
 go_enter Try.func31, Try.ntmps31
 go_wp2_with fail
 go_loopw [8, 9] (fun c i wr => ∃ j : Nat, c = .int .i64 (Ch.ways m j) ∧ i = .int .i64 ((j : Int) + 1) ∧ j ≤ j0 ∧ Hid (j = 0 ∨ Ch.ways m j ≤ 1099511627776) ∧ Drawn w wr) (fun c i wr => (j0 + 1 - (intOf i).toNat))
 case atStart => exact ⟨0, by rw [Ch.ways_zero]; rfl, rfl, by omega, .inl rfl, Drawn.refl _⟩
 case round =>
  obtain ⟨j, rfl, rfl, hj, hw, ⟨nd, rfl⟩⟩ := hrel
  have hw1 : Ch.ways m j ≤ 1099511627776 := by
   rcases hw.out with h | h
   ·subst h; rw [Ch.ways_zero]; omega
   ·omega
  by_cases hlt : j < j0
  ·have hpb : Ch.ways m j * (m + (j + 1)) ≤ 1099511627776 * 401 := Nat.mul_le_mul hw1 zo
   have hpe : (Ch.ways m j : Int) * ((m : Int) + ((j : Int) + 1)) = ((Ch.ways m j * (m + (j + 1)) : Nat) : Int) := by simp
   have hmul := wMul (Ch.ways m j : Int) ((m : Int) + ((j : Int) + 1)) ⟨by omega, by omega⟩ ⟨by omega, by omega⟩
   have hdiv := wDiv_yes 0 (Ch.ways m j * (m + (j + 1))) (j + 1) zo zo zo
   rw [divQ_ways, show ((0 : Nat) : Int) = 0 from rfl, show ((j + 1 : Nat) : Int) = (j : Int) + 1 by simp] at hdiv
   generalize hP : Ch.ways m j * (m + (j + 1)) = P at *
   have HP := Lib.hid hpe
   have HM := Lib.hid hmul
   have HD := Lib.hid hdiv
   clear hpe hmul hdiv hP
   by_cases hov : 1099511627776 < Ch.ways m (j + 1)
   ·have hov' : (1099511627776 : Int) < (Ch.ways m (j + 1) : Nat) := by omega
    have HR := Lib.hid (bases_over _ _ 1099511627776 m j j0 HC.out zo hov)
    clear hov
    go_wp2_with fail
    refine (HM.out _).mono ?_
    rintro e w' ⟨hi, lo, rfl, hr, rfl⟩
    have hr1 := mul_small hr (by rw [HP.out]; omega)
    rw [HP.out] at hr1
    obtain ⟨rfl, rfl⟩ := hr1
    clear hr
    go_wp2_with fail
    refine (HD.out _).mono ?_
    rintro e w' ⟨rfl, nd2, rfl⟩
    go_wp2_with fail
    go_ret2
    exact ⟨ret_ibb (by rw [HR.out.1]; rfl) HR.out.2.symm, _, rfl⟩
   ·have hov' : (Ch.ways m (j + 1) : Nat) ≤ (1099511627776 : Int) := by omega
    have HW : Hid (j + 1 = 0 ∨ Ch.ways m (j + 1) ≤ 1099511627776) := .inr zo
    clear hov
    go_wp2_with fail
    refine (HM.out _).mono ?_
    rintro e w' ⟨hi, lo, rfl, hr, rfl⟩
    have hr1 := mul_small hr (by rw [HP.out]; omega)
    rw [HP.out] at hr1
    obtain ⟨rfl, rfl⟩ := hr1
    clear hr
    go_wp2_with fail
    refine (HD.out _).mono ?_
    rintro e w' ⟨rfl, nd2, rfl⟩
    go_wp2_with fail
    go_roundw
    case rel => exact ⟨j + 1, rfl, rfl, by omega, HW, _, rfl⟩
    case measure => simp [intOf]; omega
  ·obtain rfl : j = j0 := by omega
   have HR := Lib.hid (bases_end _ _ 1099511627776 m _ HC.out hw.out)
   go_wp2
   go_ret2
   exact ⟨ret_ibb (by rw [HR.out.1]) (by rw [HR.out.2]; first | rfl | simp), _, rfl⟩
theorem clamp_pos (M : Nat) (h : M ≤ 1099511627776) : clampM (M : Int) = M := by unfold clampM; omega
theorem clamp_neg (most : Int) (h : most ≤ 0) : clampM most = 0 := by unfold clampM; omega
theorem clamp_big (most : Int) (h : 1099511627776 < most) : clampM most = 1099511627776 := by unfold clampM; omega
theorem bBases_in (n m : Nat) (most : Int) (h : m ≤ n) (hn : n ≤ 200) (w : World) :
  Calls Try.prog 31 #[.int .i64 n, .int .i64 m, .int .i64 most] w fun e w' => e = .returned (.tuple #[.int .i64 (Ch.basesV n m (clampM most)), .bool (Ch.basesB n m (clampM most))]) ∧ Drawn w w' := by
 obtain ⟨j, rfl⟩ : ∃ j, n = m + j := ⟨n - m, by omega⟩
 by_cases h0 : most ≤ 0
 ·rw [clamp_neg most h0]
  by_cases hj : m ≤ j
  ·exact bBases_blo m j most hj hn h0 w
  ·exact bBases_bhi m j most zo hn h0 w
 by_cases h1 : 1099511627776 < most
 ·rw [clamp_big most h1]
  by_cases hj : m ≤ j
  ·exact bBases_clo m j most hj hn h1 w
  ·exact bBases_chi m j most zo hn h1 w
 obtain ⟨M, rfl⟩ := Int.eq_ofNat_of_zero_le (show 0 ≤ most by omega)
 rw [clamp_pos M zo]
 by_cases hj : m ≤ j
 ·exact bBases_alo m j M hj hn ⟨by omega, by omega⟩ w
 ·exact bBases_ahi m j M zo hn ⟨by omega, by omega⟩ w
open Go.RowKit
theorem clamp100 : clampM 100 = 100 := by decide
theorem clamp1000 : clampM 1000 = 1000 := by decide
theorem c52 : Ch.basesV 5 2 100 = 10 ∧ Ch.basesB 5 2 100 = true := by decide
theorem c6432 : Ch.basesV 64 32 1000 = 1001 ∧ Ch.basesB 64 32 1000 = false := by
 have h1 : Ch.ways 32 1 = 33 := by rw [← Ch.ways_div, Ch.ways_zero]
 have h2 : Ch.ways 32 2 = 561 := by rw [← Ch.ways_div, h1]
 have h3 : Ch.ways 32 3 = 6545 := by rw [← Ch.ways_div, h2]
 have h4 := Ch.ways_le 32 3 29
 rw [h3] at h4
 have h5 : 6545 ≤ Ch.choose 64 32 := h4
 unfold Ch.basesV Ch.basesB
 rw [if_neg zo]
 exact ⟨rfl, decide_eq_false zo⟩
set_option maxHeartbeats 1000000 in
theorem awake15 (w : World) :
  Calls Try.prog 6 #[] w fun e w' => e = .returned (.bool true) ∧ Drawn w w' := by
 have e1 : detV 2 3 = 9 := by decide
 have e2 : detV 0 0 = 1 := by decide
 have e3 := c52
 have e4 := c6432
 have b1 := bDet_yes 2 3 zo zo
 have b2 := bDet_yes 0 0 zo zo
 have b3 := bBases_in 5 2 100 zo zo
 have b4 := bBases_in 64 32 1000 zo zo
 rw [e1] at b1
 rw [e2] at b2
 rw [clamp100, e3.1, e3.2] at b3
 rw [clamp1000, e4.1, e4.2] at b4
 have B1 := Lib.hid b1
 have B2 := Lib.hid b2
 have B3 := Lib.hid b3
 have B4 := Lib.hid b4
 clear e1 e2 e3 e4 b1 b2 b3 b4
 go_enter Try.func6, Try.ntmps6
 go_wp2_with fail
 refine (B1.out _).mono ?_
 rintro e w' ⟨rfl, n1, rfl⟩
 go_wp2_with fail
 refine (B2.out _).mono ?_
 rintro e w' ⟨rfl, n2, rfl⟩
 go_wp2_with fail
 refine (B3.out _).mono ?_
 rintro e w' ⟨rfl, n3, rfl⟩
 go_wp2_with fail
 refine (B4.out _).mono ?_
 rintro e w' ⟨rfl, n4, rfl⟩
 go_wp2_with fail
 go_ret
 exact ⟨rfl, _, rfl⟩
open Go.RowKit
theorem ret_drawn {P : Program} {f : FuncId} {args : Array Value} {w : World} {m : MR} {v : Value} (hv : ∀ w, m.R w v) (h : Calls P f args w fun e w' => e = .returned v ∧ Drawn w w') : Calls P f args w (Ret m w) := h.mono fun _ w' ⟨e1, d⟩ => ⟨v, e1, drawn_grow d, hv w'⟩
theorem sAwake15 : CallOK Try.prog 6 [] (.ex (.bool true)) [] := by
 refine .of_ret (m := .eq (.bool true)) (callable_of Try.func6 rfl (by kernel_rfl)) (fun _ _ _ v h => h) fun η F w vals h => ?_
 match vals, h with
 | [], _ => exact ret_drawn (fun _ => rfl) (awake15 w)
theorem sBDet {n b : Nat} (hn : n ≤ 64) (hb : b ≤ 1073741824) : CallOK Try.prog 9 [.ex (.int .i64 (n : Int)), .ex (.int .i64 (b : Int))] (.cn (.ex (.int .i64 (detV n b : Int))) (.cn (.ex (.bool true)) (.nl))) [] := by
 refine .of_ret (m := .tup2 (.eq (.int .i64 (detV n b : Int))) (.eq (.bool true))) (callable_of Try.func9 rfl (by kernel_rfl)) (fun _ _ _ v h => by obtain ⟨x, y, rfl, h1, h2⟩ := h; exact ⟨x, [y], rfl, h1, y, [], rfl, h2, rfl⟩) fun η F w vals h => ?_
 match vals, h with
 | [v0, v1], h => obtain rfl := h.1; obtain rfl := h.2.1; exact ret_drawn (fun _ => ⟨_, _, rfl, rfl, rfl⟩) (bDet_yes n b hn hb w)
theorem sBRational {n b : Nat} (hn : n ≤ 64) (hb : b ≤ 1048576) : CallOK Try.prog 12 [.ex (.int .i64 (n : Int)), .ex (.int .i64 (b : Int))] (.cn (.ex (.int .i64 (ratV n b : Int))) (.cn (.ex (.bool true)) (.nl))) [] := by
 refine .of_ret (m := .tup2 (.eq (.int .i64 (ratV n b : Int))) (.eq (.bool true))) (callable_of Try.func12 rfl (by kernel_rfl)) (fun _ _ _ v h => by obtain ⟨x, y, rfl, h1, h2⟩ := h; exact ⟨x, [y], rfl, h1, y, [], rfl, h2, rfl⟩) fun η F w vals h => ?_
 match vals, h with
 | [v0, v1], h => obtain rfl := h.1; obtain rfl := h.2.1; exact ret_drawn (fun _ => ⟨_, _, rfl, rfl, rfl⟩) (bRational_yes n b hn hb w)
def fB (f : Nat → Rat) (a : Nat) : Nat → Nat
 | 0 => a
 | k + 1 => max (max (fB f a k) (Wd.blen (f k).num.natAbs)) (Wd.blen (f k).den)
def rB (q : Nat → Nat → Rat) (n a : Nat) : Nat → Nat
 | 0 => a
 | r + 1 => fB (q r) (rB q n a r) n
theorem fB_step {f : Nat → Rat} {a k : Nat} : max (max (fB f a k : Int) (Wd.blen (f k).num.natAbs : Int)) (Wd.blen (f k).den : Int) = (fB f a (k + 1) : Int) := by
 show _ = ((max (max (fB f a k) (Wd.blen (f k).num.natAbs)) (Wd.blen (f k).den) : Nat) : Int)
 omega
theorem fB_ge {f : Nat → Rat} {a : Nat} : ∀ n, a ≤ fB f a n ∧ ∀ j, j < n → Wd.blen (f j).num.natAbs ≤ fB f a n ∧ Wd.blen (f j).den ≤ fB f a n
 | 0 => ⟨Nat.le_refl _, fun j hj => absurd hj (Nat.not_lt_zero j)⟩
 | n + 1 => by
  obtain ⟨h1, h2⟩ := fB_ge (f := f) (a := a) n
  have e : fB f a (n + 1) = max (max (fB f a n) (Wd.blen (f n).num.natAbs)) (Wd.blen (f n).den) := rfl
  refine ⟨by omega, fun j hj => ?_⟩
  by_cases k : j = n
  ·subst k; omega
  ·have := h2 j zo; omega
theorem fB_le {f : Nat → Rat} {a B : Nat} (ha : a ≤ B) : ∀ n, (∀ j, j < n → Wd.blen (f j).num.natAbs ≤ B ∧ Wd.blen (f j).den ≤ B) → fB f a n ≤ B
 | 0, _ => ha
 | n + 1, h => by
  have h1 := fB_le (f := f) ha n fun j hj => h j zo
  have h2 := h n (Nat.lt_succ_self n)
  show max (max (fB f a n) (Wd.blen (f n).num.natAbs)) (Wd.blen (f n).den) ≤ B
  omega
theorem rB_ge {q : Nat → Nat → Rat} {n a : Nat} : ∀ m, a ≤ rB q n a m ∧ ∀ i, i < m → ∀ j, j < n → Wd.blen (q i j).num.natAbs ≤ rB q n a m ∧ Wd.blen (q i j).den ≤ rB q n a m
 | 0 => ⟨Nat.le_refl _, fun j hj => absurd hj (Nat.not_lt_zero j)⟩
 | m + 1 => by
  obtain ⟨h1, h2⟩ := rB_ge (q := q) (n := n) (a := a) m
  obtain ⟨h3, h4⟩ := fB_ge (f := q m) (a := rB q n a m) n
  have e : rB q n a (m + 1) = fB (q m) (rB q n a m) n := rfl
  refine ⟨by omega, fun i hi j hj => ?_⟩
  by_cases k : i = m
  ·subst k; rw [e]; exact h4 j hj
  ·have := h2 i zo j hj; omega
theorem rB_le {q : Nat → Nat → Rat} {n a B : Nat} (ha : a ≤ B) : ∀ m, (∀ i, i < m → ∀ j, j < n → Wd.blen (q i j).num.natAbs ≤ B ∧ Wd.blen (q i j).den ≤ B) → rB q n a m ≤ B
 | 0, _ => ha
 | m + 1, h => fB_le (rB_le ha m fun i hi => h i zo) n (h m (Nat.lt_succ_self m))
def sqZ (m : Nat) (k : Nat → Nat) (f : Nat → Nat → Int) (r c : Nat) : Int := if r < m then padZ (k r) (f r) c else 0
def oneD (m : Nat) (k : Nat → Nat) (d : Nat → Nat → Int) (g h r c : Nat) : Int := if r < g ∨ (r = g ∧ c < h) then 1 else sqZ m k d r c
def qFw (m : Nat) (k : Nat → Nat) (p d : Nat → Nat → Int) (r c : Nat) : Rat := oneQ (sqZ m k p r c) (sqZ m k d r c)
def qTw (m : Nat) (k : Nat → Nat) (p : Nat → Nat → Int) (r c : Nat) : Rat := oneQ (sqZ m k p r c) 1
section
variable {m g h r c : Nat} {k : Nat → Nat} {f : Nat → Nat → Int}
theorem sqZ_lt (h : r < m) : padZ (k r) (f r) c = sqZ m k f r c := (if_pos h).symm
theorem sqZ_ge (h : ¬ r < m) : 0 = sqZ m k f r c := (if_neg h).symm
theorem sqZ_wd (hw : r < m → ∀ c, c < k r → Wd64 (f r c)) : Wd64 (sqZ m k f r c) := by
 unfold sqZ
 split
 ·exact padZ_wd fun hc => hw (by assumption) c hc
 ·decide
theorem oneD_zero (h : r < m) : padZ (k r) (f r) c = oneD m k f 0 0 r c := (sqZ_lt h).trans (if_neg zo).symm
theorem oneD_new (h : ¬ r < m) (e : ¬ r < g) : 0 = oneD m k f g 0 r c := (sqZ_ge h).trans (if_neg zo).symm
theorem oneD_at : 1 = oneD m k f g (h + 1) g h := (if_pos (.inr ⟨rfl, Nat.lt_succ_self h⟩)).symm
theorem oneD_ne (e : c ≠ h) : oneD m k f g (h + 1) r c = oneD m k f g h r c := by
 unfold oneD
 by_cases q : r < g ∨ (r = g ∧ c < h)
 ·rw [if_pos q, if_pos zo]
 ·rw [if_neg q, if_neg zo]
theorem oneD_row (e : r ≠ g) : oneD m k f g (h + 1) r c = oneD m k f g h r c := by
 unfold oneD
 by_cases q : r < g ∨ (r = g ∧ c < h)
 ·rw [if_pos q, if_pos zo]
 ·rw [if_neg q, if_neg zo]
theorem oneD_next (e : c < h) : oneD m k f g h r c = oneD m k f (g + 1) 0 r c := by
 unfold oneD
 by_cases q : r < g ∨ (r = g ∧ c < h)
 ·rw [if_pos q, if_pos zo]
 ·rw [if_neg q, if_neg zo]
theorem oneD_full (e : c < h) : oneD m k f g h g c = 1 := if_pos (.inr ⟨rfl, e⟩)
theorem oneQ_full {x : Int} (e : c < h) : oneQ x (oneD m k f g h g c) = oneQ x 1 := by rw [oneD_full e]
theorem oneD_wd (hw : r < m → ∀ c, c < k r → Wd64 (f r c)) : Wd64 (oneD m k f g h r c) := by
 unfold oneD
 split
 ·decide
 ·exact sqZ_wd hw
end
theorem sBits15 {q : Nat → Nat → Rat} {v : Nat → Rat} {m n k : Nat} (hm : m ≤ 64) (hn : n ≤ 64) (hk : k ≤ 68719476736) : CallOK Try.prog 11 [.agg (.cn (.sl 1 (mE q n) m) (.cn (.ex (.int .i64 (n : Int))) (.nl))), .sl 3 (fun i0 => .rat (v i0)) k] (.ex (.int .i64 (fB v (rB q n 0 m) k : Int))) [] := by
 exact kP (ch := [.loop 3 (Nat) (fun g => g ≤ m) (fun g => m - g) (fun g => ⟨[(1, .sl 3 (fun i0 => .rat (v i0)) k), (2, .own 0 0), (5, .ex (.int .i64 (rB q n 0 g : Int))), (6, .ex (.int .i64 (g : Int)))], [(0, .one (.var 28 (.agg (.cn (.sl 1 (mE q n) m) (.cn (.ex (.int .i64 (n : Int))) (.nl))))))], 1⟩) [(0, .id 0)] (fun _ => [(0, .id 0)]) (fun g => [.reg 3 [(2, .callS (.ex (.int .i64 (m : Int))) [])], .loop 6 (Nat) (fun h => h ≤ n) (fun h => n - h) (fun h => ⟨[(1, .sl 3 (fun i0 => .rat (v i0)) k), (2, .own 0 0), (5, .ex (.int .i64 (fB (q g) (rB q n 0 g) h : Int))), (6, .ex (.int .i64 (g : Int))), (7, .ex (.int .i64 (h : Int)))], [(0, .one (.var 28 (.agg (.cn (.sl 1 (mE q n) m) (.cn (.ex (.int .i64 (n : Int))) (.nl))))))], 1⟩) [(0, .id 0)] (fun _ => [(0, .id 0)]) (fun h => [.reg 6 [(2, .callS (.ex (.int .i64 (n : Int))) [])], .reg 8 [(4, .callS (.rat (q g h)) []), (5, .callS (.int ((q g h).num)) []), (6, .callS (.nat (((q g h).num).natAbs)) []), (7, .callS (.ex (.int .i64 (Wd.blen (((q g h).num).natAbs) : Int))) []), (11, .callS (.rat (q g h)) []), (12, .callS (.nat ((q g h).den)) []), (13, .callS (.ex (.int .i64 (Wd.blen ((q g h).den) : Int))) [])], .reg 7 [(1, .z ((h + 1 : Nat) : Int))], .reg 4 [(1, .z ((g + 1 : Nat) : Int))]]), .loop 10 (Nat) (fun j => j ≤ k) (fun j => k - j) (fun j => ⟨[(1, .sl 3 (fun i0 => .rat (v i0)) k), (5, .ex (.int .i64 (fB v (rB q n 0 m) j : Int))), (8, .ex (.int .i64 (j : Int)))], [], 0⟩) [] (fun _ => []) (fun j => [.reg 12 [(3, .k j), (5, .callS (.int ((v j).num)) []), (6, .callS (.nat (((v j).num).natAbs)) []), (7, .callS (.ex (.int .i64 (Wd.blen (((v j).num).natAbs) : Int))) []), (10, .k j), (12, .callS (.nat ((v j).den)) []), (13, .callS (.ex (.int .i64 (Wd.blen ((v j).den) : Int))) [])], .reg 11 [(1, .z ((j + 1 : Nat) : Int))]])])]) Try.func11 ((∀ j0, j0 < m → (∀ j1, j1 < n → True)) ∧ (∀ j0, j0 < k → True) ∧ (((fun X1 X2 X3 X4 X5 X6 : Prop => ∃ g0 : Nat, X1 ∧ X2 ∧ X3 ∧ ((0 : Int) = (rB q n 0 g0 : Int)) ∧ ((0 : Int) = (g0 : Int)) ∧ X4 ∧ X5 ∧ X6 ∧ (g0 ≤ m)) _ _ _ _ _ _) ∧ ∀ g : Nat, (g ≤ m) → _ ∧ (((decide ((g : Int) < (m : Int))) = true → (((fun X1 X2 X3 X4 X5 X6 X7 : Prop => ∃ h0 : Nat, X1 ∧ X2 ∧ X3 ∧ (((rB q n 0 g : Nat) : Int) = (fB (q g) (rB q n 0 g) h0 : Int)) ∧ X4 ∧ ((0 : Int) = (h0 : Int)) ∧ X5 ∧ X6 ∧ X7 ∧ (h0 ≤ n)) _ _ _ _ _ _ _) ∧ ∀ h : Nat, (h ≤ n) → _ ∧ (((decide ((h : Int) < (n : Int))) = true → _ ∧ _ ∧ _ ∧ _ ∧ _ ∧ _ ∧ _ ∧ _ ∧ ((fun X1 X2 X3 X4 X5 X6 X7 : Prop => ∃ h1 : Nat, X1 ∧ X2 ∧ X3 ∧ ((max (max (((fB (q g) (rB q n 0 g) h : Nat) : Int) : Int) (Wd.blen (((q g h).num).natAbs) : Int)) (Wd.blen ((q g h).den) : Int) : Int) = (fB (q g) (rB q n 0 g) h1 : Int)) ∧ X4 ∧ (((h + 1 : Nat) : Int) = (h1 : Int)) ∧ X5 ∧ X6 ∧ X7 ∧ (h1 ≤ n) ∧ (n - h1 < n - h)) _ _ _ _ _ _ _)) ∧ ((decide ((h : Int) < (n : Int))) = false → _ ∧ ((fun X1 X2 X3 X4 X5 X6 : Prop => ∃ g1 : Nat, X1 ∧ X2 ∧ X3 ∧ (((fB (q g) (rB q n 0 g) h : Nat) : Int) = (rB q n 0 g1 : Int)) ∧ (((g + 1 : Nat) : Int) = (g1 : Int)) ∧ X4 ∧ X5 ∧ X6 ∧ (g1 ≤ m) ∧ (m - g1 < m - g)) _ _ _ _ _ _))))) ∧ ((decide ((g : Int) < (m : Int))) = false → (((fun X1 X2 : Prop => ∃ j0 : Nat, X1 ∧ X2 ∧ (((rB q n 0 g : Nat) : Int) = (fB v (rB q n 0 m) j0 : Int)) ∧ ((0 : Int) = (j0 : Int)) ∧ (j0 ≤ k)) _ _) ∧ ∀ j : Nat, (j ≤ k) → (((decide ((j : Int) < (k : Int))) = true → _ ∧ (j < k) ∧ _ ∧ _ ∧ _ ∧ _ ∧ (j < k) ∧ _ ∧ _ ∧ _ ∧ ((fun X1 X2 : Prop => ∃ j1 : Nat, X1 ∧ X2 ∧ ((max (max (((fB v (rB q n 0 m) j : Nat) : Int) : Int) (Wd.blen (((v j).num).natAbs) : Int)) (Wd.blen ((v j).den) : Int) : Int) = (fB v (rB q n 0 m) j1 : Int)) ∧ (((j + 1 : Nat) : Int) = (j1 : Int)) ∧ (j1 ≤ k) ∧ (k - j1 < k - j)) _ _)) ∧ ((decide ((j : Int) < (k : Int))) = false → (((fB v (rB q n 0 m) j : Int) = (fB v (rB q n 0 m) k : Int))))))))))
  ⟨(fun _ _ => (fun _ _ => trivial)), (fun _ _ => trivial), ⟨0, (rf k), (leS (fun i0 => .rat (v i0)) k), (rf 0), rfl, zo, (rf m), (leS (mE q n) m), (rf (n : Int)), zo⟩, fun g hg => ⟨sMatRows (m := m) (n := n) (q := q), fun hc12 => have hc12 := dT hc12; ⟨⟨0, (rf k), (leS (fun i0 => .rat (v i0)) k), (rf 0), rfl, (rf (g : Int)), zo, (rf m), (leS (mE q n) m), (rf (n : Int)), zo⟩, fun h hh => ⟨sMatCols (m := m) (n := n) (q := q), fun hc18 => have hc18 := dT hc18; ⟨sMatAt (m := m) (n := n) (r := g) (c := h) (q := q) zo zo, sRatNum (q := q g h), sIntAbs (z := (q g h).num), sNatBits (x := ((q g h).num).natAbs), sMatAt (m := m) (n := n) (r := g) (c := h) (q := q) zo zo, sRatDen (q := q g h), sNatBits (x := (q g h).den), (wI (g := h) zo), h + 1, (rf k), (leS (fun i0 => .rat (v i0)) k), (rf 0), fB_step, (rf (g : Int)), zo, (rf m), (leS (mE q n) m), (rf (n : Int)), zo, zo⟩, fun hc18 => have hc18 := dF hc18; have hi3 : h = n := zo; ⟨(wI (g := g) zo), g + 1, (rf k), (leS (fun i0 => .rat (v i0)) k), (rf 0), (by rw [hi3]; rfl), zo, (rf m), (leS (mE q n) m), (rf (n : Int)), zo, zo⟩⟩⟩, fun hc12 => have hc12 := dF hc12; have hi2 : g = m := zo; ⟨⟨0, (rf k), (leS (fun i0 => .rat (v i0)) k), (by rw [hi2]; rfl), zo, zo⟩, fun j hj => ⟨fun hc39 => have hc39 := dT hc39; ⟨(rf (j : Int)), zo, sRatNum (q := v j), sIntAbs (z := (v j).num), sNatBits (x := ((v j).num).natAbs), (rf (j : Int)), zo, sRatDen (q := v j), sNatBits (x := (v j).den), (wI (g := j) zo), j + 1, (rf k), (leS (fun i0 => .rat (v i0)) k), fB_step, zo, zo, zo⟩, fun hc39 => have hc39 := dF hc39; have hi4 : j = k := zo; (by rw [hi4])⟩⟩⟩⟩
theorem sSquareF {z l : Nat} {k : Nat → Nat} {p d : Nat → Nat → Int} (h : ∀ r, r < l → ∀ c, c < k r → Wd64 (p r c) ∧ Wd64 (d r c)) : CallOK Try.prog 7 [.agg (.cn (.ex (.int .u8 (z : Int))) (.cn (.sl 1 (fun i0 => .sl 2 (fun i1 => .agg (.cn (.ex (.int .i64 (p i0 i1))) (.cn (.ex (.int .i64 (d i0 i1))) (.nl)))) (k i0)) l) (.nl))), .ex (.bool false)] (.agg (.cn (.sl 1 (fun i0 => .sl 3 (fun i1 => .rat (qFw (min l 6) k p d i0 i1)) (z % 7)) (z % 7)) (.cn (.ex (.int .i64 ((z % 7 : Nat) : Int))) (.nl)))) [] := by
 have hw : ∀ r c, Wd64 (sqZ (min l 6) k p r c) ∧ Wd64 (sqZ (min l 6) k d r c) := fun r c => ⟨sqZ_wd fun hr c hc => (h r zo c hc).1, sqZ_wd fun hr c hc => (h r zo c hc).2⟩
 exact kP (ch := [.reg 1 [(1, .callS (.cn (.sl 1 (fun i0 => .sl 2 (fun i1 => .agg (.cn (.ex (.int .i64 (padZ (k i0) (p i0) i1))) (.cn (.ex (.int .i64 (padZ (k i0) (d i0) i1))) (.nl)))) (z % 7)) (min l 6)) (.cn (.ex (.int .i64 ((z % 7 : Nat) : Int))) (.nl))) [])], .loop 4 (Nat) (fun g => g ≤ (z % 7)) (fun g => z % 7 - g) (fun g => ⟨[(1, .ex (.bool false)), (5, .sl 1 (fun i0 => .sl 2 (fun i1 => .agg (.cn (.ex (.int .i64 (padZ (k i0) (p i0) i1))) (.cn (.ex (.int .i64 (padZ (k i0) (d i0) i1))) (.nl)))) (z % 7)) (min l 6)), (6, .ex (.int .i64 ((z % 7 : Nat) : Int))), (7, .own 2 0), (4, .own 1 0), (8, .ex (.int .i64 (g : Int)))], [(0, .one (.var 24 (.agg (.cn (.ex (.int .u8 (z : Int))) (.cn (.sl 1 (fun i0 => .sl 2 (fun i1 => .agg (.cn (.ex (.int .i64 (p i0 i1))) (.cn (.ex (.int .i64 (d i0 i1))) (.nl)))) (k i0)) l) (.nl)))))), (1, .one (.var 28 (.ex (.agg #[.slice none 0 0, .int .i64 0])))), (2, .one (.row 48 1 (fun i0 => .sl 3 (fun i1 => .rat (qFw (min l 6) k p d i0 i1)) (z % 7)) g))], 3⟩) [(0, .id 0), (1, .id 1), (2, .nil)] (fun _ => [(0, .id 0), (1, .id 1), (2, .id 3)]) (fun g => [.reg 6 [(1, .row (z % 7) (fun _ => .agg (.cn (.ex (.int .i64 0)) (.cn (.ex (.int .i64 0)) (.nl)))))], .reg 8 [(2, .k g)], .conv 9 [(0, .id 0), (1, .id 1), (2, .id 2)] ⟨[(1, .ex (.bool false)), (5, .sl 1 (fun i0 => .sl 2 (fun i1 => .agg (.cn (.ex (.int .i64 (padZ (k i0) (p i0) i1))) (.cn (.ex (.int .i64 (padZ (k i0) (d i0) i1))) (.nl)))) (z % 7)) (min l 6)), (6, .ex (.int .i64 ((z % 7 : Nat) : Int))), (7, .own 2 0), (4, .own 1 0), (8, .ex (.int .i64 (g : Int))), (9, .sl 2 (fun i0 => .agg (.cn (.ex (.int .i64 (sqZ (min l 6) k p g i0))) (.cn (.ex (.int .i64 (sqZ (min l 6) k d g i0))) (.nl)))) (z % 7))], [(0, .one (.var 24 (.agg (.cn (.ex (.int .u8 (z : Int))) (.cn (.sl 1 (fun i0 => .sl 2 (fun i1 => .agg (.cn (.ex (.int .i64 (p i0 i1))) (.cn (.ex (.int .i64 (d i0 i1))) (.nl)))) (k i0)) l) (.nl)))))), (1, .one (.var 28 (.ex (.agg #[.slice none 0 0, .int .i64 0])))), (2, .one (.row 48 1 (fun i0 => .sl 3 (fun i1 => .rat (qFw (min l 6) k p d i0 i1)) (z % 7)) g))], 3⟩, .loop 10 (Nat) (fun e => e ≤ (z % 7)) (fun e => z % 7 - e) (fun e => ⟨[(1, .ex (.bool false)), (5, .sl 1 (fun i0 => .sl 2 (fun i1 => .agg (.cn (.ex (.int .i64 (padZ (k i0) (p i0) i1))) (.cn (.ex (.int .i64 (padZ (k i0) (d i0) i1))) (.nl)))) (z % 7)) (min l 6)), (6, .ex (.int .i64 ((z % 7 : Nat) : Int))), (7, .own 2 0), (4, .own 1 0), (8, .ex (.int .i64 (g : Int))), (9, .sl 2 (fun i0 => .agg (.cn (.ex (.int .i64 (sqZ (min l 6) k p g i0))) (.cn (.ex (.int .i64 (sqZ (min l 6) k d g i0))) (.nl)))) (z % 7)), (10, .ex (.int .i64 (e : Int)))], [(0, .one (.var 24 (.agg (.cn (.ex (.int .u8 (z : Int))) (.cn (.sl 1 (fun i0 => .sl 2 (fun i1 => .agg (.cn (.ex (.int .i64 (p i0 i1))) (.cn (.ex (.int .i64 (d i0 i1))) (.nl)))) (k i0)) l) (.nl)))))), (1, .one (.var 28 (.ex (.agg #[.slice none 0 0, .int .i64 0])))), (2, .one (.row 48 1 (fun i0 => .sl 3 (fun i1 => .rat (qFw (min l 6) k p d i0 i1)) (z % 7)) g))], 3⟩) [(0, .id 0), (1, .id 1), (2, .id 2)] (fun _ => [(0, .id 0), (1, .id 1), (2, .id 2)]) (fun e => [.dec 38 false, .reg 11 [(1, .z ((e + 1 : Nat) : Int))], .reg 14 [(2, .callS (.sl 3 (fun i0 => .rat (oneQ (sqZ (min l 6) k p g i0) (sqZ (min l 6) k d g i0))) (z % 7)) []), (4, .row 0 (fun i0 => .sl 3 (fun i1 => .rat (qFw (min l 6) k p d i0 i1)) (z % 7)))], .reg 5 [(1, .z ((g + 1 : Nat) : Int))]]), .conv 9 [(0, .id 0), (1, .id 1), (2, .id 2)] ⟨[(1, .ex (.bool false)), (5, .sl 1 (fun i0 => .sl 2 (fun i1 => .agg (.cn (.ex (.int .i64 (padZ (k i0) (p i0) i1))) (.cn (.ex (.int .i64 (padZ (k i0) (d i0) i1))) (.nl)))) (z % 7)) (min l 6)), (6, .ex (.int .i64 ((z % 7 : Nat) : Int))), (7, .own 2 0), (4, .own 1 0), (8, .ex (.int .i64 (g : Int))), (9, .sl 2 (fun i0 => .agg (.cn (.ex (.int .i64 (sqZ (min l 6) k p g i0))) (.cn (.ex (.int .i64 (sqZ (min l 6) k d g i0))) (.nl)))) (z % 7))], [(0, .one (.var 24 (.agg (.cn (.ex (.int .u8 (z : Int))) (.cn (.sl 1 (fun i0 => .sl 2 (fun i1 => .agg (.cn (.ex (.int .i64 (p i0 i1))) (.cn (.ex (.int .i64 (d i0 i1))) (.nl)))) (k i0)) l) (.nl)))))), (1, .one (.var 28 (.ex (.agg #[.slice none 0 0, .int .i64 0])))), (2, .one (.row 48 1 (fun i0 => .sl 3 (fun i1 => .rat (qFw (min l 6) k p d i0 i1)) (z % 7)) g))], 3⟩, .loop 10 (Nat) (fun e => e ≤ (z % 7)) (fun e => z % 7 - e) (fun e => ⟨[(1, .ex (.bool false)), (5, .sl 1 (fun i0 => .sl 2 (fun i1 => .agg (.cn (.ex (.int .i64 (padZ (k i0) (p i0) i1))) (.cn (.ex (.int .i64 (padZ (k i0) (d i0) i1))) (.nl)))) (z % 7)) (min l 6)), (6, .ex (.int .i64 ((z % 7 : Nat) : Int))), (7, .own 2 0), (4, .own 1 0), (8, .ex (.int .i64 (g : Int))), (9, .sl 2 (fun i0 => .agg (.cn (.ex (.int .i64 (sqZ (min l 6) k p g i0))) (.cn (.ex (.int .i64 (sqZ (min l 6) k d g i0))) (.nl)))) (z % 7)), (10, .ex (.int .i64 (e : Int)))], [(0, .one (.var 24 (.agg (.cn (.ex (.int .u8 (z : Int))) (.cn (.sl 1 (fun i0 => .sl 2 (fun i1 => .agg (.cn (.ex (.int .i64 (p i0 i1))) (.cn (.ex (.int .i64 (d i0 i1))) (.nl)))) (k i0)) l) (.nl)))))), (1, .one (.var 28 (.ex (.agg #[.slice none 0 0, .int .i64 0])))), (2, .one (.row 48 1 (fun i0 => .sl 3 (fun i1 => .rat (qFw (min l 6) k p d i0 i1)) (z % 7)) g))], 3⟩) [(0, .id 0), (1, .id 1), (2, .id 2)] (fun _ => [(0, .id 0), (1, .id 1), (2, .id 2)]) (fun e => [.dec 38 false, .reg 11 [(1, .z ((e + 1 : Nat) : Int))], .reg 14 [(2, .callS (.sl 3 (fun i0 => .rat (oneQ (sqZ (min l 6) k p g i0) (sqZ (min l 6) k d g i0))) (z % 7)) []), (4, .row 0 (fun i0 => .sl 3 (fun i1 => .rat (qFw (min l 6) k p d i0 i1)) (z % 7)))], .reg 5 [(1, .z ((g + 1 : Nat) : Int))]]), .conv 15 [(0, .id 0), (1, .id 1)] ⟨[(4, .own 1 0), (6, .ex (.int .i64 ((z % 7 : Nat) : Int))), (7, .sl 1 (fun i0 => .sl 3 (fun i1 => .rat (qFw (min l 6) k p d i0 i1)) (z % 7)) (z % 7))], [(0, .one (.var 24 (.agg (.cn (.ex (.int .u8 (z : Int))) (.cn (.sl 1 (fun i0 => .sl 2 (fun i1 => .agg (.cn (.ex (.int .i64 (p i0 i1))) (.cn (.ex (.int .i64 (d i0 i1))) (.nl)))) (k i0)) l) (.nl)))))), (1, .one (.var 28 (.ex (.agg #[.slice none 0 0, .int .i64 0]))))], 2⟩, .reg 15 [(2, .callS (.cn (.agg (.cn (.sl 1 (fun i0 => .sl 3 (fun i1 => .rat (qFw (min l 6) k p d i0 i1)) (z % 7)) (z % 7)) (.cn (.ex (.int .i64 ((z % 7 : Nat) : Int))) (.nl)))) (.cn (.ex (.bool true)) (.nl))) [])]])]) Try.func7 ((∀ j0, j0 < l → (∀ j1, j1 < (k j0) → True)) ∧ _ ∧ (((fun X1 X2 X3 X4 X5 X6 X7 X8 X9 : Prop => ∃ g0 : Nat, X1 ∧ X2 ∧ X3 ∧ X4 ∧ X5 ∧ X6 ∧ ((0 : Int) = (g0 : Int)) ∧ X7 ∧ X8 ∧ X9 ∧ ((.agg #[.slice none 0 0, .int .i64 0] : Value) = .agg #[.slice none 0 0, .int .i64 0]) ∧ ((g0 : Nat) = 0) ∧ (g0 ≤ (z % 7))) _ _ _ _ _ _ _ _ _) ∧ ∀ g : Nat, (g ≤ (z % 7)) → (((decide ((g : Int) < ((z % 7 : Nat) : Int))) = true → _ ∧ _ ∧ ((z % 7) ≤ 68719476736) ∧ (∀ j0, j0 < (z % 7) → ((0 : Int) = 0) ∧ ((0 : Int) = 0)) ∧ (((decide ((g : Int) < ((min l 6 : Nat) : Int))) = true → _ ∧ (g < (min l 6)) ∧ _ ∧ _ ∧ _ ∧ _ ∧ _ ∧ _ ∧ _ ∧ _ ∧ (∀ j0, j0 < (z % 7) → ((padZ (k g) (p g) j0 : Int) = (sqZ (min l 6) k p g j0)) ∧ ((padZ (k g) (d g) j0 : Int) = (sqZ (min l 6) k d g j0))) ∧ _ ∧ _ ∧ _ ∧ ((.agg #[.slice none 0 0, .int .i64 0] : Value) = .agg #[.slice none 0 0, .int .i64 0]) ∧ _ ∧ _ ∧ (((fun X1 X2 X3 X4 X5 X6 X7 X8 X9 X10 X11 X12 X13 X14 : Prop => ∃ e0 : Nat, X1 ∧ X2 ∧ X3 ∧ X4 ∧ X5 ∧ X6 ∧ X7 ∧ X8 ∧ X9 ∧ ((0 : Int) = (e0 : Int)) ∧ X10 ∧ X11 ∧ X12 ∧ ((.agg #[.slice none 0 0, .int .i64 0] : Value) = .agg #[.slice none 0 0, .int .i64 0]) ∧ X13 ∧ X14 ∧ (e0 ≤ (z % 7))) _ _ _ _ _ _ _ _ _ _ _ _ _ _) ∧ ∀ e : Nat, (e ≤ (z % 7)) → (((decide ((e : Int) < ((z % 7 : Nat) : Int))) = true → (false = false) ∧ _ ∧ ((fun X1 X2 X3 X4 X5 X6 X7 X8 X9 X10 X11 X12 X13 X14 : Prop => ∃ e1 : Nat, X1 ∧ X2 ∧ X3 ∧ X4 ∧ X5 ∧ X6 ∧ X7 ∧ X8 ∧ X9 ∧ (((e + 1 : Nat) : Int) = (e1 : Int)) ∧ X10 ∧ X11 ∧ X12 ∧ ((.agg #[.slice none 0 0, .int .i64 0] : Value) = .agg #[.slice none 0 0, .int .i64 0]) ∧ X13 ∧ X14 ∧ (e1 ≤ (z % 7)) ∧ (z % 7 - e1 < z % 7 - e)) _ _ _ _ _ _ _ _ _ _ _ _ _ _)) ∧ ((decide ((e : Int) < ((z % 7 : Nat) : Int))) = false → _ ∧ (g + 1 ≤ 68719476736) ∧ _ ∧ _ ∧ _ ∧ ((fun X1 X2 X3 X4 X5 X6 X7 X8 X9 X10 : Prop => ∃ g1 : Nat, X1 ∧ X2 ∧ X3 ∧ X4 ∧ X5 ∧ X6 ∧ (((g + 1 : Nat) : Int) = (g1 : Int)) ∧ X7 ∧ X8 ∧ X9 ∧ ((.agg #[.slice none 0 0, .int .i64 0] : Value) = .agg #[.slice none 0 0, .int .i64 0]) ∧ ((g + 1 : Nat) = g1) ∧ X10 ∧ (g1 ≤ (z % 7)) ∧ (z % 7 - g1 < z % 7 - g)) _ _ _ _ _ _ _ _ _ _))))) ∧ ((decide ((g : Int) < ((min l 6 : Nat) : Int))) = false → _ ∧ _ ∧ _ ∧ _ ∧ _ ∧ _ ∧ _ ∧ _ ∧ (∀ j0, j0 < (z % 7) → ((0 : Int) = (sqZ (min l 6) k p g j0)) ∧ ((0 : Int) = (sqZ (min l 6) k d g j0))) ∧ _ ∧ _ ∧ _ ∧ ((.agg #[.slice none 0 0, .int .i64 0] : Value) = .agg #[.slice none 0 0, .int .i64 0]) ∧ _ ∧ _ ∧ (((fun X1 X2 X3 X4 X5 X6 X7 X8 X9 X10 X11 X12 X13 X14 : Prop => ∃ e0 : Nat, X1 ∧ X2 ∧ X3 ∧ X4 ∧ X5 ∧ X6 ∧ X7 ∧ X8 ∧ X9 ∧ ((0 : Int) = (e0 : Int)) ∧ X10 ∧ X11 ∧ X12 ∧ ((.agg #[.slice none 0 0, .int .i64 0] : Value) = .agg #[.slice none 0 0, .int .i64 0]) ∧ X13 ∧ X14 ∧ (e0 ≤ (z % 7))) _ _ _ _ _ _ _ _ _ _ _ _ _ _) ∧ ∀ e : Nat, (e ≤ (z % 7)) → (((decide ((e : Int) < ((z % 7 : Nat) : Int))) = true → (false = false) ∧ _ ∧ ((fun X1 X2 X3 X4 X5 X6 X7 X8 X9 X10 X11 X12 X13 X14 : Prop => ∃ e1 : Nat, X1 ∧ X2 ∧ X3 ∧ X4 ∧ X5 ∧ X6 ∧ X7 ∧ X8 ∧ X9 ∧ (((e + 1 : Nat) : Int) = (e1 : Int)) ∧ X10 ∧ X11 ∧ X12 ∧ ((.agg #[.slice none 0 0, .int .i64 0] : Value) = .agg #[.slice none 0 0, .int .i64 0]) ∧ X13 ∧ X14 ∧ (e1 ≤ (z % 7)) ∧ (z % 7 - e1 < z % 7 - e)) _ _ _ _ _ _ _ _ _ _ _ _ _ _)) ∧ ((decide ((e : Int) < ((z % 7 : Nat) : Int))) = false → _ ∧ (g + 1 ≤ 68719476736) ∧ _ ∧ _ ∧ _ ∧ ((fun X1 X2 X3 X4 X5 X6 X7 X8 X9 X10 : Prop => ∃ g1 : Nat, X1 ∧ X2 ∧ X3 ∧ X4 ∧ X5 ∧ X6 ∧ (((g + 1 : Nat) : Int) = (g1 : Int)) ∧ X7 ∧ X8 ∧ X9 ∧ ((.agg #[.slice none 0 0, .int .i64 0] : Value) = .agg #[.slice none 0 0, .int .i64 0]) ∧ ((g + 1 : Nat) = g1) ∧ X10 ∧ (g1 ≤ (z % 7)) ∧ (z % 7 - g1 < z % 7 - g)) _ _ _ _ _ _ _ _ _ _))))))) ∧ ((decide ((g : Int) < ((z % 7 : Nat) : Int))) = false → _ ∧ _ ∧ ((g : Nat) = (z % 7)) ∧ _ ∧ _ ∧ _ ∧ _ ∧ ((.agg #[.slice none 0 0, .int .i64 0] : Value) = .agg #[.slice none 0 0, .int .i64 0]) ∧ _ ∧ (_ ∧ _ ∧ _)))))
  ⟨(fun _ _ => (fun _ _ => trivial)), sRows11 (z := z) (l := l) (k := k) (p := p) (d := d), ⟨0, (rf (false : Bool)), (rf (min l 6 : Nat)), (leS (fun i0 => .sl 2 (fun i1 => .agg (.cn (.ex (.int .i64 (padZ (k i0) (p i0) i1))) (.cn (.ex (.int .i64 (padZ (k i0) (d i0) i1))) (.nl)))) (z % 7)) (min l 6)), (rf ((z % 7 : Nat) : Int)), (rf 0), (rf 0), zo, (rf (z : Int)), (rf l), (leS (fun i0 => .sl 2 (fun i1 => .agg (.cn (.ex (.int .i64 (p i0 i1))) (.cn (.ex (.int .i64 (d i0 i1))) (.nl)))) (k i0)) l), rfl, zo, zo⟩, fun g hg => ⟨fun hc20 => have hc20 := dT hc20; have hgn : g < z % 7 := zo; ⟨(rf ((z % 7 : Nat) : Int)), (rf ((z % 7 : Nat) : Int)), zo, (fun j0 hj0 => ⟨rfl, rfl⟩), fun hc28 => have hc28 := dT hc28; ⟨(rf (g : Int)), zo, (rf (false : Bool)), (rf (min l 6 : Nat)), (leS (fun i0 => .sl 2 (fun i1 => .agg (.cn (.ex (.int .i64 (padZ (k i0) (p i0) i1))) (.cn (.ex (.int .i64 (padZ (k i0) (d i0) i1))) (.nl)))) (z % 7)) (min l 6)), (rf ((z % 7 : Nat) : Int)), (rf 0), (rf 0), (rf (g : Int)), (rf (z % 7 : Nat)), (fun j0 hj0 => ⟨(by first | exact sqZ_lt zo | exact sqZ_ge zo), (by first | exact sqZ_lt zo | exact sqZ_ge zo)⟩), (rf (z : Int)), (rf l), (leS (fun i0 => .sl 2 (fun i1 => .agg (.cn (.ex (.int .i64 (p i0 i1))) (.cn (.ex (.int .i64 (d i0 i1))) (.nl)))) (k i0)) l), rfl, (rf g), (leS (fun i0 => .sl 3 (fun i1 => .rat (qFw (min l 6) k p d i0 i1)) (z % 7)) g), ⟨0, (rf (false : Bool)), (rf (min l 6 : Nat)), (leS (fun i0 => .sl 2 (fun i1 => .agg (.cn (.ex (.int .i64 (padZ (k i0) (p i0) i1))) (.cn (.ex (.int .i64 (padZ (k i0) (d i0) i1))) (.nl)))) (z % 7)) (min l 6)), (rf ((z % 7 : Nat) : Int)), (rf 0), (rf 0), (rf (g : Int)), (rf (z % 7 : Nat)), (leS (fun i0 => .agg (.cn (.ex (.int .i64 (sqZ (min l 6) k p g i0))) (.cn (.ex (.int .i64 (sqZ (min l 6) k d g i0))) (.nl)))) (z % 7)), zo, (rf (z : Int)), (rf l), (leS (fun i0 => .sl 2 (fun i1 => .agg (.cn (.ex (.int .i64 (p i0 i1))) (.cn (.ex (.int .i64 (d i0 i1))) (.nl)))) (k i0)) l), rfl, (rf g), (leS (fun i0 => .sl 3 (fun i1 => .rat (qFw (min l 6) k p d i0 i1)) (z % 7)) g), zo⟩, fun e he => ⟨fun hc35 => have hc35 := dT hc35; ⟨rfl, (wI (g := e) zo), e + 1, (rf (false : Bool)), (rf (min l 6 : Nat)), (leS (fun i0 => .sl 2 (fun i1 => .agg (.cn (.ex (.int .i64 (padZ (k i0) (p i0) i1))) (.cn (.ex (.int .i64 (padZ (k i0) (d i0) i1))) (.nl)))) (z % 7)) (min l 6)), (rf ((z % 7 : Nat) : Int)), (rf 0), (rf 0), (rf (g : Int)), (rf (z % 7 : Nat)), (leS (fun i0 => .agg (.cn (.ex (.int .i64 (sqZ (min l 6) k p g i0))) (.cn (.ex (.int .i64 (sqZ (min l 6) k d g i0))) (.nl)))) (z % 7)), zo, (rf (z : Int)), (rf l), (leS (fun i0 => .sl 2 (fun i1 => .agg (.cn (.ex (.int .i64 (p i0 i1))) (.cn (.ex (.int .i64 (d i0 i1))) (.nl)))) (k i0)) l), rfl, (rf g), (leS (fun i0 => .sl 3 (fun i1 => .rat (qFw (min l 6) k p d i0 i1)) (z % 7)) g), zo, zo⟩, fun hc35 => have hc35 := dF hc35; ⟨(sMake (n := z % 7) (p := fun i => sqZ (min l 6) k p g i) (d := fun i => sqZ (min l 6) k d g i) zo (fun c _ => hw g c)).frzV, zo, (oldS (fun i0 => .sl 3 (fun i1 => .rat (qFw (min l 6) k p d i0 i1)) (z % 7)) g), (newS (fun i0 => .sl 3 (fun i1 => .rat (qFw (min l 6) k p d i0 i1)) (z % 7)) g), (wI (g := g) zo), g + 1, (rf (false : Bool)), (rf (min l 6 : Nat)), (leS (fun i0 => .sl 2 (fun i1 => .agg (.cn (.ex (.int .i64 (padZ (k i0) (p i0) i1))) (.cn (.ex (.int .i64 (padZ (k i0) (d i0) i1))) (.nl)))) (z % 7)) (min l 6)), (rf ((z % 7 : Nat) : Int)), (rf 0), (rf 0), zo, (rf (z : Int)), (rf l), (leS (fun i0 => .sl 2 (fun i1 => .agg (.cn (.ex (.int .i64 (p i0 i1))) (.cn (.ex (.int .i64 (d i0 i1))) (.nl)))) (k i0)) l), rfl, zo, (leS (fun i0 => .sl 3 (fun i1 => .rat (qFw (min l 6) k p d i0 i1)) (z % 7)) (g + 1)), zo, zo⟩⟩⟩, fun hc28 => have hc28 := dF hc28; ⟨(rf (false : Bool)), (rf (min l 6 : Nat)), (leS (fun i0 => .sl 2 (fun i1 => .agg (.cn (.ex (.int .i64 (padZ (k i0) (p i0) i1))) (.cn (.ex (.int .i64 (padZ (k i0) (d i0) i1))) (.nl)))) (z % 7)) (min l 6)), (rf ((z % 7 : Nat) : Int)), (rf 0), (rf 0), (rf (g : Int)), (rf (z % 7 : Nat)), (fun j0 hj0 => ⟨(by first | exact sqZ_lt zo | exact sqZ_ge zo), (by first | exact sqZ_lt zo | exact sqZ_ge zo)⟩), (rf (z : Int)), (rf l), (leS (fun i0 => .sl 2 (fun i1 => .agg (.cn (.ex (.int .i64 (p i0 i1))) (.cn (.ex (.int .i64 (d i0 i1))) (.nl)))) (k i0)) l), rfl, (rf g), (leS (fun i0 => .sl 3 (fun i1 => .rat (qFw (min l 6) k p d i0 i1)) (z % 7)) g), ⟨0, (rf (false : Bool)), (rf (min l 6 : Nat)), (leS (fun i0 => .sl 2 (fun i1 => .agg (.cn (.ex (.int .i64 (padZ (k i0) (p i0) i1))) (.cn (.ex (.int .i64 (padZ (k i0) (d i0) i1))) (.nl)))) (z % 7)) (min l 6)), (rf ((z % 7 : Nat) : Int)), (rf 0), (rf 0), (rf (g : Int)), (rf (z % 7 : Nat)), (leS (fun i0 => .agg (.cn (.ex (.int .i64 (sqZ (min l 6) k p g i0))) (.cn (.ex (.int .i64 (sqZ (min l 6) k d g i0))) (.nl)))) (z % 7)), zo, (rf (z : Int)), (rf l), (leS (fun i0 => .sl 2 (fun i1 => .agg (.cn (.ex (.int .i64 (p i0 i1))) (.cn (.ex (.int .i64 (d i0 i1))) (.nl)))) (k i0)) l), rfl, (rf g), (leS (fun i0 => .sl 3 (fun i1 => .rat (qFw (min l 6) k p d i0 i1)) (z % 7)) g), zo⟩, fun e he => ⟨fun hc35 => have hc35 := dT hc35; ⟨rfl, (wI (g := e) zo), e + 1, (rf (false : Bool)), (rf (min l 6 : Nat)), (leS (fun i0 => .sl 2 (fun i1 => .agg (.cn (.ex (.int .i64 (padZ (k i0) (p i0) i1))) (.cn (.ex (.int .i64 (padZ (k i0) (d i0) i1))) (.nl)))) (z % 7)) (min l 6)), (rf ((z % 7 : Nat) : Int)), (rf 0), (rf 0), (rf (g : Int)), (rf (z % 7 : Nat)), (leS (fun i0 => .agg (.cn (.ex (.int .i64 (sqZ (min l 6) k p g i0))) (.cn (.ex (.int .i64 (sqZ (min l 6) k d g i0))) (.nl)))) (z % 7)), zo, (rf (z : Int)), (rf l), (leS (fun i0 => .sl 2 (fun i1 => .agg (.cn (.ex (.int .i64 (p i0 i1))) (.cn (.ex (.int .i64 (d i0 i1))) (.nl)))) (k i0)) l), rfl, (rf g), (leS (fun i0 => .sl 3 (fun i1 => .rat (qFw (min l 6) k p d i0 i1)) (z % 7)) g), zo, zo⟩, fun hc35 => have hc35 := dF hc35; ⟨(sMake (n := z % 7) (p := fun i => sqZ (min l 6) k p g i) (d := fun i => sqZ (min l 6) k d g i) zo (fun c _ => hw g c)).frzV, zo, (oldS (fun i0 => .sl 3 (fun i1 => .rat (qFw (min l 6) k p d i0 i1)) (z % 7)) g), (newS (fun i0 => .sl 3 (fun i1 => .rat (qFw (min l 6) k p d i0 i1)) (z % 7)) g), (wI (g := g) zo), g + 1, (rf (false : Bool)), (rf (min l 6 : Nat)), (leS (fun i0 => .sl 2 (fun i1 => .agg (.cn (.ex (.int .i64 (padZ (k i0) (p i0) i1))) (.cn (.ex (.int .i64 (padZ (k i0) (d i0) i1))) (.nl)))) (z % 7)) (min l 6)), (rf ((z % 7 : Nat) : Int)), (rf 0), (rf 0), zo, (rf (z : Int)), (rf l), (leS (fun i0 => .sl 2 (fun i1 => .agg (.cn (.ex (.int .i64 (p i0 i1))) (.cn (.ex (.int .i64 (d i0 i1))) (.nl)))) (k i0)) l), rfl, zo, (leS (fun i0 => .sl 3 (fun i1 => .rat (qFw (min l 6) k p d i0 i1)) (z % 7)) (g + 1)), zo, zo⟩⟩⟩⟩, fun hc20 => have hc20 := dF hc20; have hi2 : g = z % 7 := zo; ⟨(rf 0), (rf ((z % 7 : Nat) : Int)), hi2, (leS (fun i0 => .sl 3 (fun i1 => .rat (qFw (min l 6) k p d i0 i1)) (z % 7)) g), (rf (z : Int)), (rf l), (leS (fun i0 => .sl 2 (fun i1 => .agg (.cn (.ex (.int .i64 (p i0 i1))) (.cn (.ex (.int .i64 (d i0 i1))) (.nl)))) (k i0)) l), rfl, (sMatOf (m := z % 7) (n := z % 7) (q := fun r c => qFw (min l 6) k p d r c) zo zo), (rf (z % 7 : Nat)), (leS (fun i0 => .sl 3 (fun i1 => .rat (qFw (min l 6) k p d i0 i1)) (z % 7)) (z % 7)), (rf ((z % 7 : Nat) : Int))⟩⟩⟩
theorem sRows11O {z l : Nat} {k : Nat → Nat} {p d : Nat → Nat → Int}  : CallOK Try.prog 32 [.agg (.cn (.ex (.int .u8 (z : Int))) (.cn (.sl 1 (fun i0 => .sl 2 (fun i1 => .agg (.cn (.ex (.int .i64 (p i0 i1))) (.cn (.ex (.int .i64 (d i0 i1))) (.nl)))) (k i0)) l) (.nl)))] (.cn (.own 0 0) (.cn (.ex (.int .i64 ((z % 7 : Nat) : Int))) (.nl))) [.one (.row 46 1 (fun i0 => .own 1 i0) (min l 6)), .fam (min l 6) (fun i0 => .row 64 2 (fun i1 => .agg (.cn (.ex (.int .i64 (padZ (k i0) (p i0) i1))) (.cn (.ex (.int .i64 (padZ (k i0) (d i0) i1))) (.nl)))) (z % 7))] := by
 exact kP (ch := [.reg 1 [(2, .z ((z % 7 : Nat) : Int)), (3, .z ((z % 7 : Nat) : Int))], .loop 4 (Nat) (fun g => g ≤ (min l 6)) (fun g => min l 6 - g) (fun g => ⟨[(1, .own 0 0), (4, .ex (.int .i64 ((z % 7 : Nat) : Int))), (5, .own 1 0), (6, .ex (.int .i64 (g : Int)))], [(0, .one (.var 24 (.agg (.cn (.ex (.int .u8 (z : Int))) (.cn (.sl 1 (fun i0 => .sl 2 (fun i1 => .agg (.cn (.ex (.int .i64 (p i0 i1))) (.cn (.ex (.int .i64 (d i0 i1))) (.nl)))) (k i0)) l) (.nl)))))), (1, .one (.row 46 1 (fun i0 => .own 2 i0) g)), (2, .fam g (fun i0 => .row 64 2 (fun i1 => .agg (.cn (.ex (.int .i64 (padZ (k i0) (p i0) i1))) (.cn (.ex (.int .i64 (padZ (k i0) (d i0) i1))) (.nl)))) (z % 7)))], 3⟩) [(0, .id 0), (1, .nil), (2, .emp)] (fun g => [(0, .id 0), (1, .id 4), (2, .put 2 g 3)]) (fun g => [.reg 6 [(1, .row (z % 7) (fun i0 => .agg (.cn (.ex (.int .i64 (padZ 0 (p g) i0))) (.cn (.ex (.int .i64 (padZ 0 (d g) i0))) (.nl)))))], .loop 8 (Nat) (fun h => h ≤ z % 7 ∧ h ≤ k g) (fun h => z % 7 - h) (fun h => ⟨[(1, .own 0 0), (4, .ex (.int .i64 ((z % 7 : Nat) : Int))), (5, .own 1 0), (6, .ex (.int .i64 (g : Int))), (7, .own 3 0), (8, .ex (.int .i64 (h : Int)))], [(0, .one (.var 24 (.agg (.cn (.ex (.int .u8 (z : Int))) (.cn (.sl 1 (fun i0 => .sl 2 (fun i1 => .agg (.cn (.ex (.int .i64 (p i0 i1))) (.cn (.ex (.int .i64 (d i0 i1))) (.nl)))) (k i0)) l) (.nl)))))), (1, .one (.row 46 1 (fun i0 => .own 2 i0) g)), (2, .fam g (fun i0 => .row 64 2 (fun i1 => .agg (.cn (.ex (.int .i64 (padZ (k i0) (p i0) i1))) (.cn (.ex (.int .i64 (padZ (k i0) (d i0) i1))) (.nl)))) (z % 7))), (3, .one (.row 64 2 (fun i0 => .agg (.cn (.ex (.int .i64 (padZ h (p g) i0))) (.cn (.ex (.int .i64 (padZ h (d g) i0))) (.nl)))) (z % 7)))], 4⟩) [(0, .id 0), (1, .id 1), (2, .id 2), (3, .id 3)] (fun _ => [(0, .id 0), (1, .id 1), (2, .id 2), (3, .id 3)]) (fun h => [.reg 8 [(8, .k g)], .reg 10 [(5, .k g), (8, .k h), (10, .k h), (11, .row 0 (fun i0 => .agg (.cn (.ex (.int .i64 (padZ (h + 1) (p g) i0))) (.cn (.ex (.int .i64 (padZ (h + 1) (d g) i0))) (.nl)))))], .reg 9 [(1, .z ((h + 1 : Nat) : Int))], .reg 11 [(3, .row 0 (fun i0 => .own (if i0 < g then 2 else 3) (if i0 < g then i0 else 0)))], .reg 5 [(1, .z ((g + 1 : Nat) : Int))]]), .ret 12 [(0, .id 1), (1, .id 2)]])]) Try.func32 ((∀ j0, j0 < l → (∀ j1, j1 < (k j0) → True)) ∧ ((7 : Int) ≠ 0) ∧ ((z : Int).tmod 7 = (((z % 7 : Nat) : Int))) ∧ (IntKind.wrap .i64 ((z % 7 : Nat) : Int) = (((z % 7 : Nat) : Int))) ∧ (((fun X1 X2 X3 X4 X5 X6 : Prop => ∃ g0 : Nat, X1 ∧ X2 ∧ X3 ∧ ((0 : Int) = (g0 : Int)) ∧ X4 ∧ X5 ∧ X6 ∧ ((g0 : Nat) = 0) ∧ ((g0 : Nat) = 0) ∧ (g0 ≤ (min l 6))) _ _ _ _ _ _) ∧ ∀ g : Nat, (g ≤ (min l 6)) → (((decide ((g : Int) < (l : Int))) == true) = true → ((decide ((g : Int) < (l : Int))) == true) = true) ∧ ((decide ((g : Int) < (l : Int))) = true → ((decide ((g : Int) < (l : Int))) == true) = true) ∧ (((bif (decide ((g : Int) < (l : Int))) then (decide ((g : Int) < 6)) else false) = true → _ ∧ _ ∧ ((z % 7) ≤ 68719476736) ∧ (∀ j0, j0 < (z % 7) → ((0 : Int) = (padZ 0 (p g) j0)) ∧ ((0 : Int) = (padZ 0 (d g) j0))) ∧ (((fun X1 X2 X3 X4 X5 X6 X7 X8 X9 X10 X11 : Prop => ∃ h0 : Nat, X1 ∧ X2 ∧ X3 ∧ X4 ∧ X5 ∧ ((0 : Int) = (h0 : Int)) ∧ X6 ∧ X7 ∧ X8 ∧ X9 ∧ (∀ j0, j0 < g → ((j0 : Nat) = j0)) ∧ X10 ∧ (∀ j0, j0 < g → ((z % 7 : Nat) = (z % 7)) ∧ (∀ j1, j1 < (z % 7) → ((padZ (k j0) (p j0) j1 : Int) = (padZ (k j0) (p j0) j1)) ∧ ((padZ (k j0) (d j0) j1 : Int) = (padZ (k j0) (d j0) j1)))) ∧ X11 ∧ (∀ j0, j0 < (z % 7) → ((padZ 0 (p g) j0 : Int) = (padZ h0 (p g) j0)) ∧ ((padZ 0 (d g) j0 : Int) = (padZ h0 (d g) j0))) ∧ (h0 ≤ z % 7 ∧ h0 ≤ k g)) _ _ _ _ _ _ _ _ _ _ _) ∧ ∀ h : Nat, (h ≤ z % 7 ∧ h ≤ k g) → (((decide ((h : Int) < ((z % 7 : Nat) : Int))) == true) = true → ((decide ((h : Int) < ((z % 7 : Nat) : Int))) == true) = true) ∧ (((decide ((h : Int) < ((z % 7 : Nat) : Int))) == true) = true → ((decide ((h : Int) < ((z % 7 : Nat) : Int))) == true) = true) ∧ (((decide ((h : Int) < ((z % 7 : Nat) : Int))) == true) = true → ((decide ((h : Int) < ((z % 7 : Nat) : Int))) == true) = true) ∧ (((decide ((h : Int) < ((z % 7 : Nat) : Int))) == true) = true → _) ∧ (((decide ((h : Int) < ((z % 7 : Nat) : Int))) == true) = true → g < l) ∧ (((decide ((h : Int) < ((z % 7 : Nat) : Int))) == true) = true → ((decide ((h : Int) < ((z % 7 : Nat) : Int))) == true) = true) ∧ (((decide ((h : Int) < ((z % 7 : Nat) : Int))) == true) = true → ((decide ((h : Int) < ((z % 7 : Nat) : Int))) == true) = true) ∧ (((decide ((h : Int) < ((z % 7 : Nat) : Int))) == true) = true → ((decide ((h : Int) < ((z % 7 : Nat) : Int))) == true) = true) ∧ (((decide ((h : Int) < ((z % 7 : Nat) : Int))) == true) = true → ((decide ((h : Int) < ((z % 7 : Nat) : Int))) == true) = true) ∧ ((decide ((h : Int) < ((z % 7 : Nat) : Int))) = true → ((decide ((h : Int) < ((z % 7 : Nat) : Int))) == true) = true) ∧ (((bif (decide ((h : Int) < ((z % 7 : Nat) : Int))) then (decide ((h : Int) < (k g : Int))) else false) = true → _ ∧ (g < l) ∧ _ ∧ (h < (k g)) ∧ _ ∧ (h < (z % 7)) ∧ (h < (z % 7)) ∧ (((p g h : Int) = (padZ (h + 1) (p g) h)) ∧ ((d g h : Int) = (padZ (h + 1) (d g) h))) ∧ (∀ t, t < (z % 7) → t ≠ h → (.agg (.cn (.ex (.int .i64 (padZ (h + 1) (p g) t))) (.cn (.ex (.int .i64 (padZ (h + 1) (d g) t))) (.nl))) : SV) = .agg (.cn (.ex (.int .i64 (padZ h (p g) t))) (.cn (.ex (.int .i64 (padZ h (d g) t))) (.nl)))) ∧ _ ∧ ((fun X1 X2 X3 X4 X5 X6 X7 X8 X9 X10 X11 : Prop => ∃ h1 : Nat, X1 ∧ X2 ∧ X3 ∧ X4 ∧ X5 ∧ (((h + 1 : Nat) : Int) = (h1 : Int)) ∧ X6 ∧ X7 ∧ X8 ∧ X9 ∧ (∀ j0, j0 < g → ((j0 : Nat) = j0)) ∧ X10 ∧ (∀ j0, j0 < g → ((z % 7 : Nat) = (z % 7)) ∧ (∀ j1, j1 < (z % 7) → ((padZ (k j0) (p j0) j1 : Int) = (padZ (k j0) (p j0) j1)) ∧ ((padZ (k j0) (d j0) j1 : Int) = (padZ (k j0) (d j0) j1)))) ∧ X11 ∧ (∀ j0, j0 < (z % 7) → ((padZ (h + 1) (p g) j0 : Int) = (padZ h1 (p g) j0)) ∧ ((padZ (h + 1) (d g) j0 : Int) = (padZ h1 (d g) j0))) ∧ (h1 ≤ z % 7 ∧ h1 ≤ k g) ∧ (z % 7 - h1 < z % 7 - h)) _ _ _ _ _ _ _ _ _ _ _)) ∧ ((bif (decide ((h : Int) < ((z % 7 : Nat) : Int))) then (decide ((h : Int) < (k g : Int))) else false) = false → (g + 1 ≤ 68719476736) ∧ (∀ j0, j0 < g → (.own (if j0 < g then 2 else 3) (if j0 < g then j0 else 0) : SV) = .own 2 j0) ∧ (∀ j0, j0 < 1 → ((3 : Nat) = (if g + j0 < g then 2 else 3)) ∧ ((0 : Nat) = (if g + j0 < g then g + j0 else 0))) ∧ _ ∧ ((fun X1 X2 X3 X4 X5 X6 X7 : Prop => ∃ g1 : Nat, X1 ∧ X2 ∧ X3 ∧ (((g + 1 : Nat) : Int) = (g1 : Int)) ∧ X4 ∧ X5 ∧ X6 ∧ ((g + 1 : Nat) = g1) ∧ (∀ j0, j0 < (g + 1) → (((if j0 < g then 2 else 3 : Nat) = 3 ∧ (if j0 < g then j0 else 0 : Nat) = 0 ∧ (j0 : Nat) = g) ∨ ((if j0 < g then 2 else 3 : Nat) = 2 ∧ (if j0 < g then j0 else 0 : Nat) = j0 ∧ (j0 : Nat) ≠ g))) ∧ ((g1 : Nat) = g + 1) ∧ X7 ∧ (((z % 7 : Nat) = (z % 7)) ∧ (∀ j1, j1 < (z % 7) → ((padZ h (p g) j1 : Int) = (padZ (k g) (p g) j1)) ∧ ((padZ h (d g) j1 : Int) = (padZ (k g) (d g) j1)))) ∧ (∀ j0, j0 < g → ((z % 7 : Nat) = (z % 7)) ∧ (∀ j1, j1 < (z % 7) → ((padZ (k j0) (p j0) j1 : Int) = (padZ (k j0) (p j0) j1)) ∧ ((padZ (k j0) (d j0) j1 : Int) = (padZ (k j0) (d j0) j1)))) ∧ (g1 ≤ (min l 6)) ∧ (min l 6 - g1 < min l 6 - g)) _ _ _ _ _ _ _))))) ∧ ((bif (decide ((g : Int) < (l : Int))) then (decide ((g : Int) < 6)) else false) = false → (_ ∧ _ ∧ ((g : Nat) = (min l 6)) ∧ (∀ j0, j0 < g → ((j0 : Nat) = j0)) ∧ ((g : Nat) = (min l 6)) ∧ (∀ j0, j0 < g → ((z % 7 : Nat) = (z % 7)) ∧ (∀ j1, j1 < (z % 7) → ((padZ (k j0) (p j0) j1 : Int) = (padZ (k j0) (p j0) j1)) ∧ ((padZ (k j0) (d j0) j1 : Int) = (padZ (k j0) (d j0) j1)))))))))
  ⟨(fun _ _ => (fun _ _ => trivial)), (by decide), rfl, (by rw [IntKind.wrap_i64]; omega), ⟨0, (rf 0), (rf ((z % 7 : Nat) : Int)), (rf 0), zo, (rf (z : Int)), (rf l), (leS (fun i0 => .sl 2 (fun i1 => .agg (.cn (.ex (.int .i64 (p i0 i1))) (.cn (.ex (.int .i64 (d i0 i1))) (.nl)))) (k i0)) l), zo, zo, zo⟩, fun g hg => ⟨id, (by first | (simp; done) | (simp; omega)), fun hc21 => have hc := bif_true hc21; ⟨(rf ((z % 7 : Nat) : Int)), (rf ((z % 7 : Nat) : Int)), zo, (fun j0 hj0 => ⟨(padZ_zero).symm, (padZ_zero).symm⟩), ⟨0, (rf 0), (rf ((z % 7 : Nat) : Int)), (rf 0), (rf (g : Int)), (rf 0), zo, (rf (z : Int)), (rf l), (leS (fun i0 => .sl 2 (fun i1 => .agg (.cn (.ex (.int .i64 (p i0 i1))) (.cn (.ex (.int .i64 (d i0 i1))) (.nl)))) (k i0)) l), (rf g), (fun j0 hj0 => rfl), (rf g), (fun j0 hj0 => ⟨rfl, (fun j1 hj1 => ⟨rfl, rfl⟩)⟩), (rf (z % 7 : Nat)), (fun j0 hj0 => ⟨zo, zo⟩), zo⟩, fun h hh => ⟨id, id, id, (fun hg => (rf (g : Int))), (fun hg => zo), id, id, id, id, (by first | (simp; done) | (simp; omega)), fun hc38 => have hc2 := bif_true hc38; ⟨(rf (g : Int)), zo, (rf (h : Int)), zo, (rf (h : Int)), zo, zo, ⟨(padZ_at).symm, (padZ_at).symm⟩, (fun t ht hne => by simp only [padZ_ne hne]), (wI (g := h) zo), h + 1, (rf 0), (rf ((z % 7 : Nat) : Int)), (rf 0), (rf (g : Int)), (rf 0), zo, (rf (z : Int)), (rf l), (leS (fun i0 => .sl 2 (fun i1 => .agg (.cn (.ex (.int .i64 (p i0 i1))) (.cn (.ex (.int .i64 (d i0 i1))) (.nl)))) (k i0)) l), (rf g), (fun j0 hj0 => rfl), (rf g), (fun j0 hj0 => ⟨rfl, (fun j1 hj1 => ⟨rfl, rfl⟩)⟩), (rf (z % 7 : Nat)), (fun j0 hj0 => ⟨zo, zo⟩), zo, zo⟩, fun hc38 => have hi3 := bif_false hc38; ⟨zo, (fun j0 hj0 => by rw [if_pos hj0, if_pos hj0]), (fun j0 hj0 => ⟨(by rw [if_neg zo]), (by rw [if_neg zo])⟩), (wI (g := g) zo), g + 1, (rf 0), (rf ((z % 7 : Nat) : Int)), (rf 0), zo, (rf (z : Int)), (rf l), (leS (fun i0 => .sl 2 (fun i1 => .agg (.cn (.ex (.int .i64 (p i0 i1))) (.cn (.ex (.int .i64 (d i0 i1))) (.nl)))) (k i0)) l), zo, (fun j0 hj0 => (by first | omega | (split <;> omega))), zo, (rf g), ⟨rfl, (fun j1 hj1 => ⟨(padZ_end zo), (padZ_end zo)⟩)⟩, (fun j0 hj0 => ⟨rfl, (fun j1 hj1 => ⟨rfl, rfl⟩)⟩), zo, zo⟩⟩⟩, fun hc21 => have hi2 : g = min l 6 := (by have := bif_false hc21; omega); ⟨(rf 0), (rf ((z % 7 : Nat) : Int)), hi2, (fun j0 hj0 => rfl), hi2, (fun j0 hj0 => ⟨rfl, (fun j1 hj1 => ⟨rfl, rfl⟩)⟩)⟩⟩⟩
theorem sSquareT {z l : Nat} {k : Nat → Nat} {p d : Nat → Nat → Int} (h : ∀ r, r < l → ∀ c, c < k r → Wd64 (p r c) ∧ Wd64 (d r c)) : CallOK Try.prog 7 [.agg (.cn (.ex (.int .u8 (z : Int))) (.cn (.sl 1 (fun i0 => .sl 2 (fun i1 => .agg (.cn (.ex (.int .i64 (p i0 i1))) (.cn (.ex (.int .i64 (d i0 i1))) (.nl)))) (k i0)) l) (.nl))), .ex (.bool true)] (.agg (.cn (.sl 1 (fun i0 => .sl 3 (fun i1 => .rat (qTw (min l 6) k p i0 i1)) (z % 7)) (z % 7)) (.cn (.ex (.int .i64 ((z % 7 : Nat) : Int))) (.nl)))) [] := by
 have hw : ∀ g e r c, Wd64 (sqZ (min l 6) k p r c) ∧ Wd64 (oneD (min l 6) k d g e r c) := fun g e r c => ⟨sqZ_wd fun hr c hc => (h r zo c hc).1, oneD_wd fun hr c hc => (h r zo c hc).2⟩
 exact kP (ch := [.reg 1 [(1, .callS (.cn (.own 0 0) (.cn (.ex (.int .i64 ((z % 7 : Nat) : Int))) (.nl))) [.one (.row 46 1 (fun i0 => .own 1 i0) (min l 6)), .fam (min l 6) (fun i0 => .row 64 2 (fun i1 => .agg (.cn (.ex (.int .i64 (padZ (k i0) (p i0) i1))) (.cn (.ex (.int .i64 (padZ (k i0) (d i0) i1))) (.nl)))) (z % 7))])], .loop 4 (Nat) (fun g => g ≤ (z % 7)) (fun g => z % 7 - g) (fun g => ⟨[(1, .ex (.bool true)), (4, .own 1 0), (5, .own 2 0), (6, .ex (.int .i64 ((z % 7 : Nat) : Int))), (7, .own 4 0), (8, .ex (.int .i64 (g : Int)))], [(0, .one (.var 24 (.agg (.cn (.ex (.int .u8 (z : Int))) (.cn (.sl 1 (fun i0 => .sl 2 (fun i1 => .agg (.cn (.ex (.int .i64 (p i0 i1))) (.cn (.ex (.int .i64 (d i0 i1))) (.nl)))) (k i0)) l) (.nl)))))), (1, .one (.var 28 (.ex (.agg #[.slice none 0 0, .int .i64 0])))), (2, .one (.row 46 1 (fun i0 => .own 3 i0) (min l 6))), (3, .fam (max (min l 6) g) (fun i0 => .row 64 2 (fun i1 => .agg (.cn (.ex (.int .i64 (sqZ (min l 6) k p i0 i1))) (.cn (.ex (.int .i64 (oneD (min l 6) k d g 0 i0 i1))) (.nl)))) (z % 7))), (4, .one (.row 48 1 (fun i0 => .own 5 i0) g)), (5, .fam g (fun i0 => .row 36 3 (fun i1 => .rat (qTw (min l 6) k p i0 i1)) (z % 7)))], 6⟩) [(0, .id 0), (1, .id 1), (2, .id 2), (3, .id 3), (4, .nil), (5, .emp)] (fun g => [(0, .id 0), (1, .id 1), (2, .id 2), (3, .id 3), (4, .id 7), (5, .put 5 g 6)]) (fun g => [.reg 6 [(1, .row (z % 7) (fun _ => .agg (.cn (.ex (.int .i64 0)) (.cn (.ex (.int .i64 0)) (.nl)))))], .conv 8 [(0, .id 0), (1, .id 1), (2, .id 2), (3, .id 3), (4, .id 4), (5, .id 5)] ⟨[(1, .ex (.bool true)), (4, .own 1 0), (5, .own 2 0), (6, .ex (.int .i64 ((z % 7 : Nat) : Int))), (7, .own 4 0), (8, .ex (.int .i64 (g : Int)))], [(0, .one (.var 24 (.agg (.cn (.ex (.int .u8 (z : Int))) (.cn (.sl 1 (fun i0 => .sl 2 (fun i1 => .agg (.cn (.ex (.int .i64 (p i0 i1))) (.cn (.ex (.int .i64 (d i0 i1))) (.nl)))) (k i0)) l) (.nl)))))), (1, .one (.var 28 (.ex (.agg #[.slice none 0 0, .int .i64 0])))), (2, .one (.row 46 1 (fun i0 => .own 3 i0) (min l 6))), (3, .fam (max (min l 6) g) (fun i0 => .row 64 2 (fun i1 => .agg (.cn (.ex (.int .i64 (sqZ (min l 6) k p i0 i1))) (.cn (.ex (.int .i64 (oneD (min l 6) k d g 0 i0 i1))) (.nl)))) (z % 7))), (4, .one (.row 48 1 (fun i0 => .own 5 i0) g)), (5, .fam g (fun i0 => .row 36 3 (fun i1 => .rat (qTw (min l 6) k p i0 i1)) (z % 7)))], 6⟩, .reg 8 [(2, .k g)], .conv2 9 6 [(0, .id 0), (1, .id 1), (2, .id 2), (3, .put 3 g 6), (4, .id 4), (5, .id 5)] [(0, .id 0), (1, .id 1), (2, .id 2), (3, .id 3), (4, .id 4), (5, .id 5)] ⟨[(1, .ex (.bool true)), (4, .own 1 0), (5, .own 2 0), (6, .ex (.int .i64 ((z % 7 : Nat) : Int))), (7, .own 4 0), (8, .ex (.int .i64 (g : Int))), (9, .own 3 g)], [(0, .one (.var 24 (.agg (.cn (.ex (.int .u8 (z : Int))) (.cn (.sl 1 (fun i0 => .sl 2 (fun i1 => .agg (.cn (.ex (.int .i64 (p i0 i1))) (.cn (.ex (.int .i64 (d i0 i1))) (.nl)))) (k i0)) l) (.nl)))))), (1, .one (.var 28 (.ex (.agg #[.slice none 0 0, .int .i64 0])))), (2, .one (.row 46 1 (fun i0 => .own 3 i0) (min l 6))), (3, .fam (max (min l 6) (g + 1)) (fun i0 => .row 64 2 (fun i1 => .agg (.cn (.ex (.int .i64 (sqZ (min l 6) k p i0 i1))) (.cn (.ex (.int .i64 (oneD (min l 6) k d g 0 i0 i1))) (.nl)))) (z % 7))), (4, .one (.row 48 1 (fun i0 => .own 5 i0) g)), (5, .fam g (fun i0 => .row 36 3 (fun i1 => .rat (qTw (min l 6) k p i0 i1)) (z % 7)))], 6⟩, .loop 10 (Nat) (fun e => e ≤ (z % 7)) (fun e => z % 7 - e) (fun e => ⟨[(1, .ex (.bool true)), (4, .own 1 0), (5, .own 2 0), (6, .ex (.int .i64 ((z % 7 : Nat) : Int))), (7, .own 4 0), (8, .ex (.int .i64 (g : Int))), (9, .own 3 g), (10, .ex (.int .i64 (e : Int)))], [(0, .one (.var 24 (.agg (.cn (.ex (.int .u8 (z : Int))) (.cn (.sl 1 (fun i0 => .sl 2 (fun i1 => .agg (.cn (.ex (.int .i64 (p i0 i1))) (.cn (.ex (.int .i64 (d i0 i1))) (.nl)))) (k i0)) l) (.nl)))))), (1, .one (.var 28 (.ex (.agg #[.slice none 0 0, .int .i64 0])))), (2, .one (.row 46 1 (fun i0 => .own 3 i0) (min l 6))), (3, .fam (max (min l 6) (g + 1)) (fun i0 => .row 64 2 (fun i1 => .agg (.cn (.ex (.int .i64 (sqZ (min l 6) k p i0 i1))) (.cn (.ex (.int .i64 (oneD (min l 6) k d g e i0 i1))) (.nl)))) (z % 7))), (4, .one (.row 48 1 (fun i0 => .own 5 i0) g)), (5, .fam g (fun i0 => .row 36 3 (fun i1 => .rat (qTw (min l 6) k p i0 i1)) (z % 7)))], 6⟩) [(0, .id 0), (1, .id 1), (2, .id 2), (3, .id 3), (4, .id 4), (5, .id 5)] (fun _ => [(0, .id 0), (1, .id 1), (2, .id 2), (3, .id 3), (4, .id 4), (5, .id 5)]) (fun e => [.dec 38 true, .reg 13 [(2, .k e), (4, .rowF (fun i0 => .agg (.cn (.ex (.int .i64 (sqZ (min l 6) k p g i0))) (.cn (.ex (.int .i64 (oneD (min l 6) k d g (e + 1) g i0))) (.nl)))) (fun i0 => .row 64 2 (fun i1 => .agg (.cn (.ex (.int .i64 (sqZ (min l 6) k p i0 i1))) (.cn (.ex (.int .i64 (oneD (min l 6) k d g (e + 1) i0 i1))) (.nl)))) (z % 7)))], .reg 11 [(1, .z ((e + 1 : Nat) : Int))], .reg 14 [(2, .callS (.own 0 0) [.one (.row 36 3 (fun i0 => .rat (oneQ (sqZ (min l 6) k p g i0) (oneD (min l 6) k d g e g i0))) (z % 7))]), (4, .row 0 (fun i0 => .own (if i0 < g then 5 else 6) (if i0 < g then i0 else 0)))], .reg 5 [(1, .z ((g + 1 : Nat) : Int))]]), .conv2 9 6 [(0, .id 0), (1, .id 1), (2, .id 2), (3, .put 3 g 6), (4, .id 4), (5, .id 5)] [(0, .id 0), (1, .id 1), (2, .id 2), (3, .id 3), (4, .id 4), (5, .id 5)] ⟨[(1, .ex (.bool true)), (4, .own 1 0), (5, .own 2 0), (6, .ex (.int .i64 ((z % 7 : Nat) : Int))), (7, .own 4 0), (8, .ex (.int .i64 (g : Int))), (9, .own 3 g)], [(0, .one (.var 24 (.agg (.cn (.ex (.int .u8 (z : Int))) (.cn (.sl 1 (fun i0 => .sl 2 (fun i1 => .agg (.cn (.ex (.int .i64 (p i0 i1))) (.cn (.ex (.int .i64 (d i0 i1))) (.nl)))) (k i0)) l) (.nl)))))), (1, .one (.var 28 (.ex (.agg #[.slice none 0 0, .int .i64 0])))), (2, .one (.row 46 1 (fun i0 => .own 3 i0) (min l 6))), (3, .fam (max (min l 6) (g + 1)) (fun i0 => .row 64 2 (fun i1 => .agg (.cn (.ex (.int .i64 (sqZ (min l 6) k p i0 i1))) (.cn (.ex (.int .i64 (oneD (min l 6) k d g 0 i0 i1))) (.nl)))) (z % 7))), (4, .one (.row 48 1 (fun i0 => .own 5 i0) g)), (5, .fam g (fun i0 => .row 36 3 (fun i1 => .rat (qTw (min l 6) k p i0 i1)) (z % 7)))], 6⟩, .loop 10 (Nat) (fun e => e ≤ (z % 7)) (fun e => z % 7 - e) (fun e => ⟨[(1, .ex (.bool true)), (4, .own 1 0), (5, .own 2 0), (6, .ex (.int .i64 ((z % 7 : Nat) : Int))), (7, .own 4 0), (8, .ex (.int .i64 (g : Int))), (9, .own 3 g), (10, .ex (.int .i64 (e : Int)))], [(0, .one (.var 24 (.agg (.cn (.ex (.int .u8 (z : Int))) (.cn (.sl 1 (fun i0 => .sl 2 (fun i1 => .agg (.cn (.ex (.int .i64 (p i0 i1))) (.cn (.ex (.int .i64 (d i0 i1))) (.nl)))) (k i0)) l) (.nl)))))), (1, .one (.var 28 (.ex (.agg #[.slice none 0 0, .int .i64 0])))), (2, .one (.row 46 1 (fun i0 => .own 3 i0) (min l 6))), (3, .fam (max (min l 6) (g + 1)) (fun i0 => .row 64 2 (fun i1 => .agg (.cn (.ex (.int .i64 (sqZ (min l 6) k p i0 i1))) (.cn (.ex (.int .i64 (oneD (min l 6) k d g e i0 i1))) (.nl)))) (z % 7))), (4, .one (.row 48 1 (fun i0 => .own 5 i0) g)), (5, .fam g (fun i0 => .row 36 3 (fun i1 => .rat (qTw (min l 6) k p i0 i1)) (z % 7)))], 6⟩) [(0, .id 0), (1, .id 1), (2, .id 2), (3, .id 3), (4, .id 4), (5, .id 5)] (fun _ => [(0, .id 0), (1, .id 1), (2, .id 2), (3, .id 3), (4, .id 4), (5, .id 5)]) (fun e => [.dec 38 true, .reg 13 [(2, .k e), (4, .rowF (fun i0 => .agg (.cn (.ex (.int .i64 (sqZ (min l 6) k p g i0))) (.cn (.ex (.int .i64 (oneD (min l 6) k d g (e + 1) g i0))) (.nl)))) (fun i0 => .row 64 2 (fun i1 => .agg (.cn (.ex (.int .i64 (sqZ (min l 6) k p i0 i1))) (.cn (.ex (.int .i64 (oneD (min l 6) k d g (e + 1) i0 i1))) (.nl)))) (z % 7)))], .reg 11 [(1, .z ((e + 1 : Nat) : Int))], .reg 14 [(2, .callS (.own 0 0) [.one (.row 36 3 (fun i0 => .rat (oneQ (sqZ (min l 6) k p g i0) (oneD (min l 6) k d g e g i0))) (z % 7))]), (4, .row 0 (fun i0 => .own (if i0 < g then 5 else 6) (if i0 < g then i0 else 0)))], .reg 5 [(1, .z ((g + 1 : Nat) : Int))]]), .conv 15 [(0, .id 0), (1, .id 1)] ⟨[(4, .own 1 0), (6, .ex (.int .i64 ((z % 7 : Nat) : Int))), (7, .sl 1 (fun i0 => .sl 3 (fun i1 => .rat (qTw (min l 6) k p i0 i1)) (z % 7)) (z % 7))], [(0, .one (.var 24 (.agg (.cn (.ex (.int .u8 (z : Int))) (.cn (.sl 1 (fun i0 => .sl 2 (fun i1 => .agg (.cn (.ex (.int .i64 (p i0 i1))) (.cn (.ex (.int .i64 (d i0 i1))) (.nl)))) (k i0)) l) (.nl)))))), (1, .one (.var 28 (.ex (.agg #[.slice none 0 0, .int .i64 0]))))], 2⟩, .reg 15 [(2, .callS (.cn (.agg (.cn (.sl 1 (fun i0 => .sl 3 (fun i1 => .rat (qTw (min l 6) k p i0 i1)) (z % 7)) (z % 7)) (.cn (.ex (.int .i64 ((z % 7 : Nat) : Int))) (.nl)))) (.cn (.ex (.bool true)) (.nl))) [])]])]) Try.func7 ((∀ j0, j0 < l → (∀ j1, j1 < (k j0) → True)) ∧ _ ∧ (((fun X1 X2 X3 X4 X5 X6 X7 X8 X9 : Prop => ∃ g0 : Nat, X1 ∧ X2 ∧ X3 ∧ X4 ∧ X5 ∧ ((0 : Int) = (g0 : Int)) ∧ X6 ∧ X7 ∧ X8 ∧ ((.agg #[.slice none 0 0, .int .i64 0] : Value) = .agg #[.slice none 0 0, .int .i64 0]) ∧ X9 ∧ (∀ j0, j0 < (min l 6) → ((j0 : Nat) = j0)) ∧ ((min l 6 : Nat) = (max (min l 6) g0)) ∧ (∀ j0, j0 < (min l 6) → ((z % 7 : Nat) = (z % 7)) ∧ (∀ j1, j1 < (z % 7) → ((padZ (k j0) (p j0) j1 : Int) = (sqZ (min l 6) k p j0 j1)) ∧ ((padZ (k j0) (d j0) j1 : Int) = (oneD (min l 6) k d g0 0 j0 j1)))) ∧ ((g0 : Nat) = 0) ∧ ((g0 : Nat) = 0) ∧ (g0 ≤ (z % 7))) _ _ _ _ _ _ _ _ _) ∧ ∀ g : Nat, (g ≤ (z % 7)) → (((decide ((g : Int) < ((z % 7 : Nat) : Int))) = true → _ ∧ _ ∧ ((z % 7) ≤ 68719476736) ∧ (∀ j0, j0 < (z % 7) → ((0 : Int) = 0) ∧ ((0 : Int) = 0)) ∧ (((decide ((g : Int) < ((min l 6 : Nat) : Int))) = true → _ ∧ _ ∧ _ ∧ _ ∧ _ ∧ _ ∧ _ ∧ _ ∧ _ ∧ ((.agg #[.slice none 0 0, .int .i64 0] : Value) = .agg #[.slice none 0 0, .int .i64 0]) ∧ _ ∧ (∀ j0, j0 < (min l 6) → ((j0 : Nat) = j0)) ∧ _ ∧ (∀ j0, j0 < (max (min l 6) g) → ((z % 7 : Nat) = (z % 7)) ∧ (∀ j1, j1 < (z % 7) → ((sqZ (min l 6) k p j0 j1 : Int) = (sqZ (min l 6) k p j0 j1)) ∧ ((oneD (min l 6) k d g 0 j0 j1 : Int) = (oneD (min l 6) k d g 0 j0 j1)))) ∧ _ ∧ (∀ j0, j0 < g → ((j0 : Nat) = j0)) ∧ _ ∧ (∀ j0, j0 < g → ((z % 7 : Nat) = (z % 7)) ∧ (∀ j1, j1 < (z % 7) → ((qTw (min l 6) k p j0 j1 : Rat) = (qTw (min l 6) k p j0 j1)))) ∧ _ ∧ (g < (min l 6)) ∧ (g < (min l 6)) ∧ _ ∧ _ ∧ _ ∧ _ ∧ _ ∧ _ ∧ _ ∧ _ ∧ _ ∧ _ ∧ ((.agg #[.slice none 0 0, .int .i64 0] : Value) = .agg #[.slice none 0 0, .int .i64 0]) ∧ _ ∧ (∀ j0, j0 < (min l 6) → ((j0 : Nat) = j0)) ∧ ((max (min l 6) g : Nat) = (max (min l 6) (g + 1))) ∧ (∀ j0, j0 < (max (min l 6) g) → ((z % 7 : Nat) = (z % 7)) ∧ (∀ j1, j1 < (z % 7) → ((sqZ (min l 6) k p j0 j1 : Int) = (sqZ (min l 6) k p j0 j1)) ∧ ((oneD (min l 6) k d g 0 j0 j1 : Int) = (oneD (min l 6) k d g 0 j0 j1)))) ∧ _ ∧ (∀ j0, j0 < g → ((j0 : Nat) = j0)) ∧ _ ∧ (∀ j0, j0 < g → ((z % 7 : Nat) = (z % 7)) ∧ (∀ j1, j1 < (z % 7) → ((qTw (min l 6) k p j0 j1 : Rat) = (qTw (min l 6) k p j0 j1)))) ∧ (((fun X1 X2 X3 X4 X5 X6 X7 X8 X9 X10 X11 X12 X13 X14 : Prop => ∃ e0 : Nat, X1 ∧ X2 ∧ X3 ∧ X4 ∧ X5 ∧ X6 ∧ X7 ∧ ((0 : Int) = (e0 : Int)) ∧ X8 ∧ X9 ∧ X10 ∧ ((.agg #[.slice none 0 0, .int .i64 0] : Value) = .agg #[.slice none 0 0, .int .i64 0]) ∧ X11 ∧ (∀ j0, j0 < (min l 6) → ((j0 : Nat) = j0)) ∧ X12 ∧ (∀ j0, j0 < (max (min l 6) (g + 1)) → ((z % 7 : Nat) = (z % 7)) ∧ (∀ j1, j1 < (z % 7) → ((sqZ (min l 6) k p j0 j1 : Int) = (sqZ (min l 6) k p j0 j1)) ∧ ((oneD (min l 6) k d g 0 j0 j1 : Int) = (oneD (min l 6) k d g e0 j0 j1)))) ∧ X13 ∧ (∀ j0, j0 < g → ((j0 : Nat) = j0)) ∧ X14 ∧ (∀ j0, j0 < g → ((z % 7 : Nat) = (z % 7)) ∧ (∀ j1, j1 < (z % 7) → ((qTw (min l 6) k p j0 j1 : Rat) = (qTw (min l 6) k p j0 j1)))) ∧ (e0 ≤ (z % 7))) _ _ _ _ _ _ _ _ _ _ _ _ _ _) ∧ ∀ e : Nat, (e ≤ (z % 7)) → (((decide ((e : Int) < ((z % 7 : Nat) : Int))) = true → (true = true) ∧ _ ∧ (e < (z % 7)) ∧ (g < (max (min l 6) (g + 1))) ∧ (e < (z % 7)) ∧ (((sqZ (min l 6) k p g e : Int) = (sqZ (min l 6) k p g e)) ∧ ((1 : Int) = (oneD (min l 6) k d g (e + 1) g e))) ∧ (∀ t, t < (z % 7) → t ≠ e → (.agg (.cn (.ex (.int .i64 (sqZ (min l 6) k p g t))) (.cn (.ex (.int .i64 (oneD (min l 6) k d g (e + 1) g t))) (.nl))) : SV) = .agg (.cn (.ex (.int .i64 (sqZ (min l 6) k p g t))) (.cn (.ex (.int .i64 (oneD (min l 6) k d g e g t))) (.nl)))) ∧ (g < (max (min l 6) (g + 1))) ∧ ((.row 64 2 (fun i0 => .agg (.cn (.ex (.int .i64 (sqZ (min l 6) k p g i0))) (.cn (.ex (.int .i64 (oneD (min l 6) k d g (e + 1) g i0))) (.nl)))) (z % 7) : OB) = .row 64 2 (fun i0 => .agg (.cn (.ex (.int .i64 (sqZ (min l 6) k p g i0))) (.cn (.ex (.int .i64 (oneD (min l 6) k d g (e + 1) g i0))) (.nl)))) (z % 7)) ∧ (∀ t, t < (max (min l 6) (g + 1)) → t ≠ g → (.row 64 2 (fun i0 => .agg (.cn (.ex (.int .i64 (sqZ (min l 6) k p t i0))) (.cn (.ex (.int .i64 (oneD (min l 6) k d g (e + 1) t i0))) (.nl)))) (z % 7) : OB) = .row 64 2 (fun i0 => .agg (.cn (.ex (.int .i64 (sqZ (min l 6) k p t i0))) (.cn (.ex (.int .i64 (oneD (min l 6) k d g e t i0))) (.nl)))) (z % 7)) ∧ _ ∧ ((fun X1 X2 X3 X4 X5 X6 X7 X8 X9 X10 X11 X12 X13 X14 : Prop => ∃ e1 : Nat, X1 ∧ X2 ∧ X3 ∧ X4 ∧ X5 ∧ X6 ∧ X7 ∧ (((e + 1 : Nat) : Int) = (e1 : Int)) ∧ X8 ∧ X9 ∧ X10 ∧ ((.agg #[.slice none 0 0, .int .i64 0] : Value) = .agg #[.slice none 0 0, .int .i64 0]) ∧ X11 ∧ (∀ j0, j0 < (min l 6) → ((j0 : Nat) = j0)) ∧ X12 ∧ (∀ j0, j0 < (max (min l 6) (g + 1)) → ((z % 7 : Nat) = (z % 7)) ∧ (∀ j1, j1 < (z % 7) → ((sqZ (min l 6) k p j0 j1 : Int) = (sqZ (min l 6) k p j0 j1)) ∧ ((oneD (min l 6) k d g (e + 1) j0 j1 : Int) = (oneD (min l 6) k d g e1 j0 j1)))) ∧ X13 ∧ (∀ j0, j0 < g → ((j0 : Nat) = j0)) ∧ X14 ∧ (∀ j0, j0 < g → ((z % 7 : Nat) = (z % 7)) ∧ (∀ j1, j1 < (z % 7) → ((qTw (min l 6) k p j0 j1 : Rat) = (qTw (min l 6) k p j0 j1)))) ∧ (e1 ≤ (z % 7)) ∧ (z % 7 - e1 < z % 7 - e)) _ _ _ _ _ _ _ _ _ _ _ _ _ _)) ∧ ((decide ((e : Int) < ((z % 7 : Nat) : Int))) = false → _ ∧ (g < (max (min l 6) (g + 1))) ∧ (∀ j0, j0 < (z % 7) → True) ∧ (g + 1 ≤ 68719476736) ∧ (∀ j0, j0 < g → (.own (if j0 < g then 5 else 6) (if j0 < g then j0 else 0) : SV) = .own 5 j0) ∧ (∀ j0, j0 < 1 → ((6 : Nat) = (if g + j0 < g then 5 else 6)) ∧ ((0 : Nat) = (if g + j0 < g then g + j0 else 0))) ∧ _ ∧ ((fun X1 X2 X3 X4 X5 X6 X7 X8 X9 X10 : Prop => ∃ g1 : Nat, X1 ∧ X2 ∧ X3 ∧ X4 ∧ X5 ∧ (((g + 1 : Nat) : Int) = (g1 : Int)) ∧ X6 ∧ X7 ∧ X8 ∧ ((.agg #[.slice none 0 0, .int .i64 0] : Value) = .agg #[.slice none 0 0, .int .i64 0]) ∧ X9 ∧ (∀ j0, j0 < (min l 6) → ((j0 : Nat) = j0)) ∧ ((max (min l 6) (g + 1) : Nat) = (max (min l 6) g1)) ∧ (∀ j0, j0 < (max (min l 6) (g + 1)) → ((z % 7 : Nat) = (z % 7)) ∧ (∀ j1, j1 < (z % 7) → ((sqZ (min l 6) k p j0 j1 : Int) = (sqZ (min l 6) k p j0 j1)) ∧ ((oneD (min l 6) k d g e j0 j1 : Int) = (oneD (min l 6) k d g1 0 j0 j1)))) ∧ ((g + 1 : Nat) = g1) ∧ (∀ j0, j0 < (g + 1) → (((if j0 < g then 5 else 6 : Nat) = 6 ∧ (if j0 < g then j0 else 0 : Nat) = 0 ∧ (j0 : Nat) = g) ∨ ((if j0 < g then 5 else 6 : Nat) = 5 ∧ (if j0 < g then j0 else 0 : Nat) = j0 ∧ (j0 : Nat) ≠ g))) ∧ ((g1 : Nat) = g + 1) ∧ X10 ∧ (((z % 7 : Nat) = (z % 7)) ∧ (∀ j1, j1 < (z % 7) → ((oneQ (sqZ (min l 6) k p g j1) (oneD (min l 6) k d g e g j1) : Rat) = (qTw (min l 6) k p g j1)))) ∧ (∀ j0, j0 < g → ((z % 7 : Nat) = (z % 7)) ∧ (∀ j1, j1 < (z % 7) → ((qTw (min l 6) k p j0 j1 : Rat) = (qTw (min l 6) k p j0 j1)))) ∧ (g1 ≤ (z % 7)) ∧ (z % 7 - g1 < z % 7 - g)) _ _ _ _ _ _ _ _ _ _))))) ∧ ((decide ((g : Int) < ((min l 6 : Nat) : Int))) = false → _ ∧ _ ∧ _ ∧ _ ∧ _ ∧ _ ∧ (((6 : Nat) = 6 ∧ (0 : Nat) = 0 ∧ (g : Nat) = g) ∨ ((6 : Nat) = 3 ∧ (0 : Nat) = g ∧ (g : Nat) ≠ g)) ∧ _ ∧ _ ∧ _ ∧ ((.agg #[.slice none 0 0, .int .i64 0] : Value) = .agg #[.slice none 0 0, .int .i64 0]) ∧ _ ∧ (∀ j0, j0 < (min l 6) → (((3 : Nat) = 6 ∧ (j0 : Nat) = 0 ∧ (j0 : Nat) = g) ∨ ((3 : Nat) = 3 ∧ (j0 : Nat) = j0 ∧ (j0 : Nat) ≠ g))) ∧ ((max (min l 6) (g + 1) : Nat) = (max (min l 6) g) + 1) ∧ ((g : Nat) = (max (min l 6) g)) ∧ (((z % 7 : Nat) = (z % 7)) ∧ (∀ j1, j1 < (z % 7) → ((0 : Int) = (sqZ (min l 6) k p (max (min l 6) g) j1)) ∧ ((0 : Int) = (oneD (min l 6) k d g 0 (max (min l 6) g) j1)))) ∧ (∀ j0, j0 < (max (min l 6) g) → ((z % 7 : Nat) = (z % 7)) ∧ (∀ j1, j1 < (z % 7) → ((sqZ (min l 6) k p j0 j1 : Int) = (sqZ (min l 6) k p j0 j1)) ∧ ((oneD (min l 6) k d g 0 j0 j1 : Int) = (oneD (min l 6) k d g 0 j0 j1)))) ∧ _ ∧ (∀ j0, j0 < g → ((j0 : Nat) = j0)) ∧ _ ∧ (∀ j0, j0 < g → ((z % 7 : Nat) = (z % 7)) ∧ (∀ j1, j1 < (z % 7) → ((qTw (min l 6) k p j0 j1 : Rat) = (qTw (min l 6) k p j0 j1)))) ∧ (((fun X1 X2 X3 X4 X5 X6 X7 X8 X9 X10 X11 X12 X13 X14 : Prop => ∃ e0 : Nat, X1 ∧ X2 ∧ X3 ∧ X4 ∧ X5 ∧ X6 ∧ X7 ∧ ((0 : Int) = (e0 : Int)) ∧ X8 ∧ X9 ∧ X10 ∧ ((.agg #[.slice none 0 0, .int .i64 0] : Value) = .agg #[.slice none 0 0, .int .i64 0]) ∧ X11 ∧ (∀ j0, j0 < (min l 6) → ((j0 : Nat) = j0)) ∧ X12 ∧ (∀ j0, j0 < (max (min l 6) (g + 1)) → ((z % 7 : Nat) = (z % 7)) ∧ (∀ j1, j1 < (z % 7) → ((sqZ (min l 6) k p j0 j1 : Int) = (sqZ (min l 6) k p j0 j1)) ∧ ((oneD (min l 6) k d g 0 j0 j1 : Int) = (oneD (min l 6) k d g e0 j0 j1)))) ∧ X13 ∧ (∀ j0, j0 < g → ((j0 : Nat) = j0)) ∧ X14 ∧ (∀ j0, j0 < g → ((z % 7 : Nat) = (z % 7)) ∧ (∀ j1, j1 < (z % 7) → ((qTw (min l 6) k p j0 j1 : Rat) = (qTw (min l 6) k p j0 j1)))) ∧ (e0 ≤ (z % 7))) _ _ _ _ _ _ _ _ _ _ _ _ _ _) ∧ ∀ e : Nat, (e ≤ (z % 7)) → (((decide ((e : Int) < ((z % 7 : Nat) : Int))) = true → (true = true) ∧ _ ∧ (e < (z % 7)) ∧ (g < (max (min l 6) (g + 1))) ∧ (e < (z % 7)) ∧ (((sqZ (min l 6) k p g e : Int) = (sqZ (min l 6) k p g e)) ∧ ((1 : Int) = (oneD (min l 6) k d g (e + 1) g e))) ∧ (∀ t, t < (z % 7) → t ≠ e → (.agg (.cn (.ex (.int .i64 (sqZ (min l 6) k p g t))) (.cn (.ex (.int .i64 (oneD (min l 6) k d g (e + 1) g t))) (.nl))) : SV) = .agg (.cn (.ex (.int .i64 (sqZ (min l 6) k p g t))) (.cn (.ex (.int .i64 (oneD (min l 6) k d g e g t))) (.nl)))) ∧ (g < (max (min l 6) (g + 1))) ∧ ((.row 64 2 (fun i0 => .agg (.cn (.ex (.int .i64 (sqZ (min l 6) k p g i0))) (.cn (.ex (.int .i64 (oneD (min l 6) k d g (e + 1) g i0))) (.nl)))) (z % 7) : OB) = .row 64 2 (fun i0 => .agg (.cn (.ex (.int .i64 (sqZ (min l 6) k p g i0))) (.cn (.ex (.int .i64 (oneD (min l 6) k d g (e + 1) g i0))) (.nl)))) (z % 7)) ∧ (∀ t, t < (max (min l 6) (g + 1)) → t ≠ g → (.row 64 2 (fun i0 => .agg (.cn (.ex (.int .i64 (sqZ (min l 6) k p t i0))) (.cn (.ex (.int .i64 (oneD (min l 6) k d g (e + 1) t i0))) (.nl)))) (z % 7) : OB) = .row 64 2 (fun i0 => .agg (.cn (.ex (.int .i64 (sqZ (min l 6) k p t i0))) (.cn (.ex (.int .i64 (oneD (min l 6) k d g e t i0))) (.nl)))) (z % 7)) ∧ _ ∧ ((fun X1 X2 X3 X4 X5 X6 X7 X8 X9 X10 X11 X12 X13 X14 : Prop => ∃ e1 : Nat, X1 ∧ X2 ∧ X3 ∧ X4 ∧ X5 ∧ X6 ∧ X7 ∧ (((e + 1 : Nat) : Int) = (e1 : Int)) ∧ X8 ∧ X9 ∧ X10 ∧ ((.agg #[.slice none 0 0, .int .i64 0] : Value) = .agg #[.slice none 0 0, .int .i64 0]) ∧ X11 ∧ (∀ j0, j0 < (min l 6) → ((j0 : Nat) = j0)) ∧ X12 ∧ (∀ j0, j0 < (max (min l 6) (g + 1)) → ((z % 7 : Nat) = (z % 7)) ∧ (∀ j1, j1 < (z % 7) → ((sqZ (min l 6) k p j0 j1 : Int) = (sqZ (min l 6) k p j0 j1)) ∧ ((oneD (min l 6) k d g (e + 1) j0 j1 : Int) = (oneD (min l 6) k d g e1 j0 j1)))) ∧ X13 ∧ (∀ j0, j0 < g → ((j0 : Nat) = j0)) ∧ X14 ∧ (∀ j0, j0 < g → ((z % 7 : Nat) = (z % 7)) ∧ (∀ j1, j1 < (z % 7) → ((qTw (min l 6) k p j0 j1 : Rat) = (qTw (min l 6) k p j0 j1)))) ∧ (e1 ≤ (z % 7)) ∧ (z % 7 - e1 < z % 7 - e)) _ _ _ _ _ _ _ _ _ _ _ _ _ _)) ∧ ((decide ((e : Int) < ((z % 7 : Nat) : Int))) = false → _ ∧ (g < (max (min l 6) (g + 1))) ∧ (∀ j0, j0 < (z % 7) → True) ∧ (g + 1 ≤ 68719476736) ∧ (∀ j0, j0 < g → (.own (if j0 < g then 5 else 6) (if j0 < g then j0 else 0) : SV) = .own 5 j0) ∧ (∀ j0, j0 < 1 → ((6 : Nat) = (if g + j0 < g then 5 else 6)) ∧ ((0 : Nat) = (if g + j0 < g then g + j0 else 0))) ∧ _ ∧ ((fun X1 X2 X3 X4 X5 X6 X7 X8 X9 X10 : Prop => ∃ g1 : Nat, X1 ∧ X2 ∧ X3 ∧ X4 ∧ X5 ∧ (((g + 1 : Nat) : Int) = (g1 : Int)) ∧ X6 ∧ X7 ∧ X8 ∧ ((.agg #[.slice none 0 0, .int .i64 0] : Value) = .agg #[.slice none 0 0, .int .i64 0]) ∧ X9 ∧ (∀ j0, j0 < (min l 6) → ((j0 : Nat) = j0)) ∧ ((max (min l 6) (g + 1) : Nat) = (max (min l 6) g1)) ∧ (∀ j0, j0 < (max (min l 6) (g + 1)) → ((z % 7 : Nat) = (z % 7)) ∧ (∀ j1, j1 < (z % 7) → ((sqZ (min l 6) k p j0 j1 : Int) = (sqZ (min l 6) k p j0 j1)) ∧ ((oneD (min l 6) k d g e j0 j1 : Int) = (oneD (min l 6) k d g1 0 j0 j1)))) ∧ ((g + 1 : Nat) = g1) ∧ (∀ j0, j0 < (g + 1) → (((if j0 < g then 5 else 6 : Nat) = 6 ∧ (if j0 < g then j0 else 0 : Nat) = 0 ∧ (j0 : Nat) = g) ∨ ((if j0 < g then 5 else 6 : Nat) = 5 ∧ (if j0 < g then j0 else 0 : Nat) = j0 ∧ (j0 : Nat) ≠ g))) ∧ ((g1 : Nat) = g + 1) ∧ X10 ∧ (((z % 7 : Nat) = (z % 7)) ∧ (∀ j1, j1 < (z % 7) → ((oneQ (sqZ (min l 6) k p g j1) (oneD (min l 6) k d g e g j1) : Rat) = (qTw (min l 6) k p g j1)))) ∧ (∀ j0, j0 < g → ((z % 7 : Nat) = (z % 7)) ∧ (∀ j1, j1 < (z % 7) → ((qTw (min l 6) k p j0 j1 : Rat) = (qTw (min l 6) k p j0 j1)))) ∧ (g1 ≤ (z % 7)) ∧ (z % 7 - g1 < z % 7 - g)) _ _ _ _ _ _ _ _ _ _))))))) ∧ ((decide ((g : Int) < ((z % 7 : Nat) : Int))) = false → _ ∧ _ ∧ ((g : Nat) = (z % 7)) ∧ (∀ j0, j0 < g → ((z % 7 : Nat) = (z % 7)) ∧ (∀ j1, j1 < (z % 7) → ((qTw (min l 6) k p j0 j1 : Rat) = (qTw (min l 6) k p j0 j1))) ∧ (j0 < g)) ∧ _ ∧ _ ∧ _ ∧ ((.agg #[.slice none 0 0, .int .i64 0] : Value) = .agg #[.slice none 0 0, .int .i64 0]) ∧ _ ∧ (_ ∧ _ ∧ _)))))
  ⟨(fun _ _ => (fun _ _ => trivial)), sRows11O (z := z) (l := l) (k := k) (p := p) (d := d), ⟨0, (rf (true : Bool)), (rf 0), (rf 0), (rf ((z % 7 : Nat) : Int)), (rf 0), zo, (rf (z : Int)), (rf l), (leS (fun i0 => .sl 2 (fun i1 => .agg (.cn (.ex (.int .i64 (p i0 i1))) (.cn (.ex (.int .i64 (d i0 i1))) (.nl)))) (k i0)) l), rfl, (rf (min l 6 : Nat)), (fun j0 hj0 => rfl), zo, (fun j0 hj0 => ⟨rfl, (fun j1 hj1 => ⟨(by first | rfl | exact sqZ_lt zo | exact sqZ_ge zo | exact oneD_zero zo | exact oneD_new zo zo), (by first | rfl | exact sqZ_lt zo | exact sqZ_ge zo | exact oneD_zero zo | exact oneD_new zo zo)⟩)⟩), zo, zo, zo⟩, fun g hg => ⟨fun hc20 => have hc20 := dT hc20; have hgn : g < z % 7 := zo; ⟨(rf ((z % 7 : Nat) : Int)), (rf ((z % 7 : Nat) : Int)), zo, (fun j0 hj0 => ⟨rfl, rfl⟩), fun hc28 => have hc28 := dT hc28; ⟨(rf (true : Bool)), (rf 0), (rf 0), (rf ((z % 7 : Nat) : Int)), (rf 0), (rf (g : Int)), (rf (z : Int)), (rf l), (leS (fun i0 => .sl 2 (fun i1 => .agg (.cn (.ex (.int .i64 (p i0 i1))) (.cn (.ex (.int .i64 (d i0 i1))) (.nl)))) (k i0)) l), rfl, (rf (min l 6 : Nat)), (fun j0 hj0 => rfl), (rf (max (min l 6) g : Nat)), (fun j0 hj0 => ⟨rfl, (fun j1 hj1 => ⟨rfl, rfl⟩)⟩), (rf g), (fun j0 hj0 => rfl), (rf g), (fun j0 hj0 => ⟨rfl, (fun j1 hj1 => rfl)⟩), (rf (g : Int)), zo, zo, (rf (true : Bool)), (rf 0), (rf 0), (rf ((z % 7 : Nat) : Int)), (rf 0), (rf (g : Int)), (rf g), (rf (z : Int)), (rf l), (leS (fun i0 => .sl 2 (fun i1 => .agg (.cn (.ex (.int .i64 (p i0 i1))) (.cn (.ex (.int .i64 (d i0 i1))) (.nl)))) (k i0)) l), rfl, (rf (min l 6 : Nat)), (fun j0 hj0 => rfl), zo, (fun j0 hj0 => ⟨rfl, (fun j1 hj1 => ⟨rfl, rfl⟩)⟩), (rf g), (fun j0 hj0 => rfl), (rf g), (fun j0 hj0 => ⟨rfl, (fun j1 hj1 => rfl)⟩), ⟨0, (rf (true : Bool)), (rf 0), (rf 0), (rf ((z % 7 : Nat) : Int)), (rf 0), (rf (g : Int)), (rf g), zo, (rf (z : Int)), (rf l), (leS (fun i0 => .sl 2 (fun i1 => .agg (.cn (.ex (.int .i64 (p i0 i1))) (.cn (.ex (.int .i64 (d i0 i1))) (.nl)))) (k i0)) l), rfl, (rf (min l 6 : Nat)), (fun j0 hj0 => rfl), (rf (max (min l 6) (g + 1) : Nat)), (fun j0 hj0 => ⟨rfl, (fun j1 hj1 => ⟨rfl, zo⟩)⟩), (rf g), (fun j0 hj0 => rfl), (rf g), (fun j0 hj0 => ⟨rfl, (fun j1 hj1 => rfl)⟩), zo⟩, fun e he => ⟨fun hc35 => have hc35 := dT hc35; have hen : e < z % 7 := zo; ⟨rfl, (rf (e : Int)), zo, zo, zo, ⟨rfl, (oneD_at)⟩, (fun t ht hne => by simp only [oneD_ne hne]), zo, rfl, (fun t ht hne => by simp only [oneD_row hne]), (wI (g := e) zo), e + 1, (rf (true : Bool)), (rf 0), (rf 0), (rf ((z % 7 : Nat) : Int)), (rf 0), (rf (g : Int)), (rf g), zo, (rf (z : Int)), (rf l), (leS (fun i0 => .sl 2 (fun i1 => .agg (.cn (.ex (.int .i64 (p i0 i1))) (.cn (.ex (.int .i64 (d i0 i1))) (.nl)))) (k i0)) l), rfl, (rf (min l 6 : Nat)), (fun j0 hj0 => rfl), (rf (max (min l 6) (g + 1) : Nat)), (fun j0 hj0 => ⟨rfl, (fun j1 hj1 => ⟨rfl, zo⟩)⟩), (rf g), (fun j0 hj0 => rfl), (rf g), (fun j0 hj0 => ⟨rfl, (fun j1 hj1 => rfl)⟩), zo, zo⟩, fun hc35 => have hc35 := dF hc35; have hi3 : e = z % 7 := zo; ⟨sMake (n := z % 7) (p := fun i => sqZ (min l 6) k p g i) (d := fun i => oneD (min l 6) k d g e g i) zo (fun c _ => hw g e g c), zo, (fun _ _ => trivial), zo, (fun j0 hj0 => by rw [if_pos hj0, if_pos hj0]), (fun j0 hj0 => ⟨(by rw [if_neg zo]), (by rw [if_neg zo])⟩), (wI (g := g) zo), g + 1, (rf (true : Bool)), (rf 0), (rf 0), (rf ((z % 7 : Nat) : Int)), (rf 0), zo, (rf (z : Int)), (rf l), (leS (fun i0 => .sl 2 (fun i1 => .agg (.cn (.ex (.int .i64 (p i0 i1))) (.cn (.ex (.int .i64 (d i0 i1))) (.nl)))) (k i0)) l), rfl, (rf (min l 6 : Nat)), (fun j0 hj0 => rfl), zo, (fun j0 hj0 => ⟨rfl, (fun j1 hj1 => ⟨rfl, (oneD_next zo)⟩)⟩), zo, (fun j0 hj0 => (by first | omega | (split <;> omega))), zo, (rf g), ⟨rfl, (fun j1 hj1 => (oneQ_full zo))⟩, (fun j0 hj0 => ⟨rfl, (fun j1 hj1 => rfl)⟩), zo, zo⟩⟩⟩, fun hc28 => have hc28 := dF hc28; ⟨(rf (true : Bool)), (rf 0), (rf 0), (rf ((z % 7 : Nat) : Int)), (rf 0), (rf (g : Int)), (.inl ⟨rfl, rfl, by omega⟩), (rf (z : Int)), (rf l), (leS (fun i0 => .sl 2 (fun i1 => .agg (.cn (.ex (.int .i64 (p i0 i1))) (.cn (.ex (.int .i64 (d i0 i1))) (.nl)))) (k i0)) l), rfl, (rf (min l 6 : Nat)), (fun j0 hj0 => (.inr ⟨rfl, rfl, by omega⟩)), zo, zo, ⟨rfl, (fun j1 hj1 => ⟨(by first | rfl | exact sqZ_lt zo | exact sqZ_ge zo | exact oneD_zero zo | exact oneD_new zo zo), (by first | rfl | exact sqZ_lt zo | exact sqZ_ge zo | exact oneD_zero zo | exact oneD_new zo zo)⟩)⟩, (fun j0 hj0 => ⟨rfl, (fun j1 hj1 => ⟨rfl, rfl⟩)⟩), (rf g), (fun j0 hj0 => rfl), (rf g), (fun j0 hj0 => ⟨rfl, (fun j1 hj1 => rfl)⟩), ⟨0, (rf (true : Bool)), (rf 0), (rf 0), (rf ((z % 7 : Nat) : Int)), (rf 0), (rf (g : Int)), (rf g), zo, (rf (z : Int)), (rf l), (leS (fun i0 => .sl 2 (fun i1 => .agg (.cn (.ex (.int .i64 (p i0 i1))) (.cn (.ex (.int .i64 (d i0 i1))) (.nl)))) (k i0)) l), rfl, (rf (min l 6 : Nat)), (fun j0 hj0 => rfl), (rf (max (min l 6) (g + 1) : Nat)), (fun j0 hj0 => ⟨rfl, (fun j1 hj1 => ⟨rfl, zo⟩)⟩), (rf g), (fun j0 hj0 => rfl), (rf g), (fun j0 hj0 => ⟨rfl, (fun j1 hj1 => rfl)⟩), zo⟩, fun e he => ⟨fun hc35 => have hc35 := dT hc35; have hen : e < z % 7 := zo; ⟨rfl, (rf (e : Int)), zo, zo, zo, ⟨rfl, (oneD_at)⟩, (fun t ht hne => by simp only [oneD_ne hne]), zo, rfl, (fun t ht hne => by simp only [oneD_row hne]), (wI (g := e) zo), e + 1, (rf (true : Bool)), (rf 0), (rf 0), (rf ((z % 7 : Nat) : Int)), (rf 0), (rf (g : Int)), (rf g), zo, (rf (z : Int)), (rf l), (leS (fun i0 => .sl 2 (fun i1 => .agg (.cn (.ex (.int .i64 (p i0 i1))) (.cn (.ex (.int .i64 (d i0 i1))) (.nl)))) (k i0)) l), rfl, (rf (min l 6 : Nat)), (fun j0 hj0 => rfl), (rf (max (min l 6) (g + 1) : Nat)), (fun j0 hj0 => ⟨rfl, (fun j1 hj1 => ⟨rfl, zo⟩)⟩), (rf g), (fun j0 hj0 => rfl), (rf g), (fun j0 hj0 => ⟨rfl, (fun j1 hj1 => rfl)⟩), zo, zo⟩, fun hc35 => have hc35 := dF hc35; have hi3 : e = z % 7 := zo; ⟨sMake (n := z % 7) (p := fun i => sqZ (min l 6) k p g i) (d := fun i => oneD (min l 6) k d g e g i) zo (fun c _ => hw g e g c), zo, (fun _ _ => trivial), zo, (fun j0 hj0 => by rw [if_pos hj0, if_pos hj0]), (fun j0 hj0 => ⟨(by rw [if_neg zo]), (by rw [if_neg zo])⟩), (wI (g := g) zo), g + 1, (rf (true : Bool)), (rf 0), (rf 0), (rf ((z % 7 : Nat) : Int)), (rf 0), zo, (rf (z : Int)), (rf l), (leS (fun i0 => .sl 2 (fun i1 => .agg (.cn (.ex (.int .i64 (p i0 i1))) (.cn (.ex (.int .i64 (d i0 i1))) (.nl)))) (k i0)) l), rfl, (rf (min l 6 : Nat)), (fun j0 hj0 => rfl), zo, (fun j0 hj0 => ⟨rfl, (fun j1 hj1 => ⟨rfl, (oneD_next zo)⟩)⟩), zo, (fun j0 hj0 => (by first | omega | (split <;> omega))), zo, (rf g), ⟨rfl, (fun j1 hj1 => (oneQ_full zo))⟩, (fun j0 hj0 => ⟨rfl, (fun j1 hj1 => rfl)⟩), zo, zo⟩⟩⟩⟩, fun hc20 => have hc20 := dF hc20; have hi2 : g = z % 7 := zo; ⟨(rf 0), (rf ((z % 7 : Nat) : Int)), hi2, (fun j0 hj0 => ⟨rfl, (fun j1 hj1 => rfl), zo⟩), (rf (z : Int)), (rf l), (leS (fun i0 => .sl 2 (fun i1 => .agg (.cn (.ex (.int .i64 (p i0 i1))) (.cn (.ex (.int .i64 (d i0 i1))) (.nl)))) (k i0)) l), rfl, (sMatOf (m := z % 7) (n := z % 7) (q := fun r c => qTw (min l 6) k p r c) zo zo), (rf (z % 7 : Nat)), (leS (fun i0 => .sl 3 (fun i1 => .rat (qTw (min l 6) k p i0 i1)) (z % 7)) (z % 7)), (rf ((z % 7 : Nat) : Int))⟩⟩⟩
theorem q_bl {q : Rat} (h : szq q ≤ 2) : Wd.blen q.num.natAbs ≤ 128 ∧ Wd.blen q.den ≤ 128 := by
 unfold szq nw at h
 omega
theorem qT_den {m : Nat} {k : Nat → Nat} {p : Nat → Nat → Int} {r c : Nat} : (qTw m k p r c).den = 1 := by
 show (if (1 : Int) = 0 then ((sqZ m k p r c : Int) : Rat) else Rat.divInt (sqZ m k p r c) 1).den = 1
 rw [if_neg (by decide), show Rat.divInt (sqZ m k p r c) 1 = ((sqZ m k p r c : Int) : Rat) by have := Rat.num_divInt_den (((sqZ m k p r c : Int) : Rat)); simpa using this]
 exact Rat.den_intCast _
theorem bd_test {P Q R : Prop} [Decidable P] [Decidable Q] [Decidable R] (p : P) (q : Q) (r : R) : (bif (bif (bif (bif (bif (bif true then true else false) then true else false) then true else false) then decide P else false) then decide Q else false) then decide R else false) = true := by simp [p, q, r]
def fct : Nat → Nat
 | 0 => 1
 | n + 1 => (n + 1) * fct n
def prN (f : Nat → Nat) : Nat → Nat
 | 0 => 1
 | n + 1 => prN f n * f n
def prQ (f : Nat → Rat) : Nat → Rat
 | 0 => 1
 | n + 1 => prQ f n * f n
def Whl (x : Rat) (B : Nat) : Prop := ∃ z : Int, x = (z : Rat) ∧ z.natAbs ≤ B
theorem Whl.mono {x : Rat} {B C : Nat} (h : Whl x B) (hBC : B ≤ C) : Whl x C := let ⟨z, e, k⟩ := h; ⟨z, e, Nat.le_trans k hBC⟩
theorem Whl.mul {x y : Rat} {B C : Nat} (h : Whl x B) (k : Whl y C) : Whl (x * y) (B * C) := by
 obtain ⟨z, e, hz⟩ := h
 obtain ⟨u, f, hu⟩ := k
 exact ⟨z * u, by rw [e, f, Rat.intCast_mul], by rw [Int.natAbs_mul]; exact Nat.mul_le_mul hz hu⟩
theorem Whl.add {x y : Rat} {B C : Nat} (h : Whl x B) (k : Whl y C) : Whl (x + y) (B + C) := by
 obtain ⟨z, e, hz⟩ := h
 obtain ⟨u, f, hu⟩ := k
 exact ⟨z + u, by rw [e, f, Rat.intCast_add], by have := Int.natAbs_add_le z u; omega⟩
theorem Whl.sum {f : Nat → Rat} {B : Nat} : ∀ m, (∀ i, i < m → Whl (f i) B) → Whl (sumQ f m) (m * B)
 | 0, _ => ⟨0, rfl, Nat.zero_le _⟩
 | m + 1, h => by rw [Nat.succ_mul]; exact (Whl.sum m fun i hi => h i zo).add (h m zo)
theorem sgn_whl : ∀ r, Whl (sgn r) 1
 | 0 => ⟨1, rfl, Nat.le_refl _⟩
 | r + 1 => by
  obtain ⟨z, e, h⟩ := sgn_whl r
  exact ⟨-z, by show - sgn r = _; rw [e, Rat.intCast_neg], by rw [Int.natAbs_neg]; exact h⟩
theorem det_whl {E : Nat} : ∀ n {A : Nat → Nat → Rat}, (∀ i, i < n → ∀ j, j < n → Whl (A i j) E) → Whl (cdet n A) (fct n * E ^ n)
 | 0, _, _ => ⟨1, rfl, by show 1 ≤ 1 * E ^ 0; rw [Nat.pow_zero]; exact Nat.le_refl _⟩
 | n + 1, A, h => by
  have := Whl.sum (f := fun r => sgn r * A r 0 * cdet n (minor A r 0)) (B := 1 * E * (fct n * E ^ n)) (n + 1) fun r hr =>
   ((sgn_whl r).mul (h r hr 0 zo)).mul (det_whl n fun i hi j hj => h _ (skp_lt hi) _ (skp_lt hj))
  refine this.mono (Nat.le_of_eq ?_)
  show (n + 1) * (1 * E * (fct n * E ^ n)) = (n + 1) * fct n * E ^ (n + 1)
  rw [Nat.pow_succ, Nat.one_mul, Nat.mul_left_comm E, Nat.mul_comm E, Nat.mul_assoc]
theorem pr_le {d : Nat → Nat} {F : Nat} : ∀ n, (∀ k, k < n → d k ≤ F) → prN d n ≤ F ^ n
 | 0, _ => Nat.le_refl _
 | n + 1, h => by rw [Nat.pow_succ]; exact Nat.mul_le_mul (pr_le n fun k hk => h k zo) (h n zo)
theorem pr_pos {d : Nat → Nat} : ∀ n, (∀ k, k < n → d k ≠ 0) → prN d n ≠ 0
 | 0, _ => Nat.one_ne_zero
 | n + 1, h => Nat.mul_ne_zero (pr_pos n fun k hk => h k zo) (h n zo)
theorem pr_take {d : Nat → Nat} {F j : Nat} : ∀ n, j < n → (∀ k, k < n → d k ≤ F) → ∃ r, prN d n = d j * r ∧ r * F ≤ F ^ n
 | 0, h, _ => absurd h (Nat.not_lt_zero j)
 | n + 1, h, hd => by
  by_cases e : j = n
  ·subst e
   exact ⟨prN d j, Nat.mul_comm _ _, by rw [Nat.pow_succ]; exact Nat.mul_le_mul_right _ (pr_le j fun k hk => hd k zo)⟩
  ·obtain ⟨r, hr, hF⟩ := pr_take (j := j) n zo fun k hk => hd k zo
   refine ⟨r * d n, by show prN d n * d n = _; rw [hr, Nat.mul_assoc], ?_⟩
   rw [Nat.pow_succ, Nat.mul_right_comm]
   exact Nat.mul_le_mul hF (hd n zo)
theorem den_mul (x : Rat) : (x.den : Rat) * x = (x.num : Rat) := by
 have h := Rat.num_divInt_den x
 have hd : (x.den : Rat) ≠ 0 := fun e => x.den_nz (Rat.natCast_inj.1 e)
 rw [Rat.divInt_eq_div, Rat.intCast_natCast, Rat.div_def] at h
 have e : (x.den : Rat) * ((x.num : Rat) * (x.den : Rat)⁻¹) = (x.num : Rat) := by
  rw [Rat.mul_comm, Rat.mul_assoc, Rat.mul_comm _ (x.den : Rat), Rat.mul_inv_cancel _ hd, Rat.mul_one]
 rwa [h] at e
theorem scale_whl {w : Nat → Rat} {F j n : Nat} (hj : j < n) (hn : ∀ k, k < n → (w k).num.natAbs ≤ F ∧ (w k).den ≤ F) : Whl ((prN (fun k => (w k).den) n : Rat) * w j) (F ^ n) := by
 obtain ⟨r, hr, hF⟩ := pr_take (d := fun k => (w k).den) (F := F) n hj fun k hk => (hn k hk).2
 refine ⟨(w j).num * (r : Int), ?_, ?_⟩
 ·rw [hr, Rat.natCast_mul, Rat.intCast_mul, ← den_mul (w j), Rat.intCast_natCast]; grind
 ·rw [Int.natAbs_mul, Int.natAbs_natCast, Nat.mul_comm]
  exact Nat.le_trans (Nat.mul_le_mul_left r (hn j hj).1) hF
theorem prQ_nat {d : Nat → Nat} : ∀ n, prQ (fun i => (d i : Rat)) n = (prN d n : Rat)
 | 0 => rfl
 | n + 1 => by show prQ _ n * _ = ((prN d n * d n : Nat) : Rat); rw [prQ_nat n, Rat.natCast_mul]
theorem cdet_rows {n : Nat} {A : Nat → Nat → Rat} {s : Nat → Rat} : ∀ k, k ≤ n → cdet n (fun i j => if i < k then s i * A i j else A i j) = prQ s k * cdet n A
 | 0, _ => by
  rw [cdet_congr n (B := A) fun i _ j _ => if_neg (Nat.not_lt_zero i)]
  show _ = 1 * cdet n A; grind
 | k + 1, h => by
  have ih := cdet_rows (n := n) (A := A) (s := s) k zo
  have h1 := cdet_mulR (n := n) (fun i j => if i < k then s i * A i j else A i j) (r := k) (s k) zo
  rw [ih] at h1
  rw [cdet_congr n (B := setR (fun i j => if i < k then s i * A i j else A i j) k fun j => s k * (fun i j => if i < k then s i * A i j else A i j) k j) fun i _ j _ => by
   show (if i < k + 1 then s i * A i j else A i j) = if i = k then s k * (if k < k then s k * A k j else A k j) else if i < k then s i * A i j else A i j
   by_cases e : i = k
   ·subst e; rw [if_pos (Nat.lt_succ_self i), if_pos rfl, if_neg (Nat.lt_irrefl i)]
   ·by_cases l : i < k
    ·rw [if_pos zo, if_neg e, if_pos l]
    ·rw [if_neg zo, if_neg e, if_neg l]]
  rw [h1]
  show _ = prQ s k * s k * cdet n A
  grind
theorem cdet_rows' {n : Nat} {A : Nat → Nat → Rat} {s : Nat → Rat} : cdet n (fun i j => s i * A i j) = prQ s n * cdet n A := by
 rw [← cdet_rows n (Nat.le_refl n)]
 exact cdet_congr n fun i hi j _ => (if_pos hi).symm
theorem frac_le {x : Rat} {a b : Int} (hb : b ≠ 0) (h : x * (b : Rat) = (a : Rat)) : x.num.natAbs ≤ a.natAbs ∧ x.den ≤ b.natAbs := by
 have hb' : (b : Rat) ≠ 0 := fun e => hb (Rat.intCast_inj.1 e)
 have e : x = Rat.divInt a b := by rw [Rat.divInt_eq_div, ← h]; grind
 rw [e, new_num a b hb, new_den a b hb]
 have k : ∀ (s : Bool) (x : Nat), (signed s x).natAbs = x := fun s x => by cases s <;> simp [signed]
 rw [k]
 exact ⟨Nat.div_le_self _ _, Nat.div_le_self _ _⟩
def ovr (n : Nat) : Nat := (n * Wd.blen n + 1) / 2 + 1
theorem fct_ovr {n : Nat} (h : n ≤ 6) : fct n < 2 ^ ovr n := by
 have : n = 0 ∨ n = 1 ∨ n = 2 ∨ n = 3 ∨ n = 4 ∨ n = 5 ∨ n = 6 := by omega
 rcases this with e | e | e | e | e | e | e <;> subst e <;> decide +kernel
theorem whl_bits {n e B : Nat} (hn : n ≤ 6) (h : B ≤ fct n * (2 ^ e) ^ n) : Wd.blen B ≤ n * e + ovr n := by
 rw [Wd.blen_le, Nat.pow_add, Nat.mul_comm n e, Nat.pow_mul, Nat.mul_comm]
 refine Nat.lt_of_le_of_lt h (Nat.mul_lt_mul_of_pos_right (fct_ovr hn) ?_)
 exact Nat.pow_pos (Nat.pow_pos (by decide))
theorem blen_pow {x b : Nat} (h : Wd.blen x ≤ b) : x ≤ 2 ^ b := Nat.le_of_lt ((Wd.blen_le x b).1 h)
theorem blen_up {x y : Nat} (h : x ≤ y) : Wd.blen x ≤ Wd.blen y := (Wd.blen_le x _).2 (Nat.lt_of_le_of_lt h (Wd.lt_two_pow_blen y))
theorem det_bits {n b : Nat} {A : Nat → Nat → Rat} (hn : n ≤ 6) (h1 : ∀ i, i < n → ∀ j, j < n → (A i j).den = 1) (hb : ∀ i, i < n → ∀ j, j < n → Wd.blen (A i j).num.natAbs ≤ b) :
  (cdet n A).den = 1 ∧ Wd.blen (cdet n A).num.natAbs ≤ n * b + ovr n := by
 obtain ⟨z, e, h⟩ := det_whl (E := 2 ^ b) n (A := A) fun i hi j hj => ⟨(A i j).num, by
  have := den_mul (A i j)
  rw [h1 i hi j hj] at this
  rw [← this]; show A i j = (1 : Rat) * A i j; grind, blen_pow (hb i hi j hj)⟩
 rw [e]
 exact ⟨rfl, whl_bits hn h⟩
def rowD (w : Nat → Nat → Rat) (n i : Nat) : Nat := prN (fun k => (w i k).den) n
theorem rowD_ne {w : Nat → Nat → Rat} {n i : Nat} : rowD w n i ≠ 0 := pr_pos n fun k _ => (w i k).den_nz
theorem det_bitsQ {n b : Nat} {A : Nat → Nat → Rat} (hn : n ≤ 6) (hb : ∀ i, i < n → ∀ j, j < n → Wd.blen (A i j).num.natAbs ≤ b ∧ Wd.blen (A i j).den ≤ b) :
  Wd.blen (cdet n A).num.natAbs ≤ n * (n * b) + ovr n ∧ Wd.blen (cdet n A).den ≤ n * n * b + 1 := by
 have hs : ∀ i, i < n → ∀ j, j < n → Whl ((rowD A n i : Rat) * A i j) ((2 ^ b) ^ n) := fun i hi j hj =>
  scale_whl (w := A i) (F := 2 ^ b) hj fun k hk => ⟨blen_pow (hb i hi k hk).1, blen_pow (hb i hi k hk).2⟩
 obtain ⟨z, e, h⟩ := det_whl n hs
 rw [cdet_rows' (s := fun i => (rowD A n i : Rat)), prQ_nat] at e
 have hP : prN (rowD A n) n ≤ ((2 ^ b) ^ n) ^ n := pr_le n fun i hi => pr_le n fun k hk => blen_pow (hb i hi k hk).2
 have hP0 : prN (rowD A n) n ≠ 0 := pr_pos n fun i _ => rowD_ne
 have k := frac_le (x := cdet n A) (a := z) (b := (prN (rowD A n) n : Nat)) zo (by rw [Rat.intCast_natCast, ← e]; grind)
 rw [Int.natAbs_natCast] at k
 refine ⟨Nat.le_trans (blen_up k.1) (whl_bits hn (by rw [Nat.mul_comm n b, Nat.pow_mul]; exact h)), ?_⟩
 rw [Wd.blen_le, Nat.pow_succ]
 have h4 : ((2 ^ b) ^ n) ^ n = 2 ^ (n * n * b) := by rw [← Nat.pow_mul, ← Nat.pow_mul, Nat.mul_assoc, Nat.mul_comm, Nat.mul_assoc]
 have h5 : 0 < 2 ^ (n * n * b) := Nat.pow_pos (by decide)
 omega
open Go.RowKit
theorem bd_sum {n b x y : Nat} (h1 : x ≤ n * (n * b) + ovr n) (h2 : y ≤ n * n * b + 1) : x + y ≤ ratV n b := by
 have e : ratV n b = (n * (n * b) + ovr n) + n * n * b + 1 := rfl
 omega
theorem sBoundDets {z0 l0 : Nat} {k0 : Nat → Nat} {p0 d0 : Nat → Nat → Int} (h0 : ∀ r, r < l0 → ∀ c, c < k0 r → Wd64 (p0 r c) ∧ Wd64 (d0 r c)) : CallOK Try.prog 3 [.agg (.cn (.ex (.int .u8 (z0 : Int))) (.cn (.sl 1 (gE k0 p0 d0) l0) (.nl)))] (.ex (.bool true)) [] := by
 have hn : z0 % 7 ≤ 6 := by omega
 have hwp : ∀ r c, Wd64 (sqZ (min l0 6) k0 p0 r c) := fun r c => sqZ_wd fun hr c hc => (h0 r zo c hc).1
 have hwd : ∀ r c, Wd64 (sqZ (min l0 6) k0 d0 r c) := fun r c => sqZ_wd fun hr c hc => (h0 r zo c hc).2
 have sF : ∀ i j, szq (qFw (min l0 6) k0 p0 d0 i j) ≤ 2 := fun i j => szq_one (hwp i j) (hwd i j)
 have bF : ∀ i, i < z0 % 7 → ∀ j, j < z0 % 7 → _ := fun i _ j _ => q_bl (sF i j)
 have sT : ∀ i j, szq (qTw (min l0 6) k0 p0 i j) ≤ 2 := fun i j => szq_one (hwp i j) (by decide)
 have bT : ∀ i, i < z0 % 7 → ∀ j, j < z0 % 7 → _ := fun i _ j _ => q_bl (sT i j)
 have lT := rB_le (a := 0) (by decide) (z0 % 7) bT
 have lF := rB_le (a := 0) (by decide) (z0 % 7) bF
 have dT := det_bits hn (fun i _ j _ => qT_den) (fun i hi j hj => ((rB_ge (a := 0) (z0 % 7)).2 i hi j hj).1) (A := qTw (min l0 6) k0 p0)
 have dF := det_bitsQ hn (fun i hi j hj => (rB_ge (a := 0) (z0 % 7)).2 i hi j hj) (A := qFw (min l0 6) k0 p0 d0)
 exact kP (ch := [.reg 1 [(0, .callS (.ex (.bool true)) [])], .dec 14 false, .reg 3 [(1, .callS (.agg (.cn (.sl 1 (fun i0 => .sl 3 (fun i1 => .rat (qTw (min l0 6) k0 p0 i0 i1)) (z0 % 7)) (z0 % 7)) (.cn (.ex (.int .i64 ((z0 % 7 : Nat) : Int))) (.nl)))) []), (3, .callS (.agg (.cn (.sl 1 (fun i0 => .sl 3 (fun i1 => .rat (qFw (min l0 6) k0 p0 d0 i0 i1)) (z0 % 7)) (z0 % 7)) (.cn (.ex (.int .i64 ((z0 % 7 : Nat) : Int))) (.nl)))) [])], .reg 4 [(1, .callS (.cn (.rat (cdet (z0 % 7) (qTw (min l0 6) k0 p0))) (.cn (.ex (.bool true)) (.nl))) [])], .reg 5 [(1, .callS (.cn (.rat (cdet (z0 % 7) (qFw (min l0 6) k0 p0 d0))) (.cn (.ex (.bool true)) (.nl))) [])], .reg 6 [(1, .callS (.ex (.int .i64 ((z0 % 7 : Nat) : Int))) []), (3, .call [.agg (.cn (.sl 1 (fun i0 => .sl 3 (fun i1 => .rat (qTw (min l0 6) k0 p0 i0 i1)) (z0 % 7)) (z0 % 7)) (.cn (.ex (.int .i64 ((z0 % 7 : Nat) : Int))) (.nl))), .sl 3 (fun _ => .rat 0) 0] (.ex (.int .i64 (fB (fun _ => 0) (rB (qTw (min l0 6) k0 p0) (z0 % 7) 0 (z0 % 7)) 0 : Int))) []), (4, .callS (.cn (.ex (.int .i64 (detV (z0 % 7) (fB (fun _ => 0) (rB (qTw (min l0 6) k0 p0) (z0 % 7) 0 (z0 % 7)) 0) : Int))) (.cn (.ex (.bool true)) (.nl))) [])], .reg 7 [(1, .callS (.ex (.int .i64 ((z0 % 7 : Nat) : Int))) []), (3, .call [.agg (.cn (.sl 1 (fun i0 => .sl 3 (fun i1 => .rat (qFw (min l0 6) k0 p0 d0 i0 i1)) (z0 % 7)) (z0 % 7)) (.cn (.ex (.int .i64 ((z0 % 7 : Nat) : Int))) (.nl))), .sl 3 (fun _ => .rat 0) 0] (.ex (.int .i64 (fB (fun _ => 0) (rB (qFw (min l0 6) k0 p0 d0) (z0 % 7) 0 (z0 % 7)) 0 : Int))) []), (4, .callS (.cn (.ex (.int .i64 (ratV (z0 % 7) (fB (fun _ => 0) (rB (qFw (min l0 6) k0 p0 d0) (z0 % 7) 0 (z0 % 7)) 0) : Int))) (.cn (.ex (.bool true)) (.nl))) [])], .reg 8 [(12, .callS (.ex (.bool (decide ((cdet (z0 % 7) (qTw (min l0 6) k0 p0)).den = 1)))) []), (16, .callS (.int ((cdet (z0 % 7) (qTw (min l0 6) k0 p0)).num)) []), (17, .callS (.nat (((cdet (z0 % 7) (qTw (min l0 6) k0 p0)).num).natAbs)) []), (18, .callS (.ex (.int .i64 (Wd.blen (((cdet (z0 % 7) (qTw (min l0 6) k0 p0)).num).natAbs) : Int))) []), (24, .callS (.ex (.int .i64 ((Wd.blen (cdet (z0 % 7) (qFw (min l0 6) k0 p0 d0)).num.natAbs + Wd.blen (cdet (z0 % 7) (qFw (min l0 6) k0 p0 d0)).den : Nat) : Int))) [])]]) Try.func3 (let y3 := (bif true then true else false); let y4 := (bif y3 then true else false); let y2 := (bif y4 then true else false); let y0 := (bif y2 then (decide ((cdet (z0 % 7) (qTw (min l0 6) k0 p0)).den = 1)) else false); let y1 := (bif y0 then (decide (((Wd.blen (((cdet (z0 % 7) (qTw (min l0 6) k0 p0)).num).natAbs) : Nat) : Int) ≤ (detV (z0 % 7) (fB (fun _ => 0) (rB (qTw (min l0 6) k0 p0) (z0 % 7) 0 (z0 % 7)) 0) : Int))) else false); (∀ j0, j0 < l0 → (∀ j1, j1 < (k0 j0) → True)) ∧ _ ∧ ((!true) = false) ∧ _ ∧ _ ∧ _ ∧ _ ∧ _ ∧ _ ∧ _ ∧ _ ∧ _ ∧ _ ∧ _ ∧ _ ∧ _ ∧ _ ∧ _ ∧ _ ∧ _ ∧ _ ∧ (true = true → (true == true) = true) ∧ (y3 = true → (y3 == true) = true) ∧ (y4 = true → (y4 == true) = true) ∧ ((y2 == true) = true → (y2 == true) = true) ∧ ((y2 == true) = true → _) ∧ (y2 = true → (y2 == true) = true) ∧ ((y0 == true) = true → (y0 == true) = true) ∧ ((y0 == true) = true → _) ∧ ((y0 == true) = true → (y0 == true) = true) ∧ ((y0 == true) = true → _) ∧ ((y0 == true) = true → (y0 == true) = true) ∧ ((y0 == true) = true → _) ∧ ((y0 == true) = true → (y0 == true) = true) ∧ ((y0 == true) = true → (y0 == true) = true) ∧ (y0 = true → (y0 == true) = true) ∧ ((y1 == true) = true → (y1 == true) = true) ∧ ((y1 == true) = true → _) ∧ ((y1 == true) = true → (y1 == true) = true) ∧ ((y1 == true) = true → (y1 == true) = true) ∧ (y1 = true → (y1 == true) = true) ∧ (((bif y1 then (decide (((Wd.blen (cdet (z0 % 7) (qFw (min l0 6) k0 p0 d0)).num.natAbs + Wd.blen (cdet (z0 % 7) (qFw (min l0 6) k0 p0 d0)).den : Nat) : Int) ≤ (ratV (z0 % 7) (fB (fun _ => 0) (rB (qFw (min l0 6) k0 p0 d0) (z0 % 7) 0 (z0 % 7)) 0) : Int))) else false : Bool) = true)))
  ⟨(fun _ _ => (fun _ _ => trivial)), sAwake15, rfl, (sSquareT (z := z0) (l := l0) (k := k0) (p := p0) (d := d0) h0), (sSquareF (z := z0) (l := l0) (k := k0) (p := p0) (d := d0) h0), (sDet (n := z0 % 7) (q := (qTw (min l0 6) k0 p0)) (s := 2) hn (by decide) (fun i _ j _ => sT i j)), (sDet (n := z0 % 7) (q := (qFw (min l0 6) k0 p0 d0)) (s := 2) hn (by decide) (fun i _ j _ => sF i j)), sMatRows (m := z0 % 7) (n := z0 % 7) (q := (qTw (min l0 6) k0 p0)), (sBits15 (m := z0 % 7) (n := z0 % 7) (k := 0) (q := (qTw (min l0 6) k0 p0)) (v := (fun _ => 0)) zo zo zo), (rf (z0 % 7 : Nat)), (leS (fun i0 => .sl 3 (fun i1 => .rat (qTw (min l0 6) k0 p0 i0 i1)) (z0 % 7)) (z0 % 7)), (rf ((z0 % 7 : Nat) : Int)), (rf 0), (sBDet (n := z0 % 7) (b := fB (fun _ => 0) (rB (qTw (min l0 6) k0 p0) (z0 % 7) 0 (z0 % 7)) 0) zo (Nat.le_trans lT (by decide))), sMatRows (m := z0 % 7) (n := z0 % 7) (q := (qFw (min l0 6) k0 p0 d0)), (sBits15 (m := z0 % 7) (n := z0 % 7) (k := 0) (q := (qFw (min l0 6) k0 p0 d0)) (v := (fun _ => 0)) zo zo zo), (rf (z0 % 7 : Nat)), (leS (fun i0 => .sl 3 (fun i1 => .rat (qFw (min l0 6) k0 p0 d0 i0 i1)) (z0 % 7)) (z0 % 7)), (rf ((z0 % 7 : Nat) : Int)), (rf 0), (sBRational (n := z0 % 7) (b := fB (fun _ => 0) (rB (qFw (min l0 6) k0 p0 d0) (z0 % 7) 0 (z0 % 7)) 0) zo (Nat.le_trans lF (by decide))), (by first | (simp; done) | (simp; omega)), (by first | (simp; done) | (simp; omega)), (by first | (simp; done) | (simp; omega)), id, (fun hg => sRatIsInt (q := cdet (z0 % 7) (qTw (min l0 6) k0 p0))), (by first | (simp; done) | (simp; omega)), id, (fun hg => sRatNum (q := cdet (z0 % 7) (qTw (min l0 6) k0 p0))), id, (fun hg => sIntAbs (z := (cdet (z0 % 7) (qTw (min l0 6) k0 p0)).num)), id, (fun hg => sNatBits (x := ((cdet (z0 % 7) (qTw (min l0 6) k0 p0)).num).natAbs)), id, id, (by first | (simp; done) | (simp; omega)), id, (fun hg => sRatBits (q := cdet (z0 % 7) (qFw (min l0 6) k0 p0 d0))), id, id, (by first | (simp; done) | (simp; omega)), (bd_test dT.1 (Int.ofNat_le.2 dT.2) (Int.ofNat_le.2 (by have h1 := dF.1; have h2 := dF.2; exact bd_sum h1 h2)))⟩
open Go.ChangeShapes Go.WideShapes Go.ChangeAt Go.RowKit
section
variable {H : Type} {enc : TypeId × Value → H} {P : Program}
theorem trodAll_below (hl : laidOutB P = true) {W W' : World} (hb : Below W.heap.size W W') : ∀ {ts : List TypeId} {vs : List Value} {ds : List (DataW H)} {ps : List MemPlace},
  (∀ t ∈ ts, P.readableRec t = true ∧ t < P.types.size) → DataW.TrodAll enc P W 0 (fun _ => true) true ts vs ds ps → (∀ x ∈ ps, x.block < W.heap.size) →
  DataW.TrodAll enc P W' 0 (fun b => decide (b < W.heap.size)) true ts vs ds ps
 | [], _, _, _, _, h, _ => by
  obtain ⟨rfl, rfl, rfl⟩ := trodAll_nil h
  exact trodAll_mk0
 | t :: ts, _, _, _, ht, h, hlt => by
  obtain ⟨v, vs1, d, ds1, a, b, rfl, rfl, rfl, h1, h2⟩ := trodAll_cons h
  have ht0 := ht t (List.mem_cons_self ..)
  exact trodAll_cons_mk (Below.trod hl ht0.1 ht0.2 h1 hb (fun x hx => hlt x (List.mem_append.2 (.inl hx))))
   (trodAll_below hl hb (fun t' h' => ht t' (List.mem_cons_of_mem _ h')) h2 (fun x hx => hlt x (List.mem_append.2 (.inr hx))))
theorem law_post {f : Func} {s : ChangeSpec} {W W' : World} {args : Array Value} {ds gs : List (DataW H)} {before : List MemPlace} {tb : TypeId} (hl : laidOutB P = true)
  (hts : ∀ t ∈ f.params.toList, P.readableRec t = true ∧ t < P.types.size) (hvars : s.vars = []) (hrt : f.resultTypes = #[tb]) (htb : P.underlying tb = some .bool)
  (hW : DataW.Whole enc P f.params.toList s.vars false W args.toList ds gs before) (hfr : (s.fn H (ds ++ gs)).results = [.lit (.bool true)]) (hfa : (s.fn H (ds ++ gs)).args = ds) (hfv : (s.fn H (ds ++ gs)).vars = [])
  (hb : Below W.heap.size W W') : s.post enc P f false true false false W args (.bool true) W' := by
 have hW0 := hW
 obtain ⟨p, q, hA, hV, rfl, hz, hn⟩ := hW
 rw [hvars] at hV
 obtain ⟨rfl, rfl⟩ := trodVars_none hV
 have hlt : ∀ x ∈ p ++ [], x.block < W.heap.size := fun x hx => hW0.lt x hx
 refine ⟨ds, [], p ++ [], [], p, [], hW0, ?_, ?_, ?_, hb.frame _, fun h => by cases h⟩
 ·rw [hfr, hrt]
  exact trodAll_mk1 (shut_bool htb true)
 ·rw [hfa]
  exact trodAll_below hl hb hts hA (fun x hx => hlt x (by simpa using hx))
 ·rw [hvars, hfv]
  rfl
end
theorem TrylaidOut : laidOutB Try.prog = true := by kernel_rfl
theorem Tryown : ownKnob Try.prog.godebug = none := by kernel_rfl
open Go.ChangeShapes Go.WideShapes Go.ChangeAt Go.RowKit Go.Deep
def R0 (a : SV) (W : World) (v : Value) : Prop := a.R (fun _ _ => none) (fun _ => False) W v
section
variable {H : Type} {enc : TypeId × Value → H} {W : World} {fuel base : Nat} {cs : List Value} {x : DataW H × List MemPlace}
def LongC (n : Nat) (d : DataW H) (C : Nat → DataW H → Prop) : Prop := (n = 0 ∧ d = .nil) ∨ ∃ (D : Nat → DataW H) (sp : List (DataW H)), d = .slice ((List.range n).map D) sp ∧ ∀ i, i < n → C i (D i)
def Opens (enc : TypeId × Value → H) (W : World) (T : TypeId) (s : Nat) {α : Type} (E : α → SV) (C : α → DataW H → Prop) : Prop := ∀ fuel cs x, DataW.trod enc Try.prog W 0 (fun _ => true) true fuel T cs = some x → ∃ (t : α) (ev : Value), cs = ev.cells.toList ∧ ev.cells.size = s ∧ One ev ∧ R0 (E t) W ev ∧ C t x.1
theorem choose_nat {α : Type} (d : α) {p : Nat → α → Prop} {n : Nat} (h : ∀ i, i < n → ∃ t, p i t) : ∃ t : Nat → α, ∀ i, i < n → p i (t i) := by
 classical
 exact ⟨fun i => if hi : i < n then (h i hi).choose else d, fun i hi => by simpa [hi] using (h i hi).choose_spec⟩
theorem cellLt {a : Addr} {v : Value} (h : W.cell? a = some v) : a.block < W.heap.size := by
 unfold World.cell? at h
 split at h
 ·rename_i hh
  exact (Array.getElem?_eq_some_iff.1 hh).1
 all_goals cases h
theorem opens_sl {T e : TypeId} {s : Nat} {α : Type} {E : α → SV} {C : α → DataW H → Prop} (d : α) (hT : Try.prog.underlying T = some (.slice e)) (hs : Try.prog.cellsOf e = s) (h0 : 0 < s) (h : Opens enc W e s E C) :
  Opens enc W T 1 (fun t : Nat × (Nat → α) => .sl s (fun i => E (t.2 i)) t.1) (fun t d => LongC t.1 d fun i d' => C (t.2 i) d') := by
 intro fuel cs x hr
 rcases open_slice hT hr with ⟨rfl, rfl⟩ | ⟨a, len, cap, m, k, D, Pl, rfl, _, hl, hm, hmm, rfl, hx⟩
 ·exact ⟨(0, fun _ => d), .slice none 0 0, rfl, rfl, by simp [One, Value.cells, Value.oneCell'], ⟨none, 0, rfl, fun _ => ⟨rfl, rfl⟩, Nat.le_refl _, Nat.zero_le _, fun i hi => by omega⟩, .inl ⟨rfl, rfl⟩⟩
 ·have hm' : m = cap := by rw [hmm]; rfl
  subst hs
  rcases Nat.eq_zero_or_pos len with rfl | hpos
  ·exact ⟨(0, fun _ => d), .slice (some a) 0 cap, rfl, rfl, by simp [One, Value.cells, Value.oneCell'], ⟨some a, cap, rfl, (fun e => by cases e), Nat.zero_le _, hm, fun i hi => by omega⟩, .inr ⟨D, _, rfl, fun i hi => by omega⟩⟩
  have hspot : a.spot = none := by
   obtain ⟨cs', hc, _⟩ := hx 0 zo
   obtain ⟨_, hlen, hcell⟩ := World.cells?_some hc
   have h1 := hcell 0 h0
   rw [List.getElem?_eq_getElem (by rw [hlen]; exact h0)] at h1
   have := World.cell?_spot h1
   simpa [Addr.add] using this
  obtain ⟨g, o, sp⟩ := a
  simp only at hspot
  subst hspot
  have hone : ∀ i, i < len → ∃ t : α, (∃ g' o', some (⟨g, o, none⟩ : Addr) = some ⟨g', o', none⟩ ∧ g' < W.heap.size ∧ ∃ ev : Value, (ev.cells.size = Try.prog.cellsOf e ∧ One ev) ∧ R0 (E t) W ev ∧ ∀ j u, ev.cells[j]? = some u → W.cell? ⟨g', (o' + Try.prog.cellsOf e * i) + j, none⟩ = some u) ∧ C t (D i) := fun i hi => by
   obtain ⟨cs', hc, ht⟩ := hx i zo
   obtain ⟨t, ev, rfl, k1, k2, k3, k4⟩ := h _ _ _ ht
   obtain ⟨_, hlen, hcell⟩ := World.cells?_some hc
   have hcell : ∀ j, j < Try.prog.cellsOf e → W.cell? ⟨g, o + Try.prog.cellsOf e * i + j, none⟩ = ev.cells.toList[j]? := fun j hj => by
    have := hcell j hj
    rw [add_plain, add_plain] at this
    rw [← this, Nat.mul_comm i]
   have hg : g < W.heap.size := by
    have h1 := hcell 0 h0
    rw [List.getElem?_eq_getElem (by rw [hlen]; exact h0)] at h1
    exact cellLt h1
   refine ⟨t, ⟨g, o, rfl, hg, ev, ⟨k1, k2⟩, k3, fun j u hj => ?_⟩, k4⟩
   have hj3 : j < ev.cells.size := (Array.getElem?_eq_some_iff.1 hj).1
   rw [hcell j zo]
   simpa using hj
  obtain ⟨t, ht⟩ := choose_nat d hone
  refine ⟨(len, t), .slice (some ⟨g, o, none⟩) len cap, rfl, rfl, by simp [One, Value.cells, Value.oneCell'], ⟨some ⟨g, o, none⟩, cap, rfl, (fun e => by cases e), hl, hm, fun i hi => ?_⟩, .inr ⟨_, _, rfl, fun i hi => (ht i hi).2⟩⟩
  obtain ⟨g, o, e1, e2, ev, e3, e4, e5⟩ := (ht i hi).1
  exact ⟨g, o, e1, id, e2, ev, e3, e4, e5⟩
theorem opens_int {T : TypeId} (hT : Try.prog.underlying T = some (.int .i64)) : Opens enc W T 1 (fun z : Int => .ex (.int .i64 z)) (fun z _ => Wd64 z) := by
 intro fuel cs x hx
 obtain ⟨p, hp, _, wp⟩ := DataW.trod_int hT hx
 have : -9223372036854775808 ≤ p ∧ p ≤ 9223372036854775807 := by simpa [Lit.wf, IntKind.min, IntKind.max, IntKind.signed, IntKind.bits] using wp
 exact ⟨p, .int .i64 p, hp, rfl, by simp [One, Value.cells, Value.oneCell'], rfl, this.1, by omega⟩
theorem flat_agg {vs : List Value} (h : ∀ v ∈ vs, One v) : One (.agg (flat vs).toArray) := by
 intro u hu
 rw [agg_cells] at hu
 obtain ⟨v, hv, hu⟩ := List.mem_flatMap.1 hu
 exact h v hv u hu
theorem opens_pair {T : TypeId} {f0 f1 : Field} {s0 s1 : Nat} {α β : Type} {E0 : α → SV} {E1 : β → SV} {C0 : α → DataW H → Prop} {C1 : β → DataW H → Prop} (hT : Try.prog.underlying T = some (.struct #[f0, f1])) (h0 : f0.offset = 0) (h1 : f1.offset = s0) (c0 : Try.prog.cellsOf f0.type = s0) (c1 : Try.prog.cellsOf f1.type = s1) (c : Try.prog.cellsOf T = s0 + s1)
  (k0 : Opens enc W f0.type s0 E0 C0) (k1 : Opens enc W f1.type s1 E1 C1) : Opens enc W T (s0 + s1) (fun t : α × β => .agg (.cn (E0 t.1) (.cn (E1 t.2) .nl))) (fun t d => ∃ d0 d1, d = .agg [d0, d1] ∧ C0 t.1 d0 ∧ C1 t.2 d1) := by
 intro fuel cs x hr
 obtain ⟨y0, y1, n, rfl, hl, r0, r1⟩ := trod_struct2 hT hr
 obtain ⟨t0, e0, z0, a0, o0, b0, g0⟩ := k0 _ _ _ r0
 obtain ⟨t1, e1, z1, a1, o1, b1, g1⟩ := k1 _ _ _ r1
 rw [h0, c0, List.drop_zero] at z0
 rw [h1, c1] at z1
 have hcs : cs = flat [e0, e1] := by
  show cs = e0.cells.toList ++ (e1.cells.toList ++ [])
  rw [← z0, ← z1, List.append_nil, List.take_of_length_le (l := List.drop s0 cs) (by rw [List.length_drop]; omega), List.take_append_drop]
 refine ⟨(t0, t1), .agg (flat [e0, e1]).toArray, by rw [agg_cells, hcs], ?_, flat_agg fun v hv => ?_, ⟨[e0, e1], rfl, e0, [e1], rfl, b0, e1, [], rfl, b1, rfl⟩, _, _, rfl, g0, g1⟩
 ·show (flat [e0, e1]).toArray.size = _
  rw [← hcs]
  simp only [List.size_toArray]
  omega
 ·simp only [List.mem_cons, List.not_mem_nil, or_false] at hv
  rcases hv with rfl | rfl
  ·exact o0
  ·exact o1
theorem opens_aggV {T : TypeId} {fs : Array Field} {s : Nat} {α : Type} {E : α → SV} {C : α → DataW H → Prop} {v : Value} {d : DataW H} {ps : List MemPlace} (hT : Try.prog.underlying T = some (.struct fs)) (hv : Value.okWide Try.prog W .any base T v) (h : DataW.Trod enc Try.prog W 0 (fun _ => true) true T v d ps)
  (k : Opens enc W T s (fun t : α => .agg (E t)) C) : ∃ t : α, R0 (.agg (E t)) W v ∧ C t d := by
 obtain ⟨cs, rfl, _⟩ := okWide_struct hT hv
 obtain ⟨fuel, hf⟩ := h
 obtain ⟨t, ev, e, _, _, hR, hC⟩ := k _ _ _ hf
 have hev : ev = .agg cs := by
  obtain ⟨vs, rfl, _⟩ := hR
  rw [agg_cells] at e
  have e : cs.toList = flat vs := e
  rw [← e]
 subst hev
 exact ⟨t, hR, hC⟩
end
def fracS (t : Int × Int) : SV := .agg (.cn (.ex (.int .i64 t.1)) (.cn (.ex (.int .i64 t.2)) .nl))
theorem opens_frac {H : Type} {enc : TypeId × Value → H} {W : World} : Opens enc W 64 2 fracS (fun t d => ∃ d0 d1, d = .agg [d0, d1] ∧ Wd64 t.1 ∧ Wd64 t.2) :=
 opens_pair (s0 := 1) (s1 := 1) Try.underlying64 rfl rfl (by kernel_rfl) (by kernel_rfl) (by kernel_rfl) (opens_int Try.underlying3) (opens_int Try.underlying3)
def rowS (t : Nat × (Nat → Int × Int)) : SV := .sl 2 (fun i => fracS (t.2 i)) t.1
def RowC {H : Type} (t : Nat × (Nat → Int × Int)) (d : DataW H) : Prop := LongC t.1 d fun i d' => ∃ d0 d1, d' = .agg [d0, d1] ∧ Wd64 (t.2 i).1 ∧ Wd64 (t.2 i).2
theorem opens_fracs {H : Type} {enc : TypeId × Value → H} {W : World} : Opens enc W 46 1 rowS RowC :=
 opens_sl (E := fracS) (C := fun t d => ∃ d0 d1, d = .agg [d0, d1] ∧ Wd64 t.1 ∧ Wd64 t.2) (0, 0) Try.underlying46 (by kernel_rfl) (by decide) opens_frac
theorem opens_rows {H : Type} {enc : TypeId × Value → H} {W : World} : Opens enc W 22 1 (fun t : Nat × (Nat → Nat × (Nat → Int × Int)) => .sl 1 (fun i => rowS (t.2 i)) t.1) (fun t d => LongC t.1 d fun i d' => RowC (t.2 i) d') :=
 opens_sl (E := rowS) (C := RowC) (0, fun _ => (0, 0)) Try.underlying22 (by kernel_rfl) (by decide) opens_fracs
theorem CallOK.law {f : FuncId} {As : List SV} (h : CallOK Try.prog f As (.ex (.bool true)) []) {W : World} {vals : List Value} (hA : ArgsR As (fun _ _ => none) (fun _ => False) W vals) : Calls Try.prog f vals.toArray W fun e W' => ∃ v, e = .returned v ∧ Below W.heap.size W W' ∧ v = .bool true :=
 (h.run (fun _ _ => none) (fun _ => False) W vals (fun _ h => h.elim) hA).mono fun _ _ ⟨v, _, e1, hp, hR⟩ => ⟨v, e1, hp.mod.grow, hR⟩
open Go.ChangeShapes Go.WideShapes Go.ChangeAt Go.RowKit Go.Deep
section
variable {H : Type} {enc : TypeId × Value → H} {W : World} {base : Nat} {v : Value} {d : DataW H} {ps : List MemPlace}
theorem LongC.at {n : Nat} {d : DataW H} {C : Nat → DataW H → Prop} (h : LongC n d C) : ∀ i, i < n → ∃ d', C i d' := fun i hi => by
 rcases h with ⟨rfl, _⟩ | ⟨D, _, _, k⟩
 ·omega
 ·exact ⟨D i, k i hi⟩
theorem opens_u8 {T : TypeId} (hT : Try.prog.underlying T = some (.int .u8)) : Opens enc W T 1 (fun z : Nat => .ex (.int .u8 (z : Int))) (fun z _ => z < 256) := by
 intro fuel cs x hx
 obtain ⟨p, hp, _, wp⟩ := DataW.trod_int hT hx
 have : 0 ≤ p ∧ p ≤ 255 := by simpa [Lit.wf, IntKind.min, IntKind.max, IntKind.signed, IntKind.bits] using wp
 exact ⟨p.toNat, .int .u8 p, hp, rfl, by simp [One, Value.cells, Value.oneCell'], by show Value.int .u8 p = .int .u8 ((p.toNat : Nat) : Int); rw [Int.toNat_of_nonneg this.1], by omega⟩
end
theorem opens_grid {H : Type} {enc : TypeId × Value → H} {W : World} : Opens enc W 24 2 (fun t : Nat × (Nat × (Nat → Nat × (Nat → Int × Int))) => .agg (.cn (.ex (.int .u8 ((t.1 : Nat) : Int))) (.cn (.sl 1 (fun i => rowS (t.2.2 i)) t.2.1) .nl))) (fun t d => ∃ d0 d1, d = .agg [d0, d1] ∧ t.1 < 256 ∧ LongC t.2.1 d1 fun i d' => RowC (t.2.2 i) d') :=
 opens_pair (s0 := 1) (s1 := 1) Try.underlying24 rfl rfl (by kernel_rfl) (by kernel_rfl) (by kernel_rfl) (opens_u8 Try.underlying5) opens_rows
section
variable {H : Type} {enc : TypeId × Value → H} {W : World} {base : Nat} {v : Value} {d : DataW H} {ps : List MemPlace}
theorem LongC.wf {n : Nat} {d : DataW H} {f : Nat → Nat} (h : LongC n d fun i _ => f i < 18446744073709551616) : Wf f n := fun i hi => by
 obtain ⟨_, k⟩ := h.at i hi
 exact k
theorem top_grid (hv : Value.okWide Try.prog W .any base 24 v) (h : DataW.Trod enc Try.prog W 0 (fun _ => true) true 24 v d ps) : ∃ (t : Nat × (Nat × (Nat → Nat × (Nat → Int × Int)))), R0 (.agg (.cn (.ex (.int .u8 ((t.1 : Nat) : Int))) (.cn (.sl 1 (fun i => rowS (t.2.2 i)) t.2.1) .nl))) W v ∧ t.1 < 256 ∧ ∀ r, r < t.2.1 → ∀ c, c < (t.2.2 r).1 → Wd64 ((t.2.2 r).2 c).1 ∧ Wd64 ((t.2.2 r).2 c).2 := by
 obtain ⟨t, hR, _, _, _, h8, hL⟩ := opens_aggV (E := fun t : Nat × (Nat × (Nat → Nat × (Nat → Int × Int))) => .cn (.ex (.int .u8 ((t.1 : Nat) : Int))) (.cn (.sl 1 (fun i => rowS (t.2.2 i)) t.2.1) .nl)) Try.underlying24 hv h opens_grid
 refine ⟨t, hR, h8, fun r hr c hc => ?_⟩
 obtain ⟨_, k⟩ := hL.at r hr
 obtain ⟨_, _, _, _, k2⟩ := k.at c hc
 exact k2
end
end Go.Proofs.Ytgighdoacajmfaa
