/- The contracts of bound.Bases and of the document's. -/
import Derived.Test.YtknflfnkdieomaaBound
import Derived.Test.YtknflfnkdieomaaChoose
namespace Go.Proofs.Ytknflfnkdieomaa
open Go.RowKit
set_option maxHeartbeats 400000 in
theorem bBases_out (n m most : Int) (h : m < 0 ∨ n < m) (w : World) :
    Calls Try.prog 14 #[.int .i64 n, .int .i64 m, .int .i64 most] w fun e w' => e = .returned (.tuple #[.int .i64 0, .bool true]) ∧ Drawn w w' := by
  by_cases h1 : m < 0
  · clear h
    go_enter Try.func14, Try.ntmps14
    go_wp2
    go_ret2
    exact ⟨rfl, Drawn.refl _⟩
  have h2 : n < m := by omega
  clear h
  go_enter Try.func14, Try.ntmps14
  go_wp2
  go_ret2
  exact ⟨rfl, Drawn.refl _⟩
def clampM (most : Int) : Nat := (max 0 (min most 1099511627776)).toNat

theorem ways_low (d j mm C : Nat) (hC : Ch.ways d mm = C) (hj : j ≤ mm) : Ch.ways d j ≤ C := by
  have := Ch.ways_le d j (mm - j)
  rw [show j + (mm - j) = mm by omega, hC] at this; exact this
theorem bases_over (n m M d j mm : Nat) (hC : Ch.ways d mm = Ch.choose n m) (hj : j + 1 ≤ mm) (h : M < Ch.ways d (j + 1)) : Ch.basesV n m M = M + 1 ∧ Ch.basesB n m M = false := by
  have h1 := ways_low d (j + 1) mm _ hC hj
  unfold Ch.basesV Ch.basesB
  rw [if_neg (by omega)]
  exact ⟨rfl, decide_eq_false (by omega)⟩
theorem bases_end (n m M d mm : Nat) (hC : Ch.ways d mm = Ch.choose n m) (h : mm = 0 ∨ Ch.ways d mm ≤ M) : Ch.basesV n m M = Ch.ways d mm ∧ Ch.basesB n m M = decide ((Ch.ways d mm : Int) ≤ M) := by
  unfold Ch.basesV Ch.basesB
  rw [← hC]
  constructor
  · by_cases hh : Ch.ways d mm ≤ M
    · rw [if_pos hh]
    · rw [if_neg hh]
      rcases h with h | h
      · subst h; rw [Ch.ways_zero] at *; omega
      · exact absurd h hh
  · rw [decide_eq_decide]; omega
theorem ret_ibb {a b : Int} {x y : Bool} (h : a = b) (h' : x = y) : Ending.returned (.tuple #[.int .i64 a, .bool x]) = Ending.returned (.tuple #[.int .i64 b, .bool y]) := by rw [h, h']
theorem mul_small {x y hi lo : Int} (h : MulRel x y 0 0 hi lo) (hb : x * y < 18446744073709551616) : hi = 0 ∧ lo = x * y := by
  obtain ⟨⟨h1, h2⟩, ⟨h3, h4⟩, h5⟩ := h
  generalize x * y = z at *
  omega
theorem divQ_ways (d j : Nat) : divQ 0 (Ch.ways d j * (d + (j + 1))) (j + 1) = Ch.ways d (j + 1) := by
  unfold divQ; rw [Nat.zero_mul, Nat.zero_add, Ch.ways_div]

set_option maxHeartbeats 1000000 in
theorem bBases_alo (m j0 : Nat) (M : Nat) (hmj : m ≤ j0) (hn : m + j0 ≤ 200) (hM : 0 < M ∧ M ≤ 1099511627776) (w : World) :
    Calls Try.prog 14 #[.int .i64 (m + j0 : Nat), .int .i64 m, .int .i64 M] w fun e w' => e = .returned (.tuple #[.int .i64 (Ch.basesV (m + j0) m M), .bool (Ch.basesB (m + j0) m M)]) ∧ Drawn w w' := by
  have hC : Ch.ways j0 m = Ch.choose (m + j0) m := by
    have := Ch.ways_of (m + j0) m (by omega)
    rw [show min m (m + j0 - m) = m by omega, show m + j0 - m = j0 by omega] at this
    exact this
  have HC := Lib.hid hC
  clear hC
  have hmj' : (m : Int) ≤ j0 := by omega
  have hm0 : (0 : Int) ≤ m := by omega
  have hnm : (m : Int) + j0 - m = j0 := by omega
  have hnj : (m : Int) + j0 - j0 = m := by omega
  go_enter Try.func14, Try.ntmps14
  go_wp2_with fail
  go_loopw [8, 9] (fun c i wr => ∃ j : Nat, c = .int .i64 (Ch.ways j0 j) ∧ i = .int .i64 ((j : Int) + 1) ∧ j ≤ m ∧ Hid (j = 0 ∨ Ch.ways j0 j ≤ M) ∧ Drawn w wr) (fun c i wr => (m + 1 - (intOf i).toNat))
  case atStart => exact ⟨0, by rw [Ch.ways_zero]; rfl, rfl, by omega, .inl rfl, Drawn.refl _⟩
  case round =>
    obtain ⟨j, rfl, rfl, hj, hw, ⟨nd, rfl⟩⟩ := hrel
    have hw1 : Ch.ways j0 j ≤ 1099511627776 := by
      rcases hw.out with h | h
      · subst h; rw [Ch.ways_zero]; omega
      · omega
    by_cases hlt : j < m
    · have hpb : Ch.ways j0 j * (j0 + (j + 1)) ≤ 1099511627776 * 401 := Nat.mul_le_mul hw1 (by omega)
      have hpe : (Ch.ways j0 j : Int) * ((j0 : Int) + ((j : Int) + 1)) = ((Ch.ways j0 j * (j0 + (j + 1)) : Nat) : Int) := by simp
      have hmul := wMul (Ch.ways j0 j : Int) ((j0 : Int) + ((j : Int) + 1)) ⟨by omega, by omega⟩ ⟨by omega, by omega⟩
      have hdiv := wDiv_yes 0 (Ch.ways j0 j * (j0 + (j + 1))) (j + 1) (by omega) (by omega) (by omega)
      rw [divQ_ways, show ((0 : Nat) : Int) = 0 from rfl, show ((j + 1 : Nat) : Int) = (j : Int) + 1 by simp] at hdiv
      generalize hP : Ch.ways j0 j * (j0 + (j + 1)) = P at *
      have HP := Lib.hid hpe
      have HM := Lib.hid hmul
      have HD := Lib.hid hdiv
      clear hpe hmul hdiv hP
      by_cases hov : M < Ch.ways j0 (j + 1)
      · have hov' : (M : Int) < (Ch.ways j0 (j + 1) : Nat) := by omega
        have HR := Lib.hid (bases_over _ _ M j0 j m HC.out (by omega) hov)
        clear hov
        go_wp2_with fail
        refine (HM.out _).mono ?_
        rintro e w' ⟨hi, lo, rfl, hr, rfl⟩
        have hr1 := mul_small hr (by rw [HP.out]; omega)
        rw [HP.out] at hr1
        obtain ⟨rfl, rfl⟩ := hr1
        clear hr
        go_wp2_with fail
        refine (HD.out _).mono ?_
        rintro e w' ⟨rfl, nd2, rfl⟩
        go_wp2_with fail
        go_ret2
        exact ⟨ret_ibb (by rw [HR.out.1]; rfl) HR.out.2.symm, _, rfl⟩
      · have hov' : (Ch.ways j0 (j + 1) : Nat) ≤ (M : Int) := by omega
        have HW : Hid (j + 1 = 0 ∨ Ch.ways j0 (j + 1) ≤ M) := .inr (by omega)
        clear hov
        go_wp2_with fail
        refine (HM.out _).mono ?_
        rintro e w' ⟨hi, lo, rfl, hr, rfl⟩
        have hr1 := mul_small hr (by rw [HP.out]; omega)
        rw [HP.out] at hr1
        obtain ⟨rfl, rfl⟩ := hr1
        clear hr
        go_wp2_with fail
        refine (HD.out _).mono ?_
        rintro e w' ⟨rfl, nd2, rfl⟩
        go_wp2_with fail
        go_roundw
        case rel => exact ⟨j + 1, rfl, rfl, by omega, HW, _, rfl⟩
        case measure => simp [intOf]; omega
    · obtain rfl : j = m := by omega
      have HR := Lib.hid (bases_end _ _ M j0 _ HC.out hw.out)
      go_wp2
      go_ret2
      exact ⟨ret_ibb (by rw [HR.out.1]) (by rw [HR.out.2]; first | rfl | simp), _, rfl⟩

set_option maxHeartbeats 1000000 in
theorem bBases_ahi (m j0 : Nat) (M : Nat) (hmj : j0 < m) (hn : m + j0 ≤ 200) (hM : 0 < M ∧ M ≤ 1099511627776) (w : World) :
    Calls Try.prog 14 #[.int .i64 (m + j0 : Nat), .int .i64 m, .int .i64 M] w fun e w' => e = .returned (.tuple #[.int .i64 (Ch.basesV (m + j0) m M), .bool (Ch.basesB (m + j0) m M)]) ∧ Drawn w w' := by
  have hC : Ch.ways m j0 = Ch.choose (m + j0) m := by
    have := Ch.ways_of (m + j0) m (by omega)
    rw [show min m (m + j0 - m) = j0 by omega, show m + j0 - j0 = m by omega] at this
    exact this
  have HC := Lib.hid hC
  clear hC
  have hmj' : (j0 : Int) < m := by omega
  have hm0 : (0 : Int) ≤ m := by omega
  have hnm : (m : Int) + j0 - m = j0 := by omega
  have hnj : (m : Int) + j0 - j0 = m := by omega
  go_enter Try.func14, Try.ntmps14
  go_wp2_with fail
  go_loopw [8, 9] (fun c i wr => ∃ j : Nat, c = .int .i64 (Ch.ways m j) ∧ i = .int .i64 ((j : Int) + 1) ∧ j ≤ j0 ∧ Hid (j = 0 ∨ Ch.ways m j ≤ M) ∧ Drawn w wr) (fun c i wr => (j0 + 1 - (intOf i).toNat))
  case atStart => exact ⟨0, by rw [Ch.ways_zero]; rfl, rfl, by omega, .inl rfl, Drawn.refl _⟩
  case round =>
    obtain ⟨j, rfl, rfl, hj, hw, ⟨nd, rfl⟩⟩ := hrel
    have hw1 : Ch.ways m j ≤ 1099511627776 := by
      rcases hw.out with h | h
      · subst h; rw [Ch.ways_zero]; omega
      · omega
    by_cases hlt : j < j0
    · have hpb : Ch.ways m j * (m + (j + 1)) ≤ 1099511627776 * 401 := Nat.mul_le_mul hw1 (by omega)
      have hpe : (Ch.ways m j : Int) * ((m : Int) + ((j : Int) + 1)) = ((Ch.ways m j * (m + (j + 1)) : Nat) : Int) := by simp
      have hmul := wMul (Ch.ways m j : Int) ((m : Int) + ((j : Int) + 1)) ⟨by omega, by omega⟩ ⟨by omega, by omega⟩
      have hdiv := wDiv_yes 0 (Ch.ways m j * (m + (j + 1))) (j + 1) (by omega) (by omega) (by omega)
      rw [divQ_ways, show ((0 : Nat) : Int) = 0 from rfl, show ((j + 1 : Nat) : Int) = (j : Int) + 1 by simp] at hdiv
      generalize hP : Ch.ways m j * (m + (j + 1)) = P at *
      have HP := Lib.hid hpe
      have HM := Lib.hid hmul
      have HD := Lib.hid hdiv
      clear hpe hmul hdiv hP
      by_cases hov : M < Ch.ways m (j + 1)
      · have hov' : (M : Int) < (Ch.ways m (j + 1) : Nat) := by omega
        have HR := Lib.hid (bases_over _ _ M m j j0 HC.out (by omega) hov)
        clear hov
        go_wp2_with fail
        refine (HM.out _).mono ?_
        rintro e w' ⟨hi, lo, rfl, hr, rfl⟩
        have hr1 := mul_small hr (by rw [HP.out]; omega)
        rw [HP.out] at hr1
        obtain ⟨rfl, rfl⟩ := hr1
        clear hr
        go_wp2_with fail
        refine (HD.out _).mono ?_
        rintro e w' ⟨rfl, nd2, rfl⟩
        go_wp2_with fail
        go_ret2
        exact ⟨ret_ibb (by rw [HR.out.1]; rfl) HR.out.2.symm, _, rfl⟩
      · have hov' : (Ch.ways m (j + 1) : Nat) ≤ (M : Int) := by omega
        have HW : Hid (j + 1 = 0 ∨ Ch.ways m (j + 1) ≤ M) := .inr (by omega)
        clear hov
        go_wp2_with fail
        refine (HM.out _).mono ?_
        rintro e w' ⟨hi, lo, rfl, hr, rfl⟩
        have hr1 := mul_small hr (by rw [HP.out]; omega)
        rw [HP.out] at hr1
        obtain ⟨rfl, rfl⟩ := hr1
        clear hr
        go_wp2_with fail
        refine (HD.out _).mono ?_
        rintro e w' ⟨rfl, nd2, rfl⟩
        go_wp2_with fail
        go_roundw
        case rel => exact ⟨j + 1, rfl, rfl, by omega, HW, _, rfl⟩
        case measure => simp [intOf]; omega
    · obtain rfl : j = j0 := by omega
      have HR := Lib.hid (bases_end _ _ M m _ HC.out hw.out)
      go_wp2
      go_ret2
      exact ⟨ret_ibb (by rw [HR.out.1]) (by rw [HR.out.2]; first | rfl | simp), _, rfl⟩

set_option maxHeartbeats 1000000 in
theorem bBases_blo (m j0 : Nat) (most : Int) (hmj : m ≤ j0) (hn : m + j0 ≤ 200) (hM : most ≤ 0) (w : World) :
    Calls Try.prog 14 #[.int .i64 (m + j0 : Nat), .int .i64 m, .int .i64 most] w fun e w' => e = .returned (.tuple #[.int .i64 (Ch.basesV (m + j0) m 0), .bool (Ch.basesB (m + j0) m 0)]) ∧ Drawn w w' := by
  have hC : Ch.ways j0 m = Ch.choose (m + j0) m := by
    have := Ch.ways_of (m + j0) m (by omega)
    rw [show min m (m + j0 - m) = m by omega, show m + j0 - m = j0 by omega] at this
    exact this
  have HC := Lib.hid hC
  clear hC
  have hmj' : (m : Int) ≤ j0 := by omega
  have hm0 : (0 : Int) ≤ m := by omega
  have hnm : (m : Int) + j0 - m = j0 := by omega
  have hnj : (m : Int) + j0 - j0 = m := by omega
  go_enter Try.func14, Try.ntmps14
  go_wp2_with fail
  go_loopw [8, 9] (fun c i wr => ∃ j : Nat, c = .int .i64 (Ch.ways j0 j) ∧ i = .int .i64 ((j : Int) + 1) ∧ j ≤ m ∧ Hid (j = 0 ∨ Ch.ways j0 j ≤ 0) ∧ Drawn w wr) (fun c i wr => (m + 1 - (intOf i).toNat))
  case atStart => exact ⟨0, by rw [Ch.ways_zero]; rfl, rfl, by omega, .inl rfl, Drawn.refl _⟩
  case round =>
    obtain ⟨j, rfl, rfl, hj, hw, ⟨nd, rfl⟩⟩ := hrel
    have hw1 : Ch.ways j0 j ≤ 1099511627776 := by
      rcases hw.out with h | h
      · subst h; rw [Ch.ways_zero]; omega
      · omega
    by_cases hlt : j < m
    · have hpb : Ch.ways j0 j * (j0 + (j + 1)) ≤ 1099511627776 * 401 := Nat.mul_le_mul hw1 (by omega)
      have hpe : (Ch.ways j0 j : Int) * ((j0 : Int) + ((j : Int) + 1)) = ((Ch.ways j0 j * (j0 + (j + 1)) : Nat) : Int) := by simp
      have hmul := wMul (Ch.ways j0 j : Int) ((j0 : Int) + ((j : Int) + 1)) ⟨by omega, by omega⟩ ⟨by omega, by omega⟩
      have hdiv := wDiv_yes 0 (Ch.ways j0 j * (j0 + (j + 1))) (j + 1) (by omega) (by omega) (by omega)
      rw [divQ_ways, show ((0 : Nat) : Int) = 0 from rfl, show ((j + 1 : Nat) : Int) = (j : Int) + 1 by simp] at hdiv
      generalize hP : Ch.ways j0 j * (j0 + (j + 1)) = P at *
      have HP := Lib.hid hpe
      have HM := Lib.hid hmul
      have HD := Lib.hid hdiv
      clear hpe hmul hdiv hP
      by_cases hov : 0 < Ch.ways j0 (j + 1)
      · have hov' : (0 : Int) < (Ch.ways j0 (j + 1) : Nat) := by omega
        have HR := Lib.hid (bases_over _ _ 0 j0 j m HC.out (by omega) hov)
        clear hov
        go_wp2_with fail
        refine (HM.out _).mono ?_
        rintro e w' ⟨hi, lo, rfl, hr, rfl⟩
        have hr1 := mul_small hr (by rw [HP.out]; omega)
        rw [HP.out] at hr1
        obtain ⟨rfl, rfl⟩ := hr1
        clear hr
        go_wp2_with fail
        refine (HD.out _).mono ?_
        rintro e w' ⟨rfl, nd2, rfl⟩
        go_wp2_with fail
        go_ret2
        exact ⟨ret_ibb (by rw [HR.out.1]; rfl) HR.out.2.symm, _, rfl⟩
      · have hov' : (Ch.ways j0 (j + 1) : Nat) ≤ (0 : Int) := by omega
        have HW : Hid (j + 1 = 0 ∨ Ch.ways j0 (j + 1) ≤ 0) := .inr (by omega)
        clear hov
        go_wp2_with fail
        refine (HM.out _).mono ?_
        rintro e w' ⟨hi, lo, rfl, hr, rfl⟩
        have hr1 := mul_small hr (by rw [HP.out]; omega)
        rw [HP.out] at hr1
        obtain ⟨rfl, rfl⟩ := hr1
        clear hr
        go_wp2_with fail
        refine (HD.out _).mono ?_
        rintro e w' ⟨rfl, nd2, rfl⟩
        go_wp2_with fail
        go_roundw
        case rel => exact ⟨j + 1, rfl, rfl, by omega, HW, _, rfl⟩
        case measure => simp [intOf]; omega
    · obtain rfl : j = m := by omega
      have HR := Lib.hid (bases_end _ _ 0 j0 _ HC.out hw.out)
      go_wp2
      go_ret2
      exact ⟨ret_ibb (by rw [HR.out.1]) (by rw [HR.out.2]; first | rfl | simp), _, rfl⟩

set_option maxHeartbeats 1000000 in
theorem bBases_bhi (m j0 : Nat) (most : Int) (hmj : j0 < m) (hn : m + j0 ≤ 200) (hM : most ≤ 0) (w : World) :
    Calls Try.prog 14 #[.int .i64 (m + j0 : Nat), .int .i64 m, .int .i64 most] w fun e w' => e = .returned (.tuple #[.int .i64 (Ch.basesV (m + j0) m 0), .bool (Ch.basesB (m + j0) m 0)]) ∧ Drawn w w' := by
  have hC : Ch.ways m j0 = Ch.choose (m + j0) m := by
    have := Ch.ways_of (m + j0) m (by omega)
    rw [show min m (m + j0 - m) = j0 by omega, show m + j0 - j0 = m by omega] at this
    exact this
  have HC := Lib.hid hC
  clear hC
  have hmj' : (j0 : Int) < m := by omega
  have hm0 : (0 : Int) ≤ m := by omega
  have hnm : (m : Int) + j0 - m = j0 := by omega
  have hnj : (m : Int) + j0 - j0 = m := by omega
  go_enter Try.func14, Try.ntmps14
  go_wp2_with fail
  go_loopw [8, 9] (fun c i wr => ∃ j : Nat, c = .int .i64 (Ch.ways m j) ∧ i = .int .i64 ((j : Int) + 1) ∧ j ≤ j0 ∧ Hid (j = 0 ∨ Ch.ways m j ≤ 0) ∧ Drawn w wr) (fun c i wr => (j0 + 1 - (intOf i).toNat))
  case atStart => exact ⟨0, by rw [Ch.ways_zero]; rfl, rfl, by omega, .inl rfl, Drawn.refl _⟩
  case round =>
    obtain ⟨j, rfl, rfl, hj, hw, ⟨nd, rfl⟩⟩ := hrel
    have hw1 : Ch.ways m j ≤ 1099511627776 := by
      rcases hw.out with h | h
      · subst h; rw [Ch.ways_zero]; omega
      · omega
    by_cases hlt : j < j0
    · have hpb : Ch.ways m j * (m + (j + 1)) ≤ 1099511627776 * 401 := Nat.mul_le_mul hw1 (by omega)
      have hpe : (Ch.ways m j : Int) * ((m : Int) + ((j : Int) + 1)) = ((Ch.ways m j * (m + (j + 1)) : Nat) : Int) := by simp
      have hmul := wMul (Ch.ways m j : Int) ((m : Int) + ((j : Int) + 1)) ⟨by omega, by omega⟩ ⟨by omega, by omega⟩
      have hdiv := wDiv_yes 0 (Ch.ways m j * (m + (j + 1))) (j + 1) (by omega) (by omega) (by omega)
      rw [divQ_ways, show ((0 : Nat) : Int) = 0 from rfl, show ((j + 1 : Nat) : Int) = (j : Int) + 1 by simp] at hdiv
      generalize hP : Ch.ways m j * (m + (j + 1)) = P at *
      have HP := Lib.hid hpe
      have HM := Lib.hid hmul
      have HD := Lib.hid hdiv
      clear hpe hmul hdiv hP
      by_cases hov : 0 < Ch.ways m (j + 1)
      · have hov' : (0 : Int) < (Ch.ways m (j + 1) : Nat) := by omega
        have HR := Lib.hid (bases_over _ _ 0 m j j0 HC.out (by omega) hov)
        clear hov
        go_wp2_with fail
        refine (HM.out _).mono ?_
        rintro e w' ⟨hi, lo, rfl, hr, rfl⟩
        have hr1 := mul_small hr (by rw [HP.out]; omega)
        rw [HP.out] at hr1
        obtain ⟨rfl, rfl⟩ := hr1
        clear hr
        go_wp2_with fail
        refine (HD.out _).mono ?_
        rintro e w' ⟨rfl, nd2, rfl⟩
        go_wp2_with fail
        go_ret2
        exact ⟨ret_ibb (by rw [HR.out.1]; rfl) HR.out.2.symm, _, rfl⟩
      · have hov' : (Ch.ways m (j + 1) : Nat) ≤ (0 : Int) := by omega
        have HW : Hid (j + 1 = 0 ∨ Ch.ways m (j + 1) ≤ 0) := .inr (by omega)
        clear hov
        go_wp2_with fail
        refine (HM.out _).mono ?_
        rintro e w' ⟨hi, lo, rfl, hr, rfl⟩
        have hr1 := mul_small hr (by rw [HP.out]; omega)
        rw [HP.out] at hr1
        obtain ⟨rfl, rfl⟩ := hr1
        clear hr
        go_wp2_with fail
        refine (HD.out _).mono ?_
        rintro e w' ⟨rfl, nd2, rfl⟩
        go_wp2_with fail
        go_roundw
        case rel => exact ⟨j + 1, rfl, rfl, by omega, HW, _, rfl⟩
        case measure => simp [intOf]; omega
    · obtain rfl : j = j0 := by omega
      have HR := Lib.hid (bases_end _ _ 0 m _ HC.out hw.out)
      go_wp2
      go_ret2
      exact ⟨ret_ibb (by rw [HR.out.1]) (by rw [HR.out.2]; first | rfl | simp), _, rfl⟩

set_option maxHeartbeats 1000000 in
theorem bBases_clo (m j0 : Nat) (most : Int) (hmj : m ≤ j0) (hn : m + j0 ≤ 200) (hM : 1099511627776 < most) (w : World) :
    Calls Try.prog 14 #[.int .i64 (m + j0 : Nat), .int .i64 m, .int .i64 most] w fun e w' => e = .returned (.tuple #[.int .i64 (Ch.basesV (m + j0) m 1099511627776), .bool (Ch.basesB (m + j0) m 1099511627776)]) ∧ Drawn w w' := by
  have hC : Ch.ways j0 m = Ch.choose (m + j0) m := by
    have := Ch.ways_of (m + j0) m (by omega)
    rw [show min m (m + j0 - m) = m by omega, show m + j0 - m = j0 by omega] at this
    exact this
  have HC := Lib.hid hC
  clear hC
  have hmj' : (m : Int) ≤ j0 := by omega
  have hm0 : (0 : Int) ≤ m := by omega
  have hnm : (m : Int) + j0 - m = j0 := by omega
  have hnj : (m : Int) + j0 - j0 = m := by omega
  go_enter Try.func14, Try.ntmps14
  go_wp2_with fail
  go_loopw [8, 9] (fun c i wr => ∃ j : Nat, c = .int .i64 (Ch.ways j0 j) ∧ i = .int .i64 ((j : Int) + 1) ∧ j ≤ m ∧ Hid (j = 0 ∨ Ch.ways j0 j ≤ 1099511627776) ∧ Drawn w wr) (fun c i wr => (m + 1 - (intOf i).toNat))
  case atStart => exact ⟨0, by rw [Ch.ways_zero]; rfl, rfl, by omega, .inl rfl, Drawn.refl _⟩
  case round =>
    obtain ⟨j, rfl, rfl, hj, hw, ⟨nd, rfl⟩⟩ := hrel
    have hw1 : Ch.ways j0 j ≤ 1099511627776 := by
      rcases hw.out with h | h
      · subst h; rw [Ch.ways_zero]; omega
      · omega
    by_cases hlt : j < m
    · have hpb : Ch.ways j0 j * (j0 + (j + 1)) ≤ 1099511627776 * 401 := Nat.mul_le_mul hw1 (by omega)
      have hpe : (Ch.ways j0 j : Int) * ((j0 : Int) + ((j : Int) + 1)) = ((Ch.ways j0 j * (j0 + (j + 1)) : Nat) : Int) := by simp
      have hmul := wMul (Ch.ways j0 j : Int) ((j0 : Int) + ((j : Int) + 1)) ⟨by omega, by omega⟩ ⟨by omega, by omega⟩
      have hdiv := wDiv_yes 0 (Ch.ways j0 j * (j0 + (j + 1))) (j + 1) (by omega) (by omega) (by omega)
      rw [divQ_ways, show ((0 : Nat) : Int) = 0 from rfl, show ((j + 1 : Nat) : Int) = (j : Int) + 1 by simp] at hdiv
      generalize hP : Ch.ways j0 j * (j0 + (j + 1)) = P at *
      have HP := Lib.hid hpe
      have HM := Lib.hid hmul
      have HD := Lib.hid hdiv
      clear hpe hmul hdiv hP
      by_cases hov : 1099511627776 < Ch.ways j0 (j + 1)
      · have hov' : (1099511627776 : Int) < (Ch.ways j0 (j + 1) : Nat) := by omega
        have HR := Lib.hid (bases_over _ _ 1099511627776 j0 j m HC.out (by omega) hov)
        clear hov
        go_wp2_with fail
        refine (HM.out _).mono ?_
        rintro e w' ⟨hi, lo, rfl, hr, rfl⟩
        have hr1 := mul_small hr (by rw [HP.out]; omega)
        rw [HP.out] at hr1
        obtain ⟨rfl, rfl⟩ := hr1
        clear hr
        go_wp2_with fail
        refine (HD.out _).mono ?_
        rintro e w' ⟨rfl, nd2, rfl⟩
        go_wp2_with fail
        go_ret2
        exact ⟨ret_ibb (by rw [HR.out.1]; rfl) HR.out.2.symm, _, rfl⟩
      · have hov' : (Ch.ways j0 (j + 1) : Nat) ≤ (1099511627776 : Int) := by omega
        have HW : Hid (j + 1 = 0 ∨ Ch.ways j0 (j + 1) ≤ 1099511627776) := .inr (by omega)
        clear hov
        go_wp2_with fail
        refine (HM.out _).mono ?_
        rintro e w' ⟨hi, lo, rfl, hr, rfl⟩
        have hr1 := mul_small hr (by rw [HP.out]; omega)
        rw [HP.out] at hr1
        obtain ⟨rfl, rfl⟩ := hr1
        clear hr
        go_wp2_with fail
        refine (HD.out _).mono ?_
        rintro e w' ⟨rfl, nd2, rfl⟩
        go_wp2_with fail
        go_roundw
        case rel => exact ⟨j + 1, rfl, rfl, by omega, HW, _, rfl⟩
        case measure => simp [intOf]; omega
    · obtain rfl : j = m := by omega
      have HR := Lib.hid (bases_end _ _ 1099511627776 j0 _ HC.out hw.out)
      go_wp2
      go_ret2
      exact ⟨ret_ibb (by rw [HR.out.1]) (by rw [HR.out.2]; first | rfl | simp), _, rfl⟩

set_option maxHeartbeats 1000000 in
theorem bBases_chi (m j0 : Nat) (most : Int) (hmj : j0 < m) (hn : m + j0 ≤ 200) (hM : 1099511627776 < most) (w : World) :
    Calls Try.prog 14 #[.int .i64 (m + j0 : Nat), .int .i64 m, .int .i64 most] w fun e w' => e = .returned (.tuple #[.int .i64 (Ch.basesV (m + j0) m 1099511627776), .bool (Ch.basesB (m + j0) m 1099511627776)]) ∧ Drawn w w' := by
  have hC : Ch.ways m j0 = Ch.choose (m + j0) m := by
    have := Ch.ways_of (m + j0) m (by omega)
    rw [show min m (m + j0 - m) = j0 by omega, show m + j0 - j0 = m by omega] at this
    exact this
  have HC := Lib.hid hC
  clear hC
  have hmj' : (j0 : Int) < m := by omega
  have hm0 : (0 : Int) ≤ m := by omega
  have hnm : (m : Int) + j0 - m = j0 := by omega
  have hnj : (m : Int) + j0 - j0 = m := by omega
  go_enter Try.func14, Try.ntmps14
  go_wp2_with fail
  go_loopw [8, 9] (fun c i wr => ∃ j : Nat, c = .int .i64 (Ch.ways m j) ∧ i = .int .i64 ((j : Int) + 1) ∧ j ≤ j0 ∧ Hid (j = 0 ∨ Ch.ways m j ≤ 1099511627776) ∧ Drawn w wr) (fun c i wr => (j0 + 1 - (intOf i).toNat))
  case atStart => exact ⟨0, by rw [Ch.ways_zero]; rfl, rfl, by omega, .inl rfl, Drawn.refl _⟩
  case round =>
    obtain ⟨j, rfl, rfl, hj, hw, ⟨nd, rfl⟩⟩ := hrel
    have hw1 : Ch.ways m j ≤ 1099511627776 := by
      rcases hw.out with h | h
      · subst h; rw [Ch.ways_zero]; omega
      · omega
    by_cases hlt : j < j0
    · have hpb : Ch.ways m j * (m + (j + 1)) ≤ 1099511627776 * 401 := Nat.mul_le_mul hw1 (by omega)
      have hpe : (Ch.ways m j : Int) * ((m : Int) + ((j : Int) + 1)) = ((Ch.ways m j * (m + (j + 1)) : Nat) : Int) := by simp
      have hmul := wMul (Ch.ways m j : Int) ((m : Int) + ((j : Int) + 1)) ⟨by omega, by omega⟩ ⟨by omega, by omega⟩
      have hdiv := wDiv_yes 0 (Ch.ways m j * (m + (j + 1))) (j + 1) (by omega) (by omega) (by omega)
      rw [divQ_ways, show ((0 : Nat) : Int) = 0 from rfl, show ((j + 1 : Nat) : Int) = (j : Int) + 1 by simp] at hdiv
      generalize hP : Ch.ways m j * (m + (j + 1)) = P at *
      have HP := Lib.hid hpe
      have HM := Lib.hid hmul
      have HD := Lib.hid hdiv
      clear hpe hmul hdiv hP
      by_cases hov : 1099511627776 < Ch.ways m (j + 1)
      · have hov' : (1099511627776 : Int) < (Ch.ways m (j + 1) : Nat) := by omega
        have HR := Lib.hid (bases_over _ _ 1099511627776 m j j0 HC.out (by omega) hov)
        clear hov
        go_wp2_with fail
        refine (HM.out _).mono ?_
        rintro e w' ⟨hi, lo, rfl, hr, rfl⟩
        have hr1 := mul_small hr (by rw [HP.out]; omega)
        rw [HP.out] at hr1
        obtain ⟨rfl, rfl⟩ := hr1
        clear hr
        go_wp2_with fail
        refine (HD.out _).mono ?_
        rintro e w' ⟨rfl, nd2, rfl⟩
        go_wp2_with fail
        go_ret2
        exact ⟨ret_ibb (by rw [HR.out.1]; rfl) HR.out.2.symm, _, rfl⟩
      · have hov' : (Ch.ways m (j + 1) : Nat) ≤ (1099511627776 : Int) := by omega
        have HW : Hid (j + 1 = 0 ∨ Ch.ways m (j + 1) ≤ 1099511627776) := .inr (by omega)
        clear hov
        go_wp2_with fail
        refine (HM.out _).mono ?_
        rintro e w' ⟨hi, lo, rfl, hr, rfl⟩
        have hr1 := mul_small hr (by rw [HP.out]; omega)
        rw [HP.out] at hr1
        obtain ⟨rfl, rfl⟩ := hr1
        clear hr
        go_wp2_with fail
        refine (HD.out _).mono ?_
        rintro e w' ⟨rfl, nd2, rfl⟩
        go_wp2_with fail
        go_roundw
        case rel => exact ⟨j + 1, rfl, rfl, by omega, HW, _, rfl⟩
        case measure => simp [intOf]; omega
    · obtain rfl : j = j0 := by omega
      have HR := Lib.hid (bases_end _ _ 1099511627776 m _ HC.out hw.out)
      go_wp2
      go_ret2
      exact ⟨ret_ibb (by rw [HR.out.1]) (by rw [HR.out.2]; first | rfl | simp), _, rfl⟩

theorem clamp_pos (M : Nat) (h : M ≤ 1099511627776) : clampM (M : Int) = M := by unfold clampM; omega
theorem clamp_neg (most : Int) (h : most ≤ 0) : clampM most = 0 := by unfold clampM; omega
theorem clamp_big (most : Int) (h : 1099511627776 < most) : clampM most = 1099511627776 := by unfold clampM; omega
theorem bBases_in (n m : Nat) (most : Int) (h : m ≤ n) (hn : n ≤ 200) (w : World) :
    Calls Try.prog 14 #[.int .i64 n, .int .i64 m, .int .i64 most] w fun e w' => e = .returned (.tuple #[.int .i64 (Ch.basesV n m (clampM most)), .bool (Ch.basesB n m (clampM most))]) ∧ Drawn w w' := by
  obtain ⟨j, rfl⟩ : ∃ j, n = m + j := ⟨n - m, by omega⟩
  by_cases h0 : most ≤ 0
  · rw [clamp_neg most h0]
    by_cases hj : m ≤ j
    · exact bBases_blo m j most hj hn h0 w
    · exact bBases_bhi m j most (by omega) hn h0 w
  by_cases h1 : 1099511627776 < most
  · rw [clamp_big most h1]
    by_cases hj : m ≤ j
    · exact bBases_clo m j most hj hn h1 w
    · exact bBases_chi m j most (by omega) hn h1 w
  obtain ⟨M, rfl⟩ := Int.eq_ofNat_of_zero_le (show 0 ≤ most by omega)
  rw [clamp_pos M (by omega)]
  by_cases hj : m ≤ j
  · exact bBases_alo m j M hj hn ⟨by omega, by omega⟩ w
  · exact bBases_ahi m j M (by omega) hn ⟨by omega, by omega⟩ w
end Go.Proofs.Ytknflfnkdieomaa
