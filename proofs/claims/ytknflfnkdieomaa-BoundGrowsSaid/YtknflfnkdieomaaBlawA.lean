import Derived.Test.YtknflfnkdieomaaRbases
namespace Go.Proofs.Ytknflfnkdieomaa
open Go.RowKit

theorem clamp100 : clampM 100 = 100 := by decide
theorem clamp1000 : clampM 1000 = 1000 := by decide
theorem cap40 : clampM 1099511627776 = 1099511627776 := by unfold clampM; omega
theorem c52 : Ch.basesV 5 2 100 = 10 ∧ Ch.basesB 5 2 100 = true := by decide
theorem c6432 : Ch.basesV 64 32 1000 = 1001 ∧ Ch.basesB 64 32 1000 = false := by
  have h1 : Ch.ways 32 1 = 33 := by rw [← Ch.ways_div, Ch.ways_zero]
  have h2 : Ch.ways 32 2 = 561 := by rw [← Ch.ways_div, h1]
  have h3 : Ch.ways 32 3 = 6545 := by rw [← Ch.ways_div, h2]
  have h4 := Ch.ways_le 32 3 29
  rw [h3] at h4
  have h5 : 6545 ≤ Ch.choose 64 32 := h4
  unfold Ch.basesV Ch.basesB
  rw [if_neg (by omega)]
  exact ⟨rfl, decide_eq_false (by omega)⟩
set_option maxHeartbeats 1000000 in
theorem awake15 (w : World) :
    Calls Try.prog 13 #[] w fun e w' => e = .returned (.bool true) ∧ Drawn w w' := by
  have e1 : detV 2 3 = 9 := by decide
  have e2 : detV 0 0 = 1 := by decide
  have e3 := c52
  have e4 := c6432
  have b1 := bDet_yes 2 3 (by omega) (by omega)
  have b2 := bDet_yes 0 0 (by omega) (by omega)
  have b3 := bBases_in 5 2 100 (by omega) (by omega)
  have b4 := bBases_in 64 32 1000 (by omega) (by omega)
  rw [e1] at b1
  rw [e2] at b2
  rw [clamp100, e3.1, e3.2] at b3
  rw [clamp1000, e4.1, e4.2] at b4
  have B1 := Lib.hid b1
  have B2 := Lib.hid b2
  have B3 := Lib.hid b3
  have B4 := Lib.hid b4
  clear e1 e2 e3 e4 b1 b2 b3 b4
  go_enter Try.func13, Try.ntmps13
  go_wp2_with fail
  refine (B1.out _).mono ?_
  rintro e w' ⟨rfl, n1, rfl⟩
  go_wp2_with fail
  refine (B2.out _).mono ?_
  rintro e w' ⟨rfl, n2, rfl⟩
  go_wp2_with fail
  refine (B3.out _).mono ?_
  rintro e w' ⟨rfl, n3, rfl⟩
  go_wp2_with fail
  refine (B4.out _).mono ?_
  rintro e w' ⟨rfl, n4, rfl⟩
  go_wp2_with fail
  go_ret
  exact ⟨rfl, _, rfl⟩


set_option maxRecDepth 100000 in
set_option maxHeartbeats 1000000 in
theorem tells_c1 (n b : Int) (h : n < 0 ∧ True) (w : World) :
    Calls Try.prog 6 #[.int .i64 n, .int .i64 b] w fun e w' => e = .returned (.bool true) ∧ Below w.heap.size w w' := by
  obtain ⟨h1, h2⟩ := h
  have x1 := Lib.hid (bDet_no n b (by unfold detIn; omega))
  have x2 := Lib.hid (rDet_no n b (by unfold detIn; omega))
  have x3 := Lib.hid (bRational_no n b (by unfold ratIn; omega))
  have x4 := Lib.hid (bSolution_no n b (by unfold ratIn; omega))
  go_enter Try.func6, Try.ntmps6
  go_wp2_with fail
  refine (awake15 _).mono ?_
  rintro e w' ⟨rfl, n0, rfl⟩
  go_wp2_with fail
  refine (x1.out _).mono ?_
  rintro e w' ⟨rfl, n1, rfl⟩
  go_wp2_with fail
  refine (x2.out _).mono ?_
  rintro e w' ⟨rfl, n2, rfl⟩
  go_wp2_with fail
  refine (x3.out _).mono ?_
  rintro e w' ⟨rfl, n3, rfl⟩
  go_wp2_with fail
  refine (x4.out _).mono ?_
  rintro e w' ⟨rfl, n4, rfl⟩
  go_wp2_with fail
  go_ret
  exact ⟨rfl, below_drewN (Below.refl _ _) _⟩

set_option maxRecDepth 100000 in
set_option maxHeartbeats 1000000 in
theorem tells_c2 (n b : Int) (h : 0 ≤ n ∧ 64 < n) (w : World) :
    Calls Try.prog 6 #[.int .i64 n, .int .i64 b] w fun e w' => e = .returned (.bool true) ∧ Below w.heap.size w w' := by
  obtain ⟨h1, h2⟩ := h
  have x1 := Lib.hid (bDet_no n b (by unfold detIn; omega))
  have x2 := Lib.hid (rDet_no n b (by unfold detIn; omega))
  have x3 := Lib.hid (bRational_no n b (by unfold ratIn; omega))
  have x4 := Lib.hid (bSolution_no n b (by unfold ratIn; omega))
  go_enter Try.func6, Try.ntmps6
  go_wp2_with fail
  refine (awake15 _).mono ?_
  rintro e w' ⟨rfl, n0, rfl⟩
  go_wp2_with fail
  refine (x1.out _).mono ?_
  rintro e w' ⟨rfl, n1, rfl⟩
  go_wp2_with fail
  refine (x2.out _).mono ?_
  rintro e w' ⟨rfl, n2, rfl⟩
  go_wp2_with fail
  refine (x3.out _).mono ?_
  rintro e w' ⟨rfl, n3, rfl⟩
  go_wp2_with fail
  refine (x4.out _).mono ?_
  rintro e w' ⟨rfl, n4, rfl⟩
  go_wp2_with fail
  go_ret
  exact ⟨rfl, below_drewN (Below.refl _ _) _⟩

set_option maxRecDepth 100000 in
set_option maxHeartbeats 1000000 in
theorem tells_c3 (n b : Int) (h : 0 ≤ n ∧ n ≤ 64 ∧ b < 0) (w : World) :
    Calls Try.prog 6 #[.int .i64 n, .int .i64 b] w fun e w' => e = .returned (.bool true) ∧ Below w.heap.size w w' := by
  obtain ⟨h1, h2, h3⟩ := h
  have x1 := Lib.hid (bDet_no n b (by unfold detIn; omega))
  have x2 := Lib.hid (rDet_no n b (by unfold detIn; omega))
  have x3 := Lib.hid (bRational_no n b (by unfold ratIn; omega))
  have x4 := Lib.hid (bSolution_no n b (by unfold ratIn; omega))
  go_enter Try.func6, Try.ntmps6
  go_wp2_with fail
  refine (awake15 _).mono ?_
  rintro e w' ⟨rfl, n0, rfl⟩
  go_wp2_with fail
  refine (x1.out _).mono ?_
  rintro e w' ⟨rfl, n1, rfl⟩
  go_wp2_with fail
  refine (x2.out _).mono ?_
  rintro e w' ⟨rfl, n2, rfl⟩
  go_wp2_with fail
  refine (x3.out _).mono ?_
  rintro e w' ⟨rfl, n3, rfl⟩
  go_wp2_with fail
  refine (x4.out _).mono ?_
  rintro e w' ⟨rfl, n4, rfl⟩
  go_wp2_with fail
  go_ret
  exact ⟨rfl, below_drewN (Below.refl _ _) _⟩

set_option maxRecDepth 100000 in
set_option maxHeartbeats 1000000 in
theorem tells_c4 (n b : Int) (h : 0 ≤ n ∧ n ≤ 64 ∧ 1073741824 < b) (w : World) :
    Calls Try.prog 6 #[.int .i64 n, .int .i64 b] w fun e w' => e = .returned (.bool true) ∧ Below w.heap.size w w' := by
  obtain ⟨h1, h2, h3⟩ := h
  have hd : decide (b ≤ 1048576) = false := decide_eq_false (by omega)
  have x1 := Lib.hid (bDet_no n b (by unfold detIn; omega))
  have x2 := Lib.hid (rDet_no n b (by unfold detIn; omega))
  have x3 := Lib.hid (bRational_no n b (by unfold ratIn; omega))
  have x4 := Lib.hid (bSolution_no n b (by unfold ratIn; omega))
  go_enter Try.func6, Try.ntmps6
  go_wp2_with fail
  refine (awake15 _).mono ?_
  rintro e w' ⟨rfl, n0, rfl⟩
  go_wp2_with fail
  refine (x1.out _).mono ?_
  rintro e w' ⟨rfl, n1, rfl⟩
  go_wp2_with fail
  refine (x2.out _).mono ?_
  rintro e w' ⟨rfl, n2, rfl⟩
  go_wp2_with fail
  refine (x3.out _).mono ?_
  rintro e w' ⟨rfl, n3, rfl⟩
  go_wp2_with fail
  refine (x4.out _).mono ?_
  rintro e w' ⟨rfl, n4, rfl⟩
  go_wp2_with fail
  go_ret
  exact ⟨rfl, below_drewN (Below.refl _ _) _⟩

set_option maxRecDepth 100000 in
set_option maxHeartbeats 1000000 in
theorem tells_b (n b : Nat) (h : n ≤ 64 ∧ 1048576 < b ∧ b ≤ 1073741824) (w : World) :
    Calls Try.prog 6 #[.int .i64 n, .int .i64 b] w fun e w' => e = .returned (.bool true) ∧ Below w.heap.size w w' := by
  obtain ⟨h1, h2, h3⟩ := h
  have hd : decide ((b : Int) ≤ 1048576) = false := decide_eq_false (by omega)
  have x1 := Lib.hid (bDet_yes n b (by omega) (by omega))
  have x2 := Lib.hid (rDet_yes n b (by omega) (by omega))
  have x3 := Lib.hid (bRational_no n b (by unfold ratIn; omega))
  have x4 := Lib.hid (bSolution_no n b (by unfold ratIn; omega))
  go_enter Try.func6, Try.ntmps6
  go_wp2_with fail
  refine (awake15 _).mono ?_
  rintro e w' ⟨rfl, n0, rfl⟩
  go_wp2_with fail
  refine (x1.out _).mono ?_
  rintro e w' ⟨rfl, n1, rfl⟩
  go_wp2_with fail
  refine (x2.out _).mono ?_
  rintro e w' ⟨rfl, n2, rfl⟩
  go_wp2_with fail
  refine (x3.out _).mono ?_
  rintro e w' ⟨rfl, n3, rfl⟩
  go_wp2_with fail
  refine (x4.out _).mono ?_
  rintro e w' ⟨rfl, n4, rfl⟩
  go_wp2_with fail
  go_ret
  exact ⟨rfl, below_drewN (Below.refl _ _) _⟩

set_option maxRecDepth 100000 in
set_option maxHeartbeats 1000000 in
theorem tells_a (n b : Nat) (hn : n ≤ 64) (hb : b ≤ 1048576) (w : World) :
    Calls Try.prog 6 #[.int .i64 n, .int .i64 b] w fun e w' => e = .returned (.bool true) ∧ Below w.heap.size w w' := by
  have l1 : n * b ≤ 64 * 1048576 := Nat.mul_le_mul hn hb
  have l1' : (n + 1) * b ≤ 65 * 1048576 := Nat.mul_le_mul (by omega) hb
  have l2 : n * n ≤ 64 * 64 := Nat.mul_le_mul hn hn
  have l3 : n * n * b ≤ 64 * 64 * 1048576 := Nat.mul_le_mul l2 hb
  have e1 : (n : Int) * b = ((n * b : Nat) : Int) := by simp
  have e1' : ((n : Int) + 1) * b = (((n + 1) * b : Nat) : Int) := by simp
  have l2' : (n : Int) * n ≤ 4096 := by rw [← Int.natCast_mul]; omega
  have l2'' : 0 ≤ (n : Int) * n := by rw [← Int.natCast_mul]; omega
  have l3' : (n : Int) * n * b ≤ 4294967296 := by rw [← Int.natCast_mul, ← Int.natCast_mul]; omega
  have l3'' : 0 ≤ (n : Int) * n * b := by rw [← Int.natCast_mul, ← Int.natCast_mul]; omega
  have ld := detV_le n (n * b) hn (by omega)
  have ld' := detV_le n ((n + 1) * b) hn (by omega)
  have hv : ((ratV n b : Int) == (detV n (n * b) : Nat) + (n : Int) * n * b + 1) = true := by unfold ratV; simp
  have hv' : ((solV n b : Int) == 2 * (detV n ((n + 1) * b) : Nat)) = true := by unfold solV; simp
  have x1 := Lib.hid (bDet_yes n b (by omega) (by omega))
  have x2 := Lib.hid (rDet_yes n b (by omega) (by omega))
  have x3 := Lib.hid (bRational_yes n b hn hb)
  have x4 := Lib.hid (bSolution_yes n b hn hb)
  have x5 := Lib.hid (rDet_yes n (n * b) (by omega) (by omega))
  have x6 := Lib.hid (rDet_yes n ((n + 1) * b) (by omega) (by omega))
  have k1 : ((n * b : Nat) : Int) ≤ 67108864 := by omega
  have k2 : 0 ≤ ((n * b : Nat) : Int) := by omega
  have k3 : (((n + 1) * b : Nat) : Int) ≤ 68157440 := by omega
  have k4 : 0 ≤ (((n + 1) * b : Nat) : Int) := by omega
  generalize n * b = z at *
  generalize (n + 1) * b = z' at *
  clear l1 l1' l2 l3
  go_enter Try.func6, Try.ntmps6
  go_wp2_with fail
  refine (awake15 _).mono ?_
  rintro e w' ⟨rfl, n0, rfl⟩
  go_wp2_with fail
  refine (x1.out _).mono ?_
  rintro e w' ⟨rfl, n1, rfl⟩
  go_wp2_with fail
  refine (x2.out _).mono ?_
  rintro e w' ⟨rfl, n2, rfl⟩
  go_wp2_with fail
  refine (x3.out _).mono ?_
  rintro e w' ⟨rfl, n3, rfl⟩
  go_wp2_with fail
  refine (x4.out _).mono ?_
  rintro e w' ⟨rfl, n4, rfl⟩
  go_wp2_with fail
  refine (x5.out _).mono ?_
  rintro e w' ⟨rfl, n5, rfl⟩
  go_wp2_with fail
  refine (x6.out _).mono ?_
  rintro e w' ⟨rfl, n6, rfl⟩
  go_wp2_with fail
  go_ret
  exact ⟨rfl, below_drewN (Below.refl _ _) _⟩

theorem boundTells (n b : Int) (w : World) :
    Calls Try.prog 6 #[.int .i64 n, .int .i64 b] w fun e w' => e = .returned (.bool true) ∧ Below w.heap.size w w' := by
  by_cases h1 : n < 0
  · exact tells_c1 n b ⟨h1, trivial⟩ w
  by_cases h2 : 64 < n
  · exact tells_c2 n b ⟨by omega, h2⟩ w
  by_cases h3 : b < 0
  · exact tells_c3 n b ⟨by omega, by omega, h3⟩ w
  by_cases h4 : 1073741824 < b
  · exact tells_c4 n b ⟨by omega, by omega, h4⟩ w
  obtain ⟨n, rfl⟩ := Int.eq_ofNat_of_zero_le (show 0 ≤ n by omega)
  obtain ⟨b, rfl⟩ := Int.eq_ofNat_of_zero_le (show 0 ≤ b by omega)
  by_cases h5 : 1048576 < b
  · exact tells_b n b ⟨by omega, h5, by omega⟩ w
  · exact tells_a n b (by omega) (by omega) w

theorem detV_mono_b (n b : Nat) : detV n b ≤ detV n (b + 1) := by
  unfold detV
  have : n * b ≤ n * (b + 1) := Nat.mul_le_mul_left _ (by omega)
  omega
theorem blen_mono (n : Nat) : Wd.blen n ≤ Wd.blen (n + 1) := by
  rw [Wd.blen_le]
  exact Nat.lt_trans (by omega) (Wd.lt_two_pow_blen (n + 1))
theorem detV_mono_n (n b b' : Nat) (h : b ≤ b') : detV n b ≤ detV (n + 1) b' := by
  unfold detV
  have h1 : n * b ≤ (n + 1) * b' := Nat.mul_le_mul (by omega) h
  have h2 : n * Wd.blen n ≤ (n + 1) * Wd.blen (n + 1) := Nat.mul_le_mul (by omega) (blen_mono n)
  omega
theorem solV_mono_b (n b : Nat) : solV n b ≤ solV n (b + 1) := by
  unfold solV detV
  have : n * ((n + 1) * b) ≤ n * ((n + 1) * (b + 1)) := Nat.mul_le_mul_left _ (Nat.mul_le_mul_left _ (by omega))
  omega
theorem solV_mono_n (n b : Nat) : solV n b ≤ solV (n + 1) b := by
  unfold solV
  have := detV_mono_n n ((n + 1) * b) ((n + 1 + 1) * b) (Nat.mul_le_mul_right _ (by omega))
  omega
def growsIn (n b : Int) : Prop := 0 ≤ n ∧ n < 64 ∧ 0 ≤ b ∧ b < 1048576
set_option maxRecDepth 100000 in
set_option maxHeartbeats 1000000 in
theorem grows_out (n b : Int) (h : ¬ growsIn n b) (w : World) :
    Calls Try.prog 5 #[.int .i64 n, .int .i64 b] w fun e w' => e = .returned (.bool true) ∧ Below w.heap.size w w' := by
  by_cases h1 : n < 0
  · clear h
    go_enter Try.func5, Try.ntmps5
    go_wp2_with fail
    refine (awake15 _).mono ?_
    rintro e w' ⟨rfl, n0, rfl⟩
    go_wp2_with fail
    go_ret
    exact ⟨rfl, below_drewN (Below.refl _ _) _⟩
  have h1' : 0 ≤ n := by omega
  by_cases h2 : 64 ≤ n
  · clear h h1
    go_enter Try.func5, Try.ntmps5
    go_wp2_with fail
    refine (awake15 _).mono ?_
    rintro e w' ⟨rfl, n0, rfl⟩
    go_wp2_with fail
    go_ret
    exact ⟨rfl, below_drewN (Below.refl _ _) _⟩
  have h2' : n < 64 := by omega
  by_cases h3 : b < 0
  · clear h h1 h2
    go_enter Try.func5, Try.ntmps5
    go_wp2_with fail
    refine (awake15 _).mono ?_
    rintro e w' ⟨rfl, n0, rfl⟩
    go_wp2_with fail
    go_ret
    exact ⟨rfl, below_drewN (Below.refl _ _) _⟩
  have h3' : 0 ≤ b := by omega
  have h4 : 1048576 ≤ b := by unfold growsIn at h; omega
  clear h h1 h2 h3
  go_enter Try.func5, Try.ntmps5
  go_wp2_with fail
  refine (awake15 _).mono ?_
  rintro e w' ⟨rfl, n0, rfl⟩
  go_wp2_with fail
  go_ret
  exact ⟨rfl, below_drewN (Below.refl _ _) _⟩
set_option maxRecDepth 100000 in
set_option maxHeartbeats 1000000 in
theorem grows_in (n b : Nat) (hn : n < 64) (hb : b < 1048576) (w : World) :
    Calls Try.prog 5 #[.int .i64 n, .int .i64 b] w fun e w' => e = .returned (.bool true) ∧ Below w.heap.size w w' := by
  have x1 := Lib.hid (bDet_yes n b (by omega) (by omega))
  have x2 := Lib.hid (bDet_yes (n + 1) b (by omega) (by omega))
  have x3 := Lib.hid (bDet_yes n (b + 1) (by omega) (by omega))
  have x4 := Lib.hid (bSolution_yes n b (by omega) (by omega))
  have x5 := Lib.hid (bSolution_yes (n + 1) b (by omega) (by omega))
  have x6 := Lib.hid (bSolution_yes n (b + 1) (by omega) (by omega))
  have m1 : (detV n b : Int) ≤ detV (n + 1) b := by have := detV_mono_n n b b (Nat.le_refl _); omega
  have m2 : (detV n b : Int) ≤ detV n (b + 1) := by have := detV_mono_b n b; omega
  have m3 : (solV n b : Int) ≤ solV (n + 1) b := by have := solV_mono_n n b; omega
  have m4 : (solV n b : Int) ≤ solV n (b + 1) := by have := solV_mono_b n b; omega
  go_enter Try.func5, Try.ntmps5
  go_wp2_with fail
  refine (awake15 _).mono ?_
  rintro e w' ⟨rfl, n0, rfl⟩
  go_wp2_with fail
  refine (x1.out _).mono ?_
  rintro e w' ⟨rfl, n1, rfl⟩
  go_wp2_with fail
  refine (x2.out _).mono ?_
  rintro e w' ⟨rfl, n2, rfl⟩
  go_wp2_with fail
  refine (x3.out _).mono ?_
  rintro e w' ⟨rfl, n3, rfl⟩
  go_wp2_with fail
  refine (x4.out _).mono ?_
  rintro e w' ⟨rfl, n4, rfl⟩
  go_wp2_with fail
  refine (x5.out _).mono ?_
  rintro e w' ⟨rfl, n5, rfl⟩
  go_wp2_with fail
  refine (x6.out _).mono ?_
  rintro e w' ⟨rfl, n6, rfl⟩
  go_wp2_with fail
  go_ret
  exact ⟨rfl, below_drewN (Below.refl _ _) _⟩
theorem boundGrows (n b : Int) (w : World) :
    Calls Try.prog 5 #[.int .i64 n, .int .i64 b] w fun e w' => e = .returned (.bool true) ∧ Below w.heap.size w w' := by
  by_cases h : growsIn n b
  · obtain ⟨h1, h2, h3, h4⟩ := h
    obtain ⟨n, rfl⟩ := Int.eq_ofNat_of_zero_le h1
    obtain ⟨b, rfl⟩ := Int.eq_ofNat_of_zero_le h3
    exact grows_in n b (by omega) (by omega) w
  · exact grows_out n b h w

end Go.Proofs.Ytknflfnkdieomaa
