import Derived.Test.YtknflfnkdieomaaBlawA
namespace Go.Proofs.Ytknflfnkdieomaa
open Go.RowKit

set_option maxHeartbeats 1000000 in
theorem bases_big (n m most : Int) (h : 200 < n) (w : World) :
    Calls Try.prog 3 #[.int .i64 n, .int .i64 m, .int .i64 most] w fun e w' => e = .returned (.bool true) ∧ Below w.heap.size w w' := by
  go_enter Try.func3, Try.ntmps3
  go_wp2_with fail
  refine (awake15 _).mono ?_
  rintro e w' ⟨rfl, n0, rfl⟩
  go_wp2_with fail
  go_ret
  exact ⟨rfl, below_drewN (Below.refl _ _) _⟩
set_option maxHeartbeats 1000000 in
theorem bases_none (n m most : Int) (h : n ≤ 200) (hm : m < 0 ∨ n < m) (w : World) :
    Calls Try.prog 3 #[.int .i64 n, .int .i64 m, .int .i64 most] w fun e w' => e = .returned (.bool true) ∧ Below w.heap.size w w' := by
  have x1 := Lib.hid (bBases_out n m most hm)
  have x2 := Lib.hid (rBases_out n m most hm)
  clear hm
  go_enter Try.func3, Try.ntmps3
  go_wp2_with fail
  refine (awake15 _).mono ?_
  rintro e w' ⟨rfl, n0, rfl⟩
  go_wp2_with fail
  refine (x1.out _).mono ?_
  rintro e w' ⟨rfl, n1, rfl⟩
  go_wp2_with fail
  refine (x2.out _).mono ?_
  rintro e w1 ⟨rfl, hb⟩
  go_wp2_with fail
  go_ret
  exact ⟨rfl, (below_drewN (Below.refl _ _) _).trans hb⟩
set_option maxHeartbeats 1000000 in
theorem bases_some (n m : Nat) (most : Int) (h : n ≤ 200) (hm : m ≤ n) (w : World) :
    Calls Try.prog 3 #[.int .i64 n, .int .i64 m, .int .i64 most] w fun e w' => e = .returned (.bool true) ∧ Below w.heap.size w w' := by
  have x1 := Lib.hid (bBases_in n m most hm h)
  have x2 := Lib.hid (rBases_in n m most hm h)
  go_enter Try.func3, Try.ntmps3
  go_wp2_with fail
  refine (awake15 _).mono ?_
  rintro e w' ⟨rfl, n0, rfl⟩
  go_wp2_with fail
  refine (x1.out _).mono ?_
  rintro e w' ⟨rfl, n1, rfl⟩
  go_wp2_with fail
  refine (x2.out _).mono ?_
  rintro e w1 ⟨rfl, hb⟩
  go_wp2_with fail
  go_ret
  exact ⟨rfl, (below_drewN (Below.refl _ _) _).trans hb⟩
theorem boundBases (n m most : Int) (w : World) :
    Calls Try.prog 3 #[.int .i64 n, .int .i64 m, .int .i64 most] w fun e w' => e = .returned (.bool true) ∧ Below w.heap.size w w' := by
  by_cases h1 : 200 < n
  · exact bases_big n m most h1 w
  by_cases h2 : m < 0 ∨ n < m
  · exact bases_none n m most (by omega) h2 w
  obtain ⟨m, rfl⟩ := Int.eq_ofNat_of_zero_le (show 0 ≤ m by omega)
  obtain ⟨n, rfl⟩ := Int.eq_ofNat_of_zero_le (show 0 ≤ n by omega)
  exact bases_some n m most (by omega) (by omega) w

theorem choose_cap (n m : Nat) (h : n ≤ 30) : Ch.basesV n m (clampM 1099511627776) = Ch.choose n m ∧ Ch.basesB n m (clampM 1099511627776) = true := by
  have h1 := Ch.le_two_pow n m
  have h2 : 2 ^ n ≤ 2 ^ 30 := Nat.pow_le_pow_right (by omega) h
  rw [cap40]
  unfold Ch.basesV Ch.basesB
  have h3 : Ch.choose n m ≤ 1099511627776 := by omega
  rw [if_pos h3]
  exact ⟨rfl, decide_eq_true h3⟩
theorem choose_small (n m : Nat) (h : n ≤ 30) : Ch.choose n m ≤ 1073741824 := Nat.le_trans (Ch.le_two_pow n m) (Nat.pow_le_pow_right (by omega) h)
theorem pB_in (n m : Nat) (hm : m ≤ n) (hn : n ≤ 30) (w : World) :
    Calls Try.prog 14 #[.int .i64 n, .int .i64 m, .int .i64 1099511627776] w fun e w' => e = .returned (.tuple #[.int .i64 (Ch.choose n m), .bool true]) ∧ Drawn w w' := by
  have := bBases_in n m 1099511627776 hm (by omega) w
  rw [(choose_cap n m hn).1, (choose_cap n m hn).2] at this
  exact this
theorem pB_out (n m : Int) (h : m < 0 ∨ n < m) (w : World) :
    Calls Try.prog 14 #[.int .i64 n, .int .i64 m, .int .i64 1099511627776] w fun e w' => e = .returned (.tuple #[.int .i64 0, .bool true]) ∧ Drawn w w' := bBases_out n m _ h w
def Pb (n m v : Int) : Prop := ∀ w : World, Calls Try.prog 14 #[.int .i64 n, .int .i64 m, .int .i64 1099511627776] w fun e w' => e = .returned (.tuple #[.int .i64 v, .bool true]) ∧ Drawn w w'
theorem Pb.to {n m v n' m' v' : Int} (h : Pb n m v) (hn : n = n') (hm : m = m') (hv : v = v') : Pb n' m' v' := by subst hn; subst hm; subst hv; exact h
set_option maxRecDepth 100000 in
set_option maxHeartbeats 1000000 in
theorem pascal_core (n m a b : Nat) (ea : (n : Int) % 30 = a) (eb : (m : Int) % 32 = b) (_ha : a ≤ 29) (_hb : b ≤ 31) (v1 v2 v3 v4 : Int) (g2 : 0 ≤ v2 ∧ v2 ≤ 1073741824) (g3 : 0 ≤ v3 ∧ v3 ≤ 1073741824) (x1 : Pb ((a : Int) + 1) b v1) (x2 : Pb a b v2) (x3 : Pb a ((b : Int) - 1) v3) (x4 : Pb ((a : Int) + 1) ((a : Int) + 1 - b) v4)
    (h : v1 = v2 + v3) (h' : v4 = v1) (w : World) :
    Calls Try.prog 4 #[.int .u8 n, .int .u8 m] w fun e w' => e = .returned (.bool true) ∧ Below w.heap.size w w' := by
  subst h'
  have t1 : (v4 == v2 + v3) = true := by rw [h]; simp
  obtain ⟨g2, g2'⟩ := g2
  obtain ⟨g3, g3'⟩ := g3
  clear h
  go_enter Try.func4, Try.ntmps4
  go_wp2_with fail
  refine (awake15 _).mono ?_
  rintro e w' ⟨rfl, n0, rfl⟩
  go_wp2_with fail
  refine (x1 _).mono ?_
  rintro e w' ⟨rfl, n1, rfl⟩
  go_wp2_with fail
  refine (x2 _).mono ?_
  rintro e w' ⟨rfl, n2, rfl⟩
  go_wp2_with fail
  refine (x3 _).mono ?_
  rintro e w' ⟨rfl, n3, rfl⟩
  go_wp2_with fail
  refine (x4 _).mono ?_
  rintro e w' ⟨rfl, n4, rfl⟩
  go_wp2_with fail
  go_ret
  exact ⟨rfl, below_drewN (Below.refl _ _) _⟩
theorem boundPascal (n m : Nat) (w : World) :
    Calls Try.prog 4 #[.int .u8 n, .int .u8 m] w fun e w' => e = .returned (.bool true) ∧ Below w.heap.size w w' := by
  obtain ⟨a, ha⟩ : ∃ a, a = n % 30 := ⟨_, rfl⟩
  obtain ⟨b, hb⟩ : ∃ b, b = m % 32 := ⟨_, rfl⟩
  have ea : (n : Int) % 30 = a := by omega
  have eb : (m : Int) % 32 = b := by omega
  have la : a ≤ 29 := by omega
  have lb : b ≤ 31 := by omega
  clear ha hb
  have inn : ∀ p q : Nat, q ≤ p → p ≤ 30 → Pb p q (Ch.choose p q : Nat) := fun p q h1 h2 w => pB_in p q h1 h2 w
  have out : ∀ p q : Int, (q < 0 ∨ p < q) → Pb p q 0 := fun p q h w => pB_out p q h w
  by_cases c1 : a + 1 < b
  · exact pascal_core n m a b ea eb la lb 0 0 0 0 ⟨by omega, by omega⟩ ⟨by omega, by omega⟩ (out _ _ (by omega)) (out _ _ (by omega)) (out _ _ (by omega)) (out _ _ (by omega)) rfl rfl w
  by_cases c2 : b = a + 1
  · subst c2
    refine pascal_core n m a (a + 1) ea eb la lb 1 0 1 1 ⟨by omega, by omega⟩ ⟨by omega, by omega⟩ ((inn (a + 1) (a + 1) (by omega) (by omega)).to (by omega) (by omega) (by rw [Ch.self]; rfl)) (out _ _ (by omega))
      ((inn a a (by omega) (by omega)).to (by omega) (by omega) (by rw [Ch.self]; rfl)) ((inn (a + 1) 0 (by omega) (by omega)).to (by omega) (by omega) (by rw [Ch.c0]; rfl)) rfl rfl w
  by_cases c3 : b = 0
  · subst c3
    refine pascal_core n m a 0 ea eb la lb 1 1 0 1 ⟨by omega, by omega⟩ ⟨by omega, by omega⟩ ((inn (a + 1) 0 (by omega) (by omega)).to (by omega) (by omega) (by rw [Ch.c0]; rfl)) ((inn a 0 (by omega) (by omega)).to (by omega) (by omega) (by rw [Ch.c0]; rfl)) (out _ _ (by omega))
      ((inn (a + 1) (a + 1) (by omega) (by omega)).to (by omega) (by omega) (by rw [Ch.self]; rfl)) rfl rfl w
  obtain ⟨c, rfl⟩ : ∃ c, b = c + 1 := ⟨b - 1, by omega⟩
  have k2 := choose_small a (c + 1) (by omega)
  have k3 := choose_small a c (by omega)
  refine pascal_core n m a (c + 1) ea eb la lb (Ch.choose (a + 1) (c + 1) : Nat) (Ch.choose a (c + 1) : Nat) (Ch.choose a c : Nat) (Ch.choose (a + 1) (c + 1) : Nat) ⟨by omega, by omega⟩ ⟨by omega, by omega⟩
    ((inn (a + 1) (c + 1) (by omega) (by omega)).to (by omega) (by omega) rfl) ((inn a (c + 1) (by omega) (by omega)).to rfl (by omega) rfl) ((inn a c (by omega) (by omega)).to rfl (by omega) rfl)
    ((inn (a + 1) (a - c) (by omega) (by omega)).to (by omega) (by omega) (by rw [Ch.sym (a + 1) (c + 1) (by omega), show a + 1 - (c + 1) = a - c by omega])) (by rw [Ch.cs]; omega) rfl w
end Go.Proofs.Ytknflfnkdieomaa
