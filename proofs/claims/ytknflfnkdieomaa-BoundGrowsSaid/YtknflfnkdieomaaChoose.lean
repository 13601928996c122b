/- Plain laws of the ways to choose: nothing of the program. -/
import Derived.WalkKit
namespace Go.Proofs.Ytknflfnkdieomaa.Ch

/-- in how many ways k may be taken of n -/
def choose : Nat → Nat → Nat
  | _, 0 => 1
  | 0, _ + 1 => 0
  | n + 1, k + 1 => choose n k + choose n (k + 1)
theorem c0 (n : Nat) : choose n 0 = 1 := by cases n <;> rfl
theorem cs (n k : Nat) : choose (n + 1) (k + 1) = choose n k + choose n (k + 1) := rfl
theorem big (n : Nat) : ∀ k, n < k → choose n k = 0 := by
  induction n with
  | zero => intro k h; cases k with
    | zero => omega
    | succ k => rfl
  | succ n ih => intro k h; cases k with
    | zero => omega
    | succ k => rw [cs, ih k (by omega), ih (k + 1) (by omega)]
theorem self (n : Nat) : choose n n = 1 := by
  induction n with
  | zero => rfl
  | succ n ih => rw [cs, ih, big n (n + 1) (by omega)]
theorem absorb (n : Nat) : ∀ k, (k + 1) * choose (n + 1) (k + 1) = (n + 1) * choose n k := by
  induction n with
  | zero => intro k; cases k with
    | zero => rfl
    | succ k => rw [big 1 (k + 1 + 1) (by omega), big 0 (k + 1) (by omega)]; omega
  | succ n ih =>
    intro k
    cases k with
    | zero =>
      rw [c0, cs, c0]
      have := ih 0
      rw [c0] at this
      omega
    | succ k =>
      have h1 := ih k
      have h2 := ih (k + 1)
      rw [cs (n + 1) (k + 1), Nat.mul_add, h2]
      have h3 : (k + 1 + 1) * choose (n + 1) (k + 1) = (k + 1) * choose (n + 1) (k + 1) + choose (n + 1) (k + 1) := by rw [Nat.add_mul (k + 1), Nat.one_mul]
      rw [h3, h1]
      have h4 : (n + 1) * choose n k + (n + 1) * choose n (k + 1) = (n + 1) * choose (n + 1) (k + 1) := by rw [← Nat.mul_add, cs]
      have h5 : (n + 1 + 1) * choose (n + 1) (k + 1) = (n + 1) * choose (n + 1) (k + 1) + choose (n + 1) (k + 1) := by rw [Nat.add_mul (n + 1), Nat.one_mul]
      omega
theorem sym (n : Nat) : ∀ k, k ≤ n → choose n k = choose n (n - k) := by
  induction n with
  | zero => intro k h; obtain rfl : k = 0 := by omega
            rfl
  | succ n ih =>
    intro k h
    cases k with
    | zero => rw [c0, Nat.sub_zero, self]
    | succ k =>
      by_cases hk : k = n
      · subst hk; rw [Nat.sub_self, c0, self]
      · rw [show n + 1 - (k + 1) = (n - (k + 1)) + 1 by omega, cs, cs, ih k (by omega), ih (k + 1) (by omega), show n - (k + 1) + 1 = n - k by omega, Nat.add_comm]
theorem le_two_pow (n : Nat) : ∀ k, choose n k ≤ 2 ^ n := by
  induction n with
  | zero => intro k; cases k <;> simp [choose]
  | succ n ih => intro k; cases k with
    | zero => rw [c0]; exact Nat.one_le_two_pow
    | succ k => rw [cs, Nat.pow_succ]; have := ih k; have := ih (k + 1); omega
/-- what the program has behind k rounds -/
def ways (d k : Nat) : Nat := choose (d + k) k
theorem ways_zero (d : Nat) : ways d 0 = 1 := c0 _
theorem ways_succ (d k : Nat) : ways d k * (d + (k + 1)) = ways d (k + 1) * (k + 1) := by
  unfold ways
  have := absorb (d + k) k
  rw [show d + k + 1 = d + (k + 1) by omega] at this
  rw [Nat.mul_comm (choose (d + k) k), Nat.mul_comm _ (k + 1)]
  exact this.symm
theorem ways_div (d k : Nat) : ways d k * (d + (k + 1)) / (k + 1) = ways d (k + 1) := by
  rw [ways_succ]; exact Nat.mul_div_cancel _ (by omega)
theorem ways_mono (d k : Nat) : ways d k ≤ ways d (k + 1) := by
  unfold ways
  rw [show d + (k + 1) = d + k + 1 by omega, cs]; omega
theorem ways_le (d k : Nat) : ∀ j, ways d k ≤ ways d (k + j) := by
  intro j
  induction j with
  | zero => exact Nat.le_refl _
  | succ j ih => exact Nat.le_trans ih (ways_mono d (k + j))
/-- the document's answer, up to a most -/
def basesV (n m most : Nat) : Nat := if choose n m ≤ most then choose n m else most + 1
def basesB (n m most : Nat) : Bool := decide (choose n m ≤ most)
theorem ways_of (n m : Nat) (h : m ≤ n) : ways (n - min m (n - m)) (min m (n - m)) = choose n m := by
  unfold ways
  by_cases h2 : m ≤ n - m
  · rw [Nat.min_eq_left h2, show n - m + m = n by omega]
  · rw [Nat.min_eq_right (by omega), show n - (n - m) + (n - m) = n by omega]
    exact (sym n m h).symm
end Go.Proofs.Ytknflfnkdieomaa.Ch
