/- Plain laws: what words are worth. Nothing of the program. -/
import Derived.Test.YtngghjhmfpmilaaMem
namespace Go.Proofs.Ytngghjhmfpmilaa

/-- what n words are worth, the lowest first -/
def val (f : Nat → Nat) : Nat → Nat
  | 0 => 0
  | n + 1 => val f n + f n * 2 ^ (64 * n)
def Wf (f : Nat → Nat) (n : Nat) : Prop := ∀ i, i < n → f i < 18446744073709551616
theorem p64 (n : Nat) : 2 ^ (64 * (n + 1)) = 18446744073709551616 * 2 ^ (64 * n) := by
  rw [Nat.mul_add, Nat.pow_add, Nat.mul_comm]
theorem val_lt (f : Nat → Nat) : ∀ n, Wf f n → val f n < 2 ^ (64 * n)
  | 0, _ => by simp [val]
  | n + 1, h => by
    have ih := val_lt f n fun i hi => h i (by omega)
    have hf := h n (by omega)
    rw [val, p64]
    have : f n * 2 ^ (64 * n) ≤ 18446744073709551615 * 2 ^ (64 * n) := Nat.mul_le_mul_right _ (by omega)
    have e : 18446744073709551616 * 2 ^ (64 * n) = 18446744073709551615 * 2 ^ (64 * n) + 2 ^ (64 * n) := by
      rw [show (18446744073709551616 : Nat) = 18446744073709551615 + 1 from rfl, Nat.add_mul, Nat.one_mul]
    omega
theorem nw_val (f : Nat → Nat) (n : Nat) (h : Wf f n) : nw (val f n) ≤ n := (nw_le _ _).2 (val_lt f n h)
theorem val_congr (f g : Nat → Nat) : ∀ n, (∀ i, i < n → f i = g i) → val f n = val g n
  | 0, _ => rfl
  | n + 1, h => by rw [val, val, val_congr f g n fun i hi => h i (by omega), h n (by omega)]
theorem wd_val (f : Nat → Nat) : ∀ n i, Wf f n → i < n → wd (val f n) i = f i
  | 0, _, _, h => by omega
  | n + 1, i, hw, hi => by
    have hw' : Wf f n := fun j hj => hw j (by omega)
    by_cases h : i = n
    · subst h
      unfold wd
      rw [val, Nat.add_mul_div_right _ _ (Nat.two_pow_pos _), Nat.div_eq_of_lt (val_lt f i hw'), Nat.zero_add]
      exact Nat.mod_eq_of_lt (hw i (by omega))
    · have ih := wd_val f n i hw' (by omega)
      unfold wd at *
      rw [val]
      have e : f n * 2 ^ (64 * n) = (f n * 2 ^ (64 * (n - i - 1)) * 18446744073709551616) * 2 ^ (64 * i) := by
        rw [Nat.mul_assoc, Nat.mul_assoc, show (18446744073709551616 : Nat) = 2 ^ 64 from rfl, ← Nat.pow_add, ← Nat.pow_add]
        rw [show 64 * (n - i - 1) + (64 + 64 * i) = 64 * n by omega]
      rw [e, Nat.add_mul_div_right _ _ (Nat.two_pow_pos _), Nat.add_mul_mod_self_right]
      exact ih
/-- a number is worth its words -/
theorem val_wd (x : Nat) : ∀ n, val (wd x) n = x % 2 ^ (64 * n)
  | 0 => by simp [val, Nat.mod_one]
  | n + 1 => by
    rw [val, val_wd x n, p64, Nat.mul_comm 18446744073709551616, Nat.mod_mul]
    unfold wd
    rw [Nat.mul_comm (x / 2 ^ (64 * n) % 18446744073709551616)]
theorem val_all (x n : Nat) (h : nw x ≤ n) : val (wd x) n = x := by
  rw [val_wd, Nat.mod_eq_of_lt ((nw_le x n).1 h)]
theorem wf_wd (x n : Nat) : Wf (wd x) n := fun i _ => wd_lt x i
theorem val_top (f : Nat → Nat) (n : Nat) (h : f n = 0) : val f (n + 1) = val f n := by rw [val, h]; simp
theorem nw_top (f : Nat → Nat) (n : Nat) (hw : Wf f (n + 1)) (h : f n ≠ 0) : nw (val f (n + 1)) = n + 1 := by
  have h1 := nw_val f (n + 1) hw
  by_cases h2 : nw (val f (n + 1)) ≤ n
  · have h3 := wd_high _ _ h2
    rw [wd_val f (n + 1) n hw (by omega)] at h3
    exact absurd h3 h
  · omega
theorem val_ext (f : Nat → Nat) (n m : Nat) (h : n ≤ m) (hz : ∀ i, n ≤ i → i < m → f i = 0) : val f m = val f n := by
  induction m with
  | zero => obtain rfl : n = 0 := by omega
            rfl
  | succ m ih =>
    by_cases e : n = m + 1
    · rw [e]
    · rw [val_top f m (hz m (by omega) (by omega))]
      exact ih (by omega) fun i h1 h2 => hz i h1 (by omega)
/-- two numbers with the same words are one -/
theorem eq_of_wd (x y : Nat) (h : ∀ i, wd x i = wd y i) : x = y := by
  obtain ⟨m, hx, hy⟩ : ∃ m, nw x ≤ m ∧ nw y ≤ m := ⟨max (nw x) (nw y), by omega, by omega⟩
  have h1 := val_all x m hx
  have h2 := val_all y m hy
  have h3 := val_congr (wd x) (wd y) m fun i _ => h i
  rw [h1, h2] at h3
  exact h3
end Go.Proofs.Ytngghjhmfpmilaa
