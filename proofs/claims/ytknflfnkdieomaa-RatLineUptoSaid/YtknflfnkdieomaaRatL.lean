/- Plain laws of fractions, for the laws of chapter 08. -/
import Derived.Test.YtknflfnkdieomaaRatM2
namespace Go.Proofs.Ytknflfnkdieomaa
open Go.RowKit
theorem cmpQ_neg (p q : Rat) : -(cmpQ q p) = cmpQ p q := by
  unfold cmpQ; grind
theorem cmpQ_add (p q r : Rat) : cmpQ (p + r) (q + r) = cmpQ p q := by
  unfold cmpQ; grind
theorem cmpQ_trans (p q r : Rat) (h : cmpQ p q ≤ 0) (k : cmpQ q r ≤ 0) : cmpQ p r ≤ 0 := by
  unfold cmpQ at *; grind
theorem cmpQ_bd (p q : Rat) : -1 ≤ cmpQ p q ∧ cmpQ p q ≤ 1 := by
  unfold cmpQ; grind
theorem num_pos_of (r : Rat) (h : 0 < r) : 0 < r.num := by
  have h1 : 0 ≤ r.num := Rat.num_nonneg.2 (by grind)
  have h2 : r.num ≠ 0 := fun e => by rw [Rat.num_eq_zero] at e; grind
  omega
theorem num_neg_of (r : Rat) (h : r < 0) : r.num < 0 := by
  have h1 : ¬ 0 ≤ r.num := fun e => by rw [Rat.num_nonneg] at e; grind
  omega
theorem sign_pos (r : Rat) (h : 0 < r) : r.num.sign = 1 := Int.sign_eq_one_of_pos (num_pos_of r h)
theorem sign_neg (r : Rat) (h : r < 0) : r.num.sign = -1 := Int.sign_eq_neg_one_of_neg (num_neg_of r h)
theorem sign_bd (r : Rat) : -1 ≤ r.num.sign ∧ r.num.sign ≤ 1 := by
  rcases Int.lt_trichotomy r.num 0 with h | h | h
  · rw [Int.sign_eq_neg_one_of_neg h]; decide
  · rw [h]; decide
  · rw [Int.sign_eq_one_of_pos h]; decide
theorem cmpQ_mul (p q r : Rat) : cmpQ (p * r) (q * r) = cmpQ p q * r.num.sign := by
  by_cases h : 0 < r
  · rw [sign_pos r h, Int.mul_one]
    unfold cmpQ
    have h1 := Rat.mul_lt_mul_right (a := p) (b := q) h
    have h2 := Rat.mul_lt_mul_right (a := q) (b := p) h
    grind
  · by_cases h0 : r = 0
    · subst h0; unfold cmpQ; simp
    · have hn : r < 0 := by grind
      rw [sign_neg r hn]
      unfold cmpQ
      have h1 := Rat.mul_lt_mul_right (a := p) (b := q) (c := -r) (by grind)
      have h2 := Rat.mul_lt_mul_right (a := q) (b := p) (c := -r) (by grind)
      grind
theorem line1 (x y z : Rat) : (((((((cmpQ x y : Int) != (-(cmpQ y x) : Int)) || (((((decide ((cmpQ x y : Int) ≤ (0 : Int))) && (decide ((cmpQ y z : Int) ≤ (0 : Int))))) && (decide ((cmpQ x z : Int) > (0 : Int))))))) || ((cmpQ (x + z) (y + z) : Int) != (cmpQ x y : Int))))) = false := by
  rw [cmpQ_neg, cmpQ_add]
  have h := cmpQ_trans x y z
  by_cases h1 : cmpQ x y ≤ 0 <;> by_cases h2 : cmpQ y z ≤ 0 <;> simp [h1, h2]
  exact h h1 h2
theorem line2 (x y z : Rat) : ((cmpQ (x * z) (y * z) : Int) == (cmpQ x y * z.num.sign : Int)) = true := by
  rw [cmpQ_mul]; simp
theorem cmp_sign_bd (x y z : Rat) : -1 ≤ cmpQ x y * z.num.sign ∧ cmpQ x y * z.num.sign ≤ 1 := by
  rw [← cmpQ_mul]; exact cmpQ_bd _ _
theorem neg_wrap (x y : Rat) : IntKind.i64.wrap (0 - cmpQ x y) = -(cmpQ x y) := by
  have := cmpQ_bd x y
  rw [IntKind.wrap_i64]; omega
theorem mul_wrap (x y z : Rat) : IntKind.i64.wrap (cmpQ x y * z.num.sign) = cmpQ x y * z.num.sign := by
  have := cmp_sign_bd x y z
  rw [IntKind.wrap_i64]; omega
end Go.Proofs.Ytknflfnkdieomaa
