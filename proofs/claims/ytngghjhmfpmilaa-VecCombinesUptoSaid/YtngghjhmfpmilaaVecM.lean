/- Plain laws of rows of fractions. -/
import Derived.Test.YtngghjhmfpmilaaRatL
namespace Go.Proofs.Ytngghjhmfpmilaa
open Go.RowKit
/-- from place i on, k places: what the first ones that differ say -/
def cmpFrom (a b : Nat → Rat) : Nat → Nat → Int
  | 0, _ => 0
  | k + 1, i => if a i = b i then cmpFrom a b k (i + 1) else cmpQ (a i) (b i)
def cmpVec (a : Nat → Rat) (n : Nat) (b : Nat → Rat) (m : Nat) : Int :=
  if cmpFrom a b (min n m) 0 = 0 then (if n < m then -1 else if n > m then 1 else 0) else cmpFrom a b (min n m) 0
def firstFrom (a : Nat → Rat) : Nat → Nat → Int
  | 0, _ => -1
  | k + 1, i => if a i = 0 then firstFrom a k (i + 1) else (i : Nat)
def firstV (a : Nat → Rat) (n : Nat) : Int := firstFrom a n 0
theorem cmpQ_zero (p q : Rat) : cmpQ p q = 0 ↔ p = q := by unfold cmpQ; grind
theorem cmp_zero {p q : Rat} (h : ((cmpQ p q : Int) != (0 : Int)) = false) : p = q := (cmpQ_zero p q).1 (by simpa using h)
theorem cmp_nz {p q : Rat} (h : ((cmpQ p q : Int) != (0 : Int)) = true) : p ≠ q := fun e => by
  rw [(cmpQ_zero p q).2 e] at h
  exact absurd h (by decide)
theorem eq_step {a b : Nat → Rat} {i : Nat} (h : ∀ j, j < i → a j = b j) (e : a i = b i) : ∀ j, j < i + 1 → a j = b j := fun j hj => by
  by_cases hji : j = i
  · subst hji; exact e
  · exact h j (by omega)
theorem min_lt {i n m : Nat} (h : decide ((((i : Nat) : Int) : Int) < (min ((((n : Nat) : Int) : Int)) ((((m : Nat) : Int) : Int)) : Int)) = true) : i < n ∧ i < m := by
  have := of_decide_eq_true h
  omega
theorem min_ge {i n m : Nat} (h : decide ((((i : Nat) : Int) : Int) < (min ((((n : Nat) : Int) : Int)) ((((m : Nat) : Int) : Int)) : Int)) = false) : min n m ≤ i := by
  have := of_decide_eq_false h
  omega
theorem cmpFrom_skip {a b : Nat → Rat} : ∀ (i : Nat) {N : Nat}, i ≤ N → (∀ j, j < i → a j = b j) → cmpFrom a b N 0 = cmpFrom a b (N - i) i
  | 0, _, _, _ => rfl
  | i + 1, N, h, he => by
    rw [cmpFrom_skip i (by omega) fun j hj => he j (by omega)]
    have e : N - i = (N - (i + 1)) + 1 := by omega
    rw [e]
    show (if a i = b i then _ else _) = _
    rw [if_pos (he i (by omega))]
theorem cmpVec_at {a b : Nat → Rat} {n m i : Nat} (h1 : i < n) (h2 : i < m) (he : ∀ j, j < i → a j = b j) (hd : a i ≠ b i) : cmpVec a n b m = cmpQ (a i) (b i) := by
  have e : cmpFrom a b (min n m) 0 = cmpQ (a i) (b i) := by
    rw [cmpFrom_skip i (by omega) he]
    have e : min n m - i = (min n m - (i + 1)) + 1 := by omega
    rw [e]
    show (if a i = b i then _ else _) = _
    rw [if_neg hd]
  unfold cmpVec
  rw [e, if_neg fun h => hd ((cmpQ_zero _ _).1 h)]
theorem cmpVec_end {a b : Nat → Rat} {n m i : Nat} {z : Int} (h1 : i ≤ n) (h2 : i ≤ m) (h3 : min n m ≤ i) (he : ∀ j, j < i → a j = b j)
    (hz : (z = -1 ∧ decide ((((n : Nat) : Int) : Int) < (((m : Nat) : Int) : Int)) = true) ∨ (z = 1 ∧ decide ((((n : Nat) : Int) : Int) < (((m : Nat) : Int) : Int)) = false ∧ decide ((((n : Nat) : Int) : Int) > (((m : Nat) : Int) : Int)) = true) ∨ (z = 0 ∧ decide ((((n : Nat) : Int) : Int) < (((m : Nat) : Int) : Int)) = false ∧ decide ((((n : Nat) : Int) : Int) > (((m : Nat) : Int) : Int)) = false)) : cmpVec a n b m = z := by
  have e : cmpFrom a b (min n m) 0 = 0 := by
    rw [cmpFrom_skip i (by omega) he, show min n m - i = 0 by omega]
    rfl
  unfold cmpVec
  rw [if_pos e]
  rcases hz with ⟨rfl, h⟩ | ⟨rfl, h, h'⟩ | ⟨rfl, h, h'⟩
  · have := of_decide_eq_true h
    rw [if_pos (by omega)]
  · have := of_decide_eq_true h'
    rw [if_neg (by omega), if_pos (by omega)]
  · have := of_decide_eq_false h
    have := of_decide_eq_false h'
    rw [if_neg (by omega), if_neg (by omega)]
theorem cmpVec_zero {a b : Nat → Rat} {n m : Nat} : cmpVec a n b m = 0 ↔ n = m ∧ ∀ j, j < n → a j = b j := by
  have key : ∀ k i, cmpFrom a b k i = 0 ↔ ∀ j, i ≤ j → j < i + k → a j = b j := by
    intro k
    induction k with
    | zero => intro i; exact ⟨fun _ j h1 h2 => by omega, fun _ => rfl⟩
    | succ k ih =>
      intro i
      show (if a i = b i then _ else _) = 0 ↔ _
      by_cases h : a i = b i
      · rw [if_pos h, ih]
        exact ⟨fun hh j h1 h2 => by
          by_cases e : j = i
          · subst e; exact h
          · exact hh j (by omega) (by omega), fun hh j h1 h2 => hh j (by omega) (by omega)⟩
      · rw [if_neg h, cmpQ_zero]
        exact ⟨fun e => absurd e h, fun hh => absurd (hh i (by omega) (by omega)) h⟩
  unfold cmpVec
  by_cases h : cmpFrom a b (min n m) 0 = 0
  · rw [if_pos h]
    rw [key] at h
    constructor
    · intro hz
      have hnm : n = m := by
        by_cases h1 : n < m
        · rw [if_pos h1] at hz; omega
        · rw [if_neg h1] at hz
          by_cases h2 : n > m
          · rw [if_pos h2] at hz; omega
          · omega
      exact ⟨hnm, fun j hj => h j (by omega) (by omega)⟩
    · rintro ⟨rfl, _⟩
      rw [if_neg (by omega), if_neg (by omega)]
  · rw [if_neg h]
    constructor
    · intro hz; exact absurd hz h
    · rintro ⟨rfl, he⟩
      exact absurd ((key _ _).2 fun j _ hj => he j (by omega)) h
theorem zero_step {a : Nat → Rat} {i : Nat} (h : ∀ j, j < i → a j = 0) (e : (!decide (a i = 0)) = false) : ∀ j, j < i + 1 → a j = 0 := fun j hj => by
  by_cases hji : j = i
  · subst hji; simpa using e
  · exact h j (by omega)
theorem firstFrom_skip {a : Nat → Rat} : ∀ (i : Nat) {N : Nat}, i ≤ N → (∀ j, j < i → a j = 0) → firstFrom a N 0 = firstFrom a (N - i) i
  | 0, _, _, _ => rfl
  | i + 1, N, h, he => by
    rw [firstFrom_skip i (by omega) fun j hj => he j (by omega)]
    have e : N - i = (N - (i + 1)) + 1 := by omega
    rw [e]
    show (if a i = 0 then _ else _) = _
    rw [if_pos (he i (by omega))]
theorem firstV_at {a : Nat → Rat} {n i : Nat} (h1 : i < n) (he : ∀ j, j < i → a j = 0) (hd : (!decide (a i = 0)) = true) : firstV a n = (i : Nat) := by
  unfold firstV
  rw [firstFrom_skip i (by omega) he]
  have e : n - i = (n - (i + 1)) + 1 := by omega
  rw [e]
  show (if a i = 0 then _ else _) = _
  rw [if_neg (by simpa using hd)]
theorem firstV_end {a : Nat → Rat} {n i : Nat} (he : ∀ j, j < i → a j = 0) (h : n ≤ i) : firstV a n = -1 := by
  unfold firstV
  rw [firstFrom_skip n (Nat.le_refl _) fun j hj => he j (by omega), Nat.sub_self]
  rfl
theorem firstV_neg {a : Nat → Rat} {n : Nat} : firstV a n < 0 ↔ ∀ j, j < n → a j = 0 := by
  have key : ∀ k i, firstFrom a k i < 0 ↔ ∀ j, i ≤ j → j < i + k → a j = 0 := by
    intro k
    induction k with
    | zero => intro i; exact ⟨fun _ j h1 h2 => by omega, fun _ => show (-1 : Int) < 0 by decide⟩
    | succ k ih =>
      intro i
      show (if a i = 0 then _ else _) < 0 ↔ _
      by_cases h : a i = 0
      · rw [if_pos h, ih]
        exact ⟨fun hh j h1 h2 => by
          by_cases e : j = i
          · subst e; exact h
          · exact hh j (by omega) (by omega), fun hh j h1 h2 => hh j (by omega) (by omega)⟩
      · rw [if_neg h]
        exact ⟨fun e => by omega, fun hh => absurd (hh i (by omega) (by omega)) h⟩
  unfold firstV
  rw [key]
  exact ⟨fun h j hj => h j (by omega) (by omega), fun h j _ hj => h j (by omega)⟩
/-- the sum of the products -/
def dotQ (a b : Nat → Rat) : Nat → Rat
  | 0 => 0
  | n + 1 => dotQ a b n + a n * b n
theorem dot_skip {a b : Nat → Rat} {i : Nat} (h : ((!(decide (a i = 0))) && (!(decide (b i = 0)))) = false) : dotQ a b i = dotQ a b (i + 1) := by
  have : a i * b i = 0 := by
    simp only [Bool.and_eq_false_iff, Bool.not_eq_false', decide_eq_true_eq] at h
    rcases h with h | h <;> rw [h] <;> simp
  show _ = dotQ a b i + a i * b i
  rw [this, Rat.add_zero]
theorem nought_yes {z : Int} (h : ((decide ((z : Int) < (0 : Int))) || (decide ((z : Int) > (64 : Int)))) = true) : ¬ (0 ≤ z ∧ z ≤ 64) := by
  simp only [Bool.or_eq_true, decide_eq_true_eq] at h
  omega
theorem nought_no {z : Int} (h : ((decide ((z : Int) < (0 : Int))) || (decide ((z : Int) > (64 : Int)))) = false) : 0 ≤ z ∧ z ≤ 64 := by
  simp only [Bool.or_eq_false_iff, decide_eq_false_iff_not] at h
  omega
theorem unit_yes {z k : Int} (h : ((((!(decide (0 ≤ z ∧ z ≤ 64))) || (decide ((k : Int) < (0 : Int))))) || (decide ((k : Int) ≥ (z : Int)))) = true) : ¬ ((0 ≤ z ∧ z ≤ 64) ∧ 0 ≤ k ∧ k < z) := by
  simp only [Bool.or_eq_true, Bool.not_eq_true', decide_eq_true_eq, decide_eq_false_iff_not] at h
  omega
theorem unit_no {z k : Int} (h : ((((!(decide (0 ≤ z ∧ z ≤ 64))) || (decide ((k : Int) < (0 : Int))))) || (decide ((k : Int) ≥ (z : Int)))) = false) : (0 ≤ z ∧ z ≤ 64) ∧ 0 ≤ k ∧ k < z := by
  simp only [Bool.or_eq_false_iff, Bool.not_eq_false', decide_eq_true_eq, decide_eq_false_iff_not] at h
  omega
end Go.Proofs.Ytngghjhmfpmilaa
