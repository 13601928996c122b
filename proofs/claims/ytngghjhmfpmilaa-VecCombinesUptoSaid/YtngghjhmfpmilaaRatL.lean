/- Plain laws of fractions, for the laws of chapter 08. -/
import Derived.Test.YtngghjhmfpmilaaRatM2
namespace Go.Proofs.Ytngghjhmfpmilaa
open Go.RowKit
theorem cmpQ_neg (p q : Rat) : -(cmpQ q p) = cmpQ p q := by
  unfold cmpQ; grind
theorem cmpQ_add (p q r : Rat) : cmpQ (p + r) (q + r) = cmpQ p q := by
  unfold cmpQ; grind
theorem cmpQ_trans (p q r : Rat) (h : cmpQ p q ≤ 0) (k : cmpQ q r ≤ 0) : cmpQ p r ≤ 0 := by
  unfold cmpQ at *; grind
theorem cmpQ_bd (p q : Rat) : -1 ≤ cmpQ p q ∧ cmpQ p q ≤ 1 := by
  unfold cmpQ; grind
theorem num_pos_of (r : Rat) (h : 0 < r) : 0 < r.num := by
  have h1 : 0 ≤ r.num := Rat.num_nonneg.2 (by grind)
  have h2 : r.num ≠ 0 := fun e => by rw [Rat.num_eq_zero] at e; grind
  omega
theorem num_neg_of (r : Rat) (h : r < 0) : r.num < 0 := by
  have h1 : ¬ 0 ≤ r.num := fun e => by rw [Rat.num_nonneg] at e; grind
  omega
theorem sign_pos (r : Rat) (h : 0 < r) : r.num.sign = 1 := Int.sign_eq_one_of_pos (num_pos_of r h)
theorem sign_neg (r : Rat) (h : r < 0) : r.num.sign = -1 := Int.sign_eq_neg_one_of_neg (num_neg_of r h)
theorem sign_bd (r : Rat) : -1 ≤ r.num.sign ∧ r.num.sign ≤ 1 := by
  rcases Int.lt_trichotomy r.num 0 with h | h | h
  · rw [Int.sign_eq_neg_one_of_neg h]; decide
  · rw [h]; decide
  · rw [Int.sign_eq_one_of_pos h]; decide
theorem cmpQ_mul (p q r : Rat) : cmpQ (p * r) (q * r) = cmpQ p q * r.num.sign := by
  by_cases h : 0 < r
  · rw [sign_pos r h, Int.mul_one]
    unfold cmpQ
    have h1 := Rat.mul_lt_mul_right (a := p) (b := q) h
    have h2 := Rat.mul_lt_mul_right (a := q) (b := p) h
    grind
  · by_cases h0 : r = 0
    · subst h0; unfold cmpQ; simp
    · have hn : r < 0 := by grind
      rw [sign_neg r hn]
      unfold cmpQ
      have h1 := Rat.mul_lt_mul_right (a := p) (b := q) (c := -r) (by grind)
      have h2 := Rat.mul_lt_mul_right (a := q) (b := p) (c := -r) (by grind)
      grind
theorem line1 (x y z : Rat) : (((((((cmpQ x y : Int) != (-(cmpQ y x) : Int)) || (((((decide ((cmpQ x y : Int) ≤ (0 : Int))) && (decide ((cmpQ y z : Int) ≤ (0 : Int))))) && (decide ((cmpQ x z : Int) > (0 : Int))))))) || ((cmpQ (x + z) (y + z) : Int) != (cmpQ x y : Int))))) = false := by
  rw [cmpQ_neg, cmpQ_add]
  have h := cmpQ_trans x y z
  by_cases h1 : cmpQ x y ≤ 0 <;> by_cases h2 : cmpQ y z ≤ 0 <;> simp [h1, h2]
  exact h h1 h2
theorem line2 (x y z : Rat) : ((cmpQ (x * z) (y * z) : Int) == (cmpQ x y * z.num.sign : Int)) = true := by
  rw [cmpQ_mul]; simp
theorem cmp_sign_bd (x y z : Rat) : -1 ≤ cmpQ x y * z.num.sign ∧ cmpQ x y * z.num.sign ≤ 1 := by
  rw [← cmpQ_mul]; exact cmpQ_bd _ _
theorem neg_wrap (x y : Rat) : IntKind.i64.wrap (0 - cmpQ x y) = -(cmpQ x y) := by
  have := cmpQ_bd x y
  rw [IntKind.wrap_i64]; omega
theorem mul_wrap (x y z : Rat) : IntKind.i64.wrap (cmpQ x y * z.num.sign) = cmpQ x y * z.num.sign := by
  have := cmp_sign_bd x y z
  rw [IntKind.wrap_i64]; omega
theorem fieldA (x y z : Rat) : ((((((((!(decide ((y + x) = (x + y)))) || (!(decide ((y * x) = (x * y)))))) || (!(decide ((x - x) = 0))))) || (!(decide (((x + y) + z) = (x + (y + z)))))))) = false := by
  rw [decide_eq_true (Rat.add_comm y x), decide_eq_true (Rat.mul_comm y x), decide_eq_true (show x - x = 0 by grind), decide_eq_true (Rat.add_assoc x y z)]; rfl
theorem fieldB (x y z : Rat) : ((((!(decide ((z * (x + y)) = ((z * x) + (z * y))))) || (!(decide (((x * y) * z) = (x * (y * z)))))))) = false := by
  rw [decide_eq_true (Rat.mul_add z x y), decide_eq_true (Rat.mul_assoc x y z)]; rfl
theorem fieldZ {x : Rat} (h : decide (x = 0) = true) : (!(!decide (x = 0))) = true := by rw [h]; rfl
theorem fieldC {x : Rat} (y : Rat) (h : decide (x = 0) = false) : ((((((((!decide (x = 0)) && (decide ((x * ((x)⁻¹)) = Rat.divInt 1 1)))) && (!decide (x = 0)))) && (decide (((y * x) / x) = y))))) = true := by
  have h0 : x ≠ 0 := of_decide_eq_false h
  have h1 : Rat.divInt 1 1 = 1 := rfl
  rw [h, h1, decide_eq_true (Rat.mul_inv_cancel x h0), decide_eq_true (show y * x / x = y by rw [Rat.div_def, Rat.mul_assoc, Rat.mul_inv_cancel x h0, Rat.mul_one])]; rfl
theorem sz_num {q : Rat} {a c : Nat} (h : szq q ≤ a) (hc : a < c) : nw q.num.natAbs < c := by have := szq_num q; omega
theorem sz_den {q : Rat} {a c : Nat} (h : szq q ≤ a) (hc : a < c) : nw q.den < c := by have := szq_den q; omega
theorem cmpV_z (a b : Int) : (cmpV a b == 0) = decide (a = b) := by
  unfold cmpV
  by_cases h : a < b
  · have : a ≠ b := by omega
    simp [h, this]
  · by_cases e : a = b <;> simp [h, e]
theorem mul_den (x : Rat) : x * (x.den : Rat) = (x.num : Rat) := by
  have h := Rat.num_divInt_den x
  rw [Rat.divInt_eq_div] at h
  have hd : ((x.den : Int) : Rat) ≠ 0 := by
    have := x.den_nz
    intro e
    have e2 : ((x.den : Int) : Rat) = ((0 : Int) : Rat) := e
    rw [Rat.intCast_inj] at e2
    omega
  have e3 : (x.den : Rat) = ((x.den : Int) : Rat) := rfl
  rw [e3]
  rw [← h]
  conv => lhs; rw [h]
  grind
theorem plain1 (x y : Rat) : (((((((((((decide (x = y)) == (((((cmpV x.num y.num : Int) == (0 : Int)) && ((cmpV ((x.den : Nat)) ((y.den : Nat)) : Int) == (0 : Int)))))) && (decide (Nat.gcd ((x.num).natAbs) x.den = 1)))) && (!(decide (x.den = 0))))) && (((!(decide (x = 0))) || (decide (x.den = 1)))))) && (decide ((x * ((((signed (false) (x.den)) : Int) : Rat))) = (((x.num : Int) : Rat))))))) = true := by
  rw [cmpV_z, cmpV_z, decide_eq_true (show Nat.gcd x.num.natAbs x.den = 1 from x.reduced), decide_eq_false x.den_nz, decide_eq_true (show x * ((signed false x.den : Int) : Rat) = x.num from mul_den x)]
  have e1 : (decide (x = y) == (decide (x.num = y.num) && decide ((x.den : Int) = (y.den : Int)))) = true := by
    by_cases e : x = y
    · subst e; simp
    · rw [decide_eq_false e]
      by_cases h1 : x.num = y.num
      · by_cases h2 : x.den = y.den
        · exact absurd (Rat.ext h1 h2) e
        · simp
          exact .inr fun h => h2 (by omega)
      · simp [h1]
  rw [e1]
  by_cases h : x = 0
  · subst h; simp
  · simp [h]
theorem floor_or (x : Rat) : ((x.floor : Rat) = x ∧ x.den = 1 ∧ (-(-x).floor) = x.floor) ∨ ((x.floor : Rat) < x ∧ x.den ≠ 1 ∧ (-(-x).floor) = x.floor + 1) := by
  have h1 := Rat.floor_le x
  have h2 := Rat.lt_floor_add_one x
  have h3 := Rat.floor_le (-x)
  have h4 := Rat.lt_floor_add_one (-x)
  by_cases hd : x.den = 1
  · left
    have e : x = (x.num : Rat) := Rat.ext rfl hd
    have f : x.floor = x.num := by rw [e]; exact Rat.floor_intCast _
    have f2 : (-x).floor = -x.num := by
      have : -x = ((-x.num : Int) : Rat) := by rw [Rat.intCast_neg]; rw [← e]
      rw [this]; exact Rat.floor_intCast _
    exact ⟨by rw [f]; exact e.symm, hd, by rw [f, f2]; omega⟩
  · right
    have hne : (x.floor : Rat) ≠ x := fun e => hd (by rw [← e]; exact Rat.den_intCast _)
    have hlt : (x.floor : Rat) < x := by grind
    refine ⟨hlt, hd, ?_⟩
    have g1 : ((-x).floor : Rat) < -((x.floor : Int) : Rat) := by grind
    have g2 : (-x).floor < -x.floor := by
      have : (((-x).floor : Int) : Rat) < ((-x.floor : Int) : Rat) := by rw [Rat.intCast_neg]; exact g1
      exact Rat.intCast_lt_intCast.1 this
    have g3 : -x.floor < (-x).floor + 2 := by
      have : ((-x.floor : Int) : Rat) < (((-x).floor + 2 : Int) : Rat) := by
        rw [Rat.intCast_neg, Rat.intCast_add]
        rw [Rat.intCast_add] at h4 h2
        have : ((2 : Int) : Rat) = 1 + 1 := by rw [show (2 : Int) = 1 + 1 from rfl, Rat.intCast_add]; rfl
        have : ((1 : Int) : Rat) = 1 := rfl
        grind
      exact Rat.intCast_lt_intCast.1 this
    omega
theorem abs_sign (x : Rat) : (0 : Int) ≤ (absQ x).num.sign := by
  unfold absQ
  split
  · rw [Rat.neg_num]
    exact Int.sign_nonneg_iff.2 (by omega)
  · exact Int.sign_nonneg_iff.2 (by omega)
theorem abs_max (x : Rat) : absQ x = (if cmpQ (-x) x > 0 then (-x) else x) := by
  have h := @Rat.num_nonneg x
  unfold absQ cmpQ
  by_cases h1 : x.num < 0
  · have : ¬ 0 ≤ x := fun e => by rw [← h] at e; omega
    rw [if_pos h1]
    grind
  · have : 0 ≤ x := h.1 (by omega)
    rw [if_neg h1]
    grind
theorem floorsG (x : Rat) (g : Int) (hg : -(-x).floor = x.floor + g) : ((((((((((((decide ((cmpQ (((((x).floor) : Int) : Rat)) x : Int) ≤ (0 : Int))) && (decide ((cmpQ x ((((((x).floor) : Int) : Rat)) + (((1 : Int) : Rat))) : Int) < (0 : Int))))) && (decide (((((-(-x).floor) : Int) : Rat)) = ((((((x).floor) : Int) : Rat)) + (((g : Int) : Rat))))))) && ((decide ((((((x).floor) : Int) : Rat)) = x)) == (decide (x.den = 1))))) && (decide (((absQ x).num.sign : Int) ≥ (0 : Int))))) && (decide ((absQ x) = (if cmpQ (-x) x > 0 then (-x) else x)))))) = true := by
  have h1 := Rat.floor_le x
  have h2 := Rat.lt_floor_add_one x
  have h3 := floor_or x
  rw [decide_eq_true (abs_max x), decide_eq_true (show (absQ x).num.sign ≥ 0 from abs_sign x), hg]
  rw [decide_eq_true (show (((x.floor + g : Int)) : Rat) = (x.floor : Rat) + (g : Rat) from Rat.intCast_add _ _)]
  rw [decide_eq_true (show cmpQ (x.floor : Rat) x ≤ 0 by unfold cmpQ; grind)]
  rw [decide_eq_true (show cmpQ x ((x.floor : Rat) + ((1 : Int) : Rat)) < 0 by rw [← Rat.intCast_add]; unfold cmpQ; grind)]
  rcases h3 with ⟨a, b, _⟩ | ⟨a, b, _⟩
  · rw [decide_eq_true a, decide_eq_true b]; rfl
  · rw [decide_eq_false (show ¬ (x.floor : Rat) = x by grind), decide_eq_false b]; rfl
theorem gap0 {x : Rat} (h : decide (x.den = 1) = true) : -(-x).floor = x.floor + 0 := by
  have := of_decide_eq_true h
  rcases floor_or x with ⟨a, b, c⟩ | ⟨a, b, c⟩
  · omega
  · exact absurd this b
theorem gap1 {x : Rat} (h : decide (x.den = 1) = false) : -(-x).floor = x.floor + 1 := by
  have := of_decide_eq_false h
  rcases floor_or x with ⟨a, b, c⟩ | ⟨a, b, c⟩
  · exact absurd b this
  · exact c
end Go.Proofs.Ytngghjhmfpmilaa
