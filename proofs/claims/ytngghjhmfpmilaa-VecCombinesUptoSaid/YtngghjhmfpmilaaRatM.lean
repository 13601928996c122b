/- Plain laws on fractions and on how many words they have. Nothing of the program. -/
import Derived.Test.YtngghjhmfpmilaaCon
namespace Go.Proofs.Ytngghjhmfpmilaa
/-- how many words both parts of a fraction have -/
def szq (q : Rat) : Nat := nw q.num.natAbs + nw q.den
/-- the room that factors may take -/
def LIM : Nat := 68719476736
theorem nw_le_of {x k : Nat} (h : x < 2 ^ (64 * k)) : nw x ≤ k := (nw_le x k).2 h
theorem nw_mul (x y : Nat) : nw (x * y) ≤ nw x + nw y := by
  refine nw_le_of ?_
  rw [Nat.mul_add, Nat.pow_add]
  rcases Nat.eq_zero_or_pos y with rfl | hy
  · rw [Nat.mul_zero]; exact Nat.mul_pos (Nat.two_pow_pos _) (Nat.two_pow_pos _)
  · exact Nat.mul_lt_mul_of_lt_of_le (lt_nw x) (Nat.le_of_lt (lt_nw y)) (Nat.two_pow_pos _)
theorem nw_mono' {x y : Nat} (h : x ≤ y) : nw x ≤ nw y := nw_le_of (Nat.lt_of_le_of_lt h (lt_nw y))
theorem nw_add (x y : Nat) : nw (x + y) ≤ max (nw x) (nw y) + 1 := by
  refine nw_le_of ?_
  have h1 := lt_nw x
  have h2 := lt_nw y
  have m1 : 2 ^ (64 * nw x) ≤ 2 ^ (64 * max (nw x) (nw y)) := Nat.pow_le_pow_right (by omega) (by omega)
  have m2 : 2 ^ (64 * nw y) ≤ 2 ^ (64 * max (nw x) (nw y)) := Nat.pow_le_pow_right (by omega) (by omega)
  rw [p64]
  omega
theorem natAbs_add_nat (a b : Int) : (a + b).natAbs ≤ a.natAbs + b.natAbs := Int.natAbs_add_le a b
/-- what rat.New makes -/
theorem gcd_eq (a b : Int) : b.gcd a = Nat.gcd a.natAbs b.natAbs := by rw [Int.gcd_comm]; rfl
theorem new_num (a b : Int) (hb : b ≠ 0) : (Rat.divInt a b).num = signed (decide (a < 0) != decide (b < 0)) (a.natAbs / Nat.gcd a.natAbs b.natAbs) := by
  rw [Rat.num_divInt, gcd_eq]
  have hg : (Nat.gcd a.natAbs b.natAbs : Nat) ∣ a.natAbs := Nat.gcd_dvd_left _ _
  generalize hG : Nat.gcd a.natAbs b.natAbs = g at *
  obtain ⟨k, hk⟩ := hg
  have hg0 : 0 < g := by
    rw [← hG]
    exact Nat.gcd_pos_of_pos_right _ (by omega)
  rw [hk, Nat.mul_div_cancel_left _ hg0]
  have key : ∀ s : Int, (s * ((g * k : Nat) : Int)) / (g : Int) = s * k := fun s => by
    rw [Int.natCast_mul, ← Int.mul_assoc, Int.mul_comm s, Int.mul_assoc, Int.mul_ediv_cancel_left _ (by omega)]
  rcases Int.lt_or_lt_of_ne hb with hb | hb
  · rw [Int.sign_eq_neg_one_of_neg hb]
    by_cases ha : a < 0
    · have e : -1 * a = 1 * ((g * k : Nat) : Int) := by omega
      rw [e, key]
      simp [signed, ha, hb]
    · have e : -1 * a = -1 * ((g * k : Nat) : Int) := by omega
      rw [e, key]
      simp [signed, ha, hb]
  · rw [Int.sign_eq_one_of_pos hb]
    have hb' : ¬ b < 0 := by omega
    by_cases ha : a < 0
    · have e : 1 * a = -1 * ((g * k : Nat) : Int) := by omega
      rw [e, key]
      simp [signed, ha, hb']
    · have e : 1 * a = 1 * ((g * k : Nat) : Int) := by omega
      rw [e, key]
      simp [signed, ha, hb']
theorem new_den (a b : Int) (hb : b ≠ 0) : (Rat.divInt a b).den = b.natAbs / Nat.gcd a.natAbs b.natAbs := by
  rw [Rat.den_divInt, if_neg hb, gcd_eq]
theorem divInt_zero (a : Int) : Rat.divInt a 0 = 0 := by simp
/-- its sign -/
def absQ (q : Rat) : Rat := if q.num < 0 then -q else q
def cmpQ (p q : Rat) : Int := if p < q then -1 else if p = q then 0 else 1
theorem cmpQ_eq (p q : Rat) : cmpV (p.num * q.den) (q.num * p.den) = cmpQ p q := by
  unfold cmpV cmpQ
  have h1 := Rat.lt_iff p q
  have h2 : p = q ↔ p.num * q.den = q.num * p.den := by
    constructor
    · rintro rfl; rfl
    · intro h
      refine Rat.le_antisymm ((Rat.le_iff p q).2 (by omega)) ((Rat.le_iff q p).2 (by omega))
  by_cases hlt : p < q
  · rw [if_pos hlt, if_pos (h1.1 hlt)]
  · rw [if_neg hlt, if_neg (mt h1.2 hlt)]
    by_cases he : p = q
    · rw [if_pos he, if_pos (h2.1 he)]
    · rw [if_neg he, if_neg (mt h2.2 he)]
theorem den_one_eq {q : Rat} (h : q.den = 1) : ((q.num : Int) : Rat) = q := by
  refine Rat.ext ?_ ?_
  · rw [Rat.num_intCast]
  · rw [Rat.den_intCast, h]
theorem denW_int (z : Int) : denW (z : Rat) = 0 := by unfold denW; rw [Rat.den_intCast, if_pos rfl]
theorem denW_ne {q : Rat} (h : q.den ≠ 1) : denW q = q.den := by unfold denW; rw [if_neg h]
theorem denW_zero (q : Rat) : denW q = 0 ↔ q.den = 1 := by
  unfold denW
  have := q.den_nz
  split <;> simp_all
theorem uint_one (d : Nat) : (uintOk d && ((uintV d : Int) == 1)) = decide (d = 1) := by
  unfold uintOk uintV
  by_cases h : d < 18446744073709551616
  · rw [if_pos h, decide_eq_true h]
    by_cases e : d = 1
    · subst e; rfl
    · simp [e]; omega
  · rw [if_neg h, decide_eq_false h, decide_eq_false (by omega)]; rfl
theorem szq_num (q : Rat) : nw q.num.natAbs ≤ szq q := by unfold szq; omega
theorem szq_den (q : Rat) : nw q.den ≤ szq q := by unfold szq; omega
theorem szq_divInt (a b : Int) (hb : b ≠ 0) : szq (Rat.divInt a b) ≤ nw a.natAbs + nw b.natAbs := by
  unfold szq
  rw [new_den a b hb, new_num a b hb]
  have e : ∀ (s : Bool) (x : Nat), (signed s x).natAbs = x := fun s x => by cases s <;> simp [signed]
  rw [e]
  have h1 := nw_mono' (Nat.div_le_self a.natAbs (Nat.gcd a.natAbs b.natAbs))
  have h2 := nw_mono' (Nat.div_le_self b.natAbs (Nat.gcd a.natAbs b.natAbs))
  omega
theorem mul_as (p q : Rat) : p * q = Rat.divInt (p.num * q.num) ((p.den * q.den : Nat) : Int) := by rw [Rat.mul_def']; rfl
theorem add_as (p q : Rat) : p + q = Rat.divInt (p.num * q.den + q.num * p.den) ((p.den * q.den : Nat) : Int) := by rw [Rat.add_def']; rfl
theorem den_ne (p : Rat) : (p.den : Int) ≠ 0 := by have := p.den_nz; omega
theorem den2_ne (p q : Rat) : ((p.den * q.den : Nat) : Int) ≠ 0 := by
  have h1 := Nat.pos_of_ne_zero p.den_nz
  have h2 := Nat.pos_of_ne_zero q.den_nz
  have := Nat.mul_pos h1 h2
  omega
theorem szq_mul (p q : Rat) : szq (p * q) ≤ szq p + szq q := by
  rw [mul_as]
  have h := szq_divInt (p.num * q.num) ((p.den * q.den : Nat) : Int) (den2_ne p q)
  rw [Int.natAbs_mul, Int.natAbs_natCast] at h
  have h1 := nw_mul p.num.natAbs q.num.natAbs
  have h2 := nw_mul p.den q.den
  unfold szq at *
  omega
theorem szq_add (p q : Rat) : szq (p + q) ≤ szq p + szq q + szq p + szq q + 1 := by
  rw [add_as]
  have h := szq_divInt (p.num * q.den + q.num * p.den) ((p.den * q.den : Nat) : Int) (den2_ne p q)
  rw [Int.natAbs_natCast] at h
  have h0 := nw_mono' (natAbs_add_nat (p.num * q.den) (q.num * p.den))
  rw [Int.natAbs_mul, Int.natAbs_mul, Int.natAbs_natCast, Int.natAbs_natCast] at h0
  have h3 := nw_add (p.num.natAbs * q.den) (q.num.natAbs * p.den)
  have h4 := nw_mul p.num.natAbs q.den
  have h5 := nw_mul q.num.natAbs p.den
  have h2 := nw_mul p.den q.den
  unfold szq at *
  omega
theorem szq_neg (p : Rat) : szq (-p) = szq p := by unfold szq; rw [Rat.neg_num, Rat.neg_den, Int.natAbs_neg]
theorem szq_inv (p : Rat) : szq p⁻¹ ≤ szq p + 1 := by
  rw [Rat.inv_def]
  by_cases h : p.num = 0
  · rw [h, divInt_zero]; unfold szq; simp; exact Nat.le_trans (by decide : nw 0 + nw 1 ≤ 1) (by omega)
  · have := szq_divInt p.den p.num h
    rw [Int.natAbs_natCast] at this
    unfold szq at *
    omega
end Go.Proofs.Ytngghjhmfpmilaa
