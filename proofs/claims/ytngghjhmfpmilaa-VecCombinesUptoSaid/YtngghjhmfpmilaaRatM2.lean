/- Plain laws for rat's functions. -/
import Derived.Test.YtngghjhmfpmilaaRatM
namespace Go.Proofs.Ytngghjhmfpmilaa
open Go.RowKit
theorem small_add (p q : Rat) (h : szq p + szq q ≤ 17179869184) : Small ((p.num * (q.den : Int)).natAbs + (q.num * (p.den : Int)).natAbs) := by
  rw [Int.natAbs_mul, Int.natAbs_mul, Int.natAbs_natCast, Int.natAbs_natCast]
  have h3 := nw_add (p.num.natAbs * q.den) (q.num.natAbs * p.den)
  have h4 := nw_mul p.num.natAbs q.den
  have h5 := nw_mul q.num.natAbs p.den
  unfold Small
  unfold szq at h
  omega
theorem new_add (p q : Rat) (h : szq p + szq q ≤ 17179869184) : nw (p.num * (q.den : Int) + q.num * (p.den : Int)).natAbs < 1099511627776 ∧ nw (((p.den * q.den : Nat) : Int)).natAbs < 1099511627776 := by
  have h0 := nw_mono' (natAbs_add_nat (p.num * q.den) (q.num * p.den))
  rw [Int.natAbs_mul, Int.natAbs_mul, Int.natAbs_natCast, Int.natAbs_natCast] at h0
  have h3 := nw_add (p.num.natAbs * q.den) (q.num.natAbs * p.den)
  have h4 := nw_mul p.num.natAbs q.den
  have h5 := nw_mul q.num.natAbs p.den
  have h2 := nw_mul p.den q.den
  rw [Int.natAbs_natCast]
  unfold szq at *
  omega
theorem new_mul (p q : Rat) (h : szq p + szq q ≤ 17179869184) : nw (p.num * q.num).natAbs < 1099511627776 ∧ nw (((p.den * q.den : Nat) : Int)).natAbs < 1099511627776 := by
  rw [Int.natAbs_mul, Int.natAbs_natCast]
  have h1 := nw_mul p.num.natAbs q.num.natAbs
  have h2 := nw_mul p.den q.den
  unfold szq at *
  omega
theorem new_of {p : Int} (h1 : -9223372036854775808 ≤ p) (h2 : p < 9223372036854775808) : nw p.natAbs < 1099511627776 := by
  have := nw_le_of (x := p.natAbs) (k := 1) (by omega)
  omega
theorem cmp_same (p q : Rat) : (cmpQ p q == 0) = decide (p = q) := by
  unfold cmpQ
  by_cases h : p < q
  · have : p ≠ q := fun e => by subst e; exact Rat.lt_irrefl h
    simp [h, this]
  · by_cases e : p = q <;> simp [h, e]
theorem sign_zero (q : Rat) : (q.num.sign == 0) = decide (q = 0) := by
  rw [Bool.eq_iff_iff]
  simp [Int.sign_eq_zero_iff_zero]
theorem num_zero (q : Rat) : (!decide (q.num = 0)) = !decide (q = 0) := by
  congr 1
  rw [Bool.eq_iff_iff]
  simp
theorem blen_small {x : Nat} (h : Small x) : Wd.blen x ≤ 70368744177664 := by
  unfold Small nw at h
  omega
theorem rat_small {w : World} {v : Value} {q : Rat} (h : (MR.rat q).R w v) : Small q.num.natAbs ∧ Small q.den ∧ Wd.blen q.num.natAbs ≤ 70368744177664 ∧ Wd.blen q.den ≤ 70368744177664 := by
  obtain ⟨s, t, _, h1, h2⟩ : RatAt _ w v q := h
  have e1 := h1.small
  have e2 : Small q.den := by
    have := h2.small
    unfold denW at this
    by_cases e : q.den = 1
    · rw [e]; show nw 1 ≤ _; exact Nat.le_trans (by decide : nw 1 ≤ 1) (by omega)
    · rwa [if_neg e] at this
  exact ⟨e1, e2, blen_small e1, blen_small e2⟩
theorem floor_fdiv (q : Rat) : Int.fdiv q.num (q.den : Int) = q.floor := by
  rw [Rat.floor_def, Int.fdiv_eq_ediv_of_nonneg _ (by omega)]
theorem abs_signed (q : Rat) : signed false q.num.natAbs = (absQ q).num := by
  unfold signed absQ
  by_cases h : q.num < 0
  · rw [if_pos h, Rat.neg_num]; simp; omega
  · rw [if_neg h]; simp; omega
theorem abs_den (q : Rat) : denW (absQ q) = denW q := by
  unfold absQ denW
  split <;> simp
theorem neg_denW (q : Rat) : denW (-q) = denW q := by unfold denW; simp
/-- what integer.Div gives -/
theorem fdm {y z k m : Int} (h : y = z * k + m) (hm : (0 ≤ m ∧ m < z) ∨ (m ≤ 0 ∧ z < m)) : k = Int.fdiv y z ∧ m = Int.fmod y z := by
  have hz : z ≠ 0 := by omega
  have e : Int.fdiv y z = k := by
    rw [h, Int.add_comm, Int.mul_comm, Int.add_mul_fdiv_right _ _ hz]
    have : m.fdiv z = 0 := by
      rcases hm with ⟨h1, h2⟩ | ⟨h1, h2⟩
      · exact Int.fdiv_eq_zero_of_lt h1 h2
      · rw [← Int.neg_fdiv_neg]
        exact Int.fdiv_eq_zero_of_lt (by omega) (by omega)
    omega
  refine ⟨e.symm, ?_⟩
  have := Int.mul_fdiv_add_fmod y z
  rw [e] at this
  omega
theorem div_same {y z : Int} (hz : z ≠ 0) (h : (decide (y < 0) == decide (z < 0)) = true) : signed false (y.natAbs / z.natAbs) = Int.fdiv y z ∧ signed (decide (z < 0)) (y.natAbs % z.natAbs) = Int.fmod y z := by
  have hd := Nat.div_add_mod y.natAbs z.natAbs
  have hl := Nat.mod_lt y.natAbs (show 0 < z.natAbs by omega)
  generalize y.natAbs / z.natAbs = k at *
  generalize y.natAbs % z.natAbs = m at *
  have hd' : ((z.natAbs : Int) * k + m) = y.natAbs := by exact_mod_cast hd
  by_cases hn : z < 0
  · have hy : y < 0 := by simpa [hn] using h
    have e : (z.natAbs : Int) = -z := by omega
    rw [e, Int.neg_mul] at hd'
    refine fdm ?_ (.inr ?_) <;> simp [signed, hn] <;> omega
  · have hy : ¬ y < 0 := by simpa [hn] using h
    have e : (z.natAbs : Int) = z := by omega
    rw [e] at hd'
    refine fdm ?_ (.inl ?_) <;> simp [signed, hn] <;> omega
theorem div_zero' {y z : Int} (hz : z ≠ 0) (h : (decide (y < 0) == decide (z < 0)) = false) (h0 : y.natAbs % z.natAbs = 0) : signed true (y.natAbs / z.natAbs) = Int.fdiv y z ∧ (0 : Int) = Int.fmod y z := by
  have hd := Nat.div_add_mod y.natAbs z.natAbs
  rw [h0] at hd
  generalize y.natAbs / z.natAbs = k at *
  have hd' : ((z.natAbs : Int) * k) = y.natAbs := by exact_mod_cast hd
  have key : y = z * (-(k : Int)) + 0 := by
    rw [Int.mul_neg]
    by_cases hn : z < 0
    · have hy : ¬ y < 0 := by simpa [hn] using h
      have e : (z.natAbs : Int) = -z := by omega
      rw [e, Int.neg_mul] at hd'
      omega
    · have hy : y < 0 := by simpa [hn] using h
      have e : (z.natAbs : Int) = z := by omega
      rw [e] at hd'
      omega
  have := fdm key (by omega)
  simpa [signed] using this
theorem div_other {y z : Int} (hz : z ≠ 0) (h : (decide (y < 0) == decide (z < 0)) = false) (h0 : y.natAbs % z.natAbs ≠ 0) : signed true (y.natAbs / z.natAbs + 1) = Int.fdiv y z ∧ signed (decide (z < 0)) (z.natAbs - y.natAbs % z.natAbs) = Int.fmod y z := by
  have hd := Nat.div_add_mod y.natAbs z.natAbs
  have hl := Nat.mod_lt y.natAbs (show 0 < z.natAbs by omega)
  generalize y.natAbs / z.natAbs = k at *
  generalize y.natAbs % z.natAbs = m at *
  have hd' : ((z.natAbs : Int) * k + m) = y.natAbs := by exact_mod_cast hd
  by_cases hn : z < 0
  · have hy : ¬ y < 0 := by simpa [hn] using h
    have e : (z.natAbs : Int) = -z := by omega
    rw [e, Int.neg_mul] at hd'
    refine fdm ?_ (.inr ?_)
    · simp [signed, hn]
      rw [Int.mul_neg, Int.mul_add]
      omega
    · simp [signed, hn]; omega
  · have hy : y < 0 := by simpa [hn] using h
    have e : (z.natAbs : Int) = z := by omega
    rw [e] at hd'
    refine fdm ?_ (.inl ?_)
    · simp [signed, hn]
      rw [Int.mul_neg, Int.mul_add]
      omega
    · simp [signed, hn]; omega
end Go.Proofs.Ytngghjhmfpmilaa
