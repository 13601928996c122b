/- Sizes of sums of products. -/
import Derived.Test.YtngghjhmfpmilaaSL
namespace Go.Proofs.Ytngghjhmfpmilaa
open Go.RowKit
theorem den_add (p q : Rat) : nw (p + q).den ≤ nw p.den + nw q.den := by
  rw [add_as, new_den _ _ (den2_ne p q), Int.natAbs_natCast]
  exact Nat.le_trans (nw_mono' (Nat.div_le_self _ _)) (nw_mul _ _)
theorem num_add (p q : Rat) : nw (p + q).num.natAbs ≤ max (nw p.num.natAbs + nw q.den) (nw q.num.natAbs + nw p.den) + 1 := by
  rw [add_as, new_num _ _ (den2_ne p q), natAbs_signed]
  refine Nat.le_trans (nw_mono' (Nat.div_le_self _ _)) ?_
  have h0 := nw_mono' (natAbs_add_nat (p.num * q.den) (q.num * p.den))
  rw [Int.natAbs_mul, Int.natAbs_mul, Int.natAbs_natCast, Int.natAbs_natCast] at h0
  have h3 := nw_add (p.num.natAbs * q.den) (q.num.natAbs * p.den)
  have h4 := nw_mul p.num.natAbs q.den
  have h5 := nw_mul q.num.natAbs p.den
  omega
theorem dot_sz {a b : Nat → Rat} {s : Nat} : ∀ n, (∀ i, i < n → szq (a i * b i) ≤ s) → nw (dotQ a b n).den ≤ s * n + 1 ∧ nw (dotQ a b n).num.natAbs ≤ s * n + 1 + n
  | 0, _ => by
    have h1 : nw (0 : Rat).den ≤ 1 := by decide
    have h2 : nw (0 : Rat).num.natAbs ≤ 1 := by decide
    exact ⟨h1, h2⟩
  | n + 1, h => by
    obtain ⟨h1, h2⟩ := dot_sz n fun i hi => h i (by omega)
    have h3 := h n (by omega)
    have h4 := szq_num (a n * b n)
    have h5 := szq_den (a n * b n)
    have h6 := den_add (dotQ a b n) (a n * b n)
    have h7 := num_add (dotQ a b n) (a n * b n)
    have e : s * (n + 1) = s * n + s := Nat.mul_succ s n
    show nw (dotQ a b n + a n * b n).den ≤ _ ∧ nw (dotQ a b n + a n * b n).num.natAbs ≤ _
    omega
theorem dot_szq {a b : Nat → Rat} {s n : Nat} (h : ∀ i, i < n → szq (a i * b i) ≤ s) : szq (dotQ a b n) ≤ 2 * (s * n + 1) + n := by
  obtain ⟨h1, h2⟩ := dot_sz n h
  unfold szq
  omega
/-- what Dot asks of rows whose numbers are short -/
theorem comb_sz {r v : Nat → Rat} {l t : Nat} (h6 : l ≤ 6) (hr : ∀ t, t < l → szq (r t) ≤ 2) (hv : ∀ j, j < t + 1 → szq (v j) ≤ 2) (ht : t < l) : szq (r t) + szq (v t) ≤ 17179869184 ∧ szq (dotQ r v t) + szq (r t * v t) ≤ 17179869184 := by
  have h1 : ∀ j, j < t + 1 → szq (r j * v j) ≤ 4 := fun j hj => by
    have := szq_mul (r j) (v j)
    have := hr j (by omega)
    have := hv j hj
    omega
  have h2 := dot_szq (a := r) (b := v) (n := t) fun i hi => h1 i (by omega)
  have h3 := h1 t (by omega)
  have h4 := hr t ht
  have h5 := hv t (by omega)
  exact ⟨by omega, by omega⟩
theorem comb_szl {r v : Nat → Rat} {l : Nat} (h6 : l ≤ 6) (hr : ∀ t, t < l → szq (r t) ≤ 2) (hv : ∀ j, j < l → szq (v j) ≤ 2) : szq (dotQ r v l) ≤ 1000 := by
  have h2 := dot_szq (a := r) (b := v) (n := l) (s := 4) fun j hj => by
    have := szq_mul (r j) (v j)
    have := hr j hj
    have := hv j hj
    omega
  omega
theorem fits_zero {n l : Nat} {m : Nat → Nat} : (bif decide (((n : Nat) : Int) = ((l : Nat) : Int)) then decide ((0 : Int) < ((l : Nat) : Int)) else false) = decide (n = l ∧ 0 < l ∧ ∀ j : Nat, j < 0 → m j = m 0) := by
  by_cases h : n = l
  · subst h; simp
  · have : ¬ (((n : Nat) : Int) = ((l : Nat) : Int)) := by omega
    simp [h, this]
theorem fits_step {n l g : Nat} {m : Nat → Nat} : (bif decide (n = l ∧ 0 < l ∧ ∀ j : Nat, j < g → m j = m 0) then decide (((m g : Nat) : Int) = ((m 0 : Nat) : Int)) else false) = decide (n = l ∧ 0 < l ∧ ∀ j : Nat, j < g + 1 → m j = m 0) := by
  by_cases h : n = l ∧ 0 < l ∧ ∀ j : Nat, j < g → m j = m 0
  · rw [decide_eq_true h, cond_true]
    refine decide_eq_decide.2 ⟨fun e => ⟨h.1, h.2.1, same_step h.2.2 (by omega)⟩, fun e => by rw [e.2.2 g (by omega)]⟩
  · rw [decide_eq_false h, cond_false]
    exact (decide_eq_false fun e => h ⟨e.1, e.2.1, fun j hj => e.2.2 j (by omega)⟩).symm
theorem fits_pos {P Q : Prop} {l : Nat} [Decidable (P ∧ 0 < l ∧ Q)] (h : (decide (P ∧ 0 < l ∧ Q) == true) = true) : 0 < l := by
  have : P ∧ 0 < l ∧ Q := by simpa using h
  exact this.2.1
theorem comb_true {C : Prop} [Decidable C] (h : (bif !(decide C == decide C) then true else !decide C) = false) : C := by
  by_cases c : C
  · exact c
  · simp [c] at h
theorem comb_false {C : Prop} [Decidable C] (h : (bif !(decide C == decide C) then true else !decide C) = true) : ¬ C := fun c => by simp [c] at h
end Go.Proofs.Ytngghjhmfpmilaa
