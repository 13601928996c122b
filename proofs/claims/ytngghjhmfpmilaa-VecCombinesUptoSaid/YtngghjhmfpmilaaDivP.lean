/- quot: what the steps of a division reckon, in plain numbers. -/
import Derived.Test.YtngghjhmfpmilaaSchool
namespace Go.Proofs.Ytngghjhmfpmilaa
open Go.RowKit
/-- what guess answers -/
def gq (u2 u1 u0 v1 v0 : Nat) : Nat := min 18446744073709551615 (((u2 * 18446744073709551616 + u1) * 18446744073709551616 + u0) / (v1 * 18446744073709551616 + v0))
/-- guess has come to q, and r is left -/
def GInv (u2 u1 u0 v1 v0 q r : Nat) : Prop := q < 18446744073709551616 ∧ r < 18446744073709551616 ∧ r + q * v1 = u2 * 18446744073709551616 + u1 ∧ gq u2 u1 u0 v1 v0 ≤ q
section
variable {u2 u1 u0 v1 v0 q r : Nat}
theorem gq_of (hv : 0 < v1) (hq : q < 18446744073709551616) (h1 : gq u2 u1 u0 v1 v0 ≤ q) (h2 : q * (v1 * 18446744073709551616 + v0) ≤ (u2 * 18446744073709551616 + u1) * 18446744073709551616 + u0) : q = gq u2 u1 u0 v1 v0 := by
  have h3 : q ≤ ((u2 * 18446744073709551616 + u1) * 18446744073709551616 + u0) / (v1 * 18446744073709551616 + v0) := (Nat.le_div_iff_mul_le (by omega)).2 h2
  have h4 : q ≤ gq u2 u1 u0 v1 v0 := by unfold gq; omega
  omega
theorem lin_le {q v1 v0 r U : Nat} (h : r + q * v1 = U) (u0 : Nat) : q * (v1 * 18446744073709551616 + v0) ≤ U * 18446744073709551616 + u0 ↔ q * v0 ≤ r * 18446744073709551616 + u0 := by
  subst h
  rw [Nat.mul_add, ← Nat.mul_assoc, Nat.add_mul]
  omega
theorem g_start_yes (h : u2 < v1) (h1 : u1 < 18446744073709551616) (hv1 : v1 < 18446744073709551616) (h0 : u0 < 18446744073709551616) : GInv u2 u1 u0 v1 v0 (divQ u2 u1 v1) (divR u2 u1 v1) := by
  have hq : divQ u2 u1 v1 < 18446744073709551616 := by
    unfold divQ
    rw [Nat.div_lt_iff_lt_mul (by omega)]
    have : (u2 + 1) * 18446744073709551616 ≤ v1 * 18446744073709551616 := Nat.mul_le_mul_right _ h
    rw [Nat.mul_comm 18446744073709551616 v1]
    omega
  have hr : divR u2 u1 v1 < v1 := Nat.mod_lt _ (by omega)
  have he : divR u2 u1 v1 + divQ u2 u1 v1 * v1 = u2 * 18446744073709551616 + u1 := by
    unfold divR divQ
    have := Nat.mod_add_div (u2 * 18446744073709551616 + u1) v1
    rw [Nat.mul_comm v1] at this
    exact this
  refine ⟨hq, by omega, he, ?_⟩
  have : ((u2 * 18446744073709551616 + u1) * 18446744073709551616 + u0) / (v1 * 18446744073709551616 + v0) < divQ u2 u1 v1 + 1 := by
    rw [Nat.div_lt_iff_lt_mul (by omega)]
    have e : (divQ u2 u1 v1 + 1) * (v1 * 18446744073709551616 + v0) = (divQ u2 u1 v1 + 1) * v1 * 18446744073709551616 + (divQ u2 u1 v1 + 1) * v0 := by rw [Nat.mul_add, Nat.mul_assoc]
    rw [e]
    have h5 : u2 * 18446744073709551616 + u1 + 1 ≤ (divQ u2 u1 v1 + 1) * v1 := by rw [Nat.add_mul, Nat.one_mul]; omega
    have h6 := Nat.mul_le_mul_right 18446744073709551616 h5
    omega
  unfold gq; omega
theorem g_over (he : u2 = v1) (hv0 : v0 < 18446744073709551616) (h : 18446744073709551616 ≤ u1 + v1) (hv : 0 < v1) : 18446744073709551615 = gq u2 u1 u0 v1 v0 := by
  subst he
  refine gq_of hv (by omega) (by unfold gq; omega) ?_
  rw [lin_le (r := u1 + u2) (U := u2 * 18446744073709551616 + u1) (by omega)]
  omega
theorem g_start_no (he : u2 = v1) (h : u1 + v1 < 18446744073709551616) : GInv u2 u1 u0 v1 v0 18446744073709551615 (u1 + v1) := by
  subst he
  refine ⟨by omega, h, by omega, by unfold gq; omega⟩
theorem g_done (hv : 0 < v1) (hi : GInv u2 u1 u0 v1 v0 q r) (h : q * v0 ≤ r * 18446744073709551616 + u0) : q = gq u2 u1 u0 v1 v0 :=
  gq_of hv hi.1 hi.2.2.2 ((lin_le hi.2.2.1 u0).2 h)
theorem g_less (hv : 0 < v1) (hi : GInv u2 u1 u0 v1 v0 q r) (h : r * 18446744073709551616 + u0 < q * v0) : 0 < q ∧ gq u2 u1 u0 v1 v0 ≤ q - 1 := by
  unfold gq
  have h1 : ¬ q * (v1 * 18446744073709551616 + v0) ≤ (u2 * 18446744073709551616 + u1) * 18446744073709551616 + u0 := fun hh => by
    have := (lin_le hi.2.2.1 u0).1 hh
    omega
  have h2 : ((u2 * 18446744073709551616 + u1) * 18446744073709551616 + u0) / (v1 * 18446744073709551616 + v0) < q := (Nat.div_lt_iff_lt_mul (by omega)).2 (Nat.lt_of_not_le h1)
  have h3 : 0 < q := Nat.lt_of_le_of_lt (Nat.zero_le _) h2
  clear h1 h hi
  generalize ((u2 * 18446744073709551616 + u1) * 18446744073709551616 + u0) / (v1 * 18446744073709551616 + v0) = z at *
  exact ⟨h3, by omega⟩
theorem g_down (hv : 0 < v1) (hi : GInv u2 u1 u0 v1 v0 q r) (h : r * 18446744073709551616 + u0 < q * v0) (hr : r + v1 < 18446744073709551616) : GInv u2 u1 u0 v1 v0 (q - 1) (r + v1) := by
  obtain ⟨h1, h2⟩ := g_less hv hi h
  obtain ⟨a1, a2, a3, a4⟩ := hi
  refine ⟨by omega, hr, ?_, h2⟩
  obtain ⟨p, rfl⟩ : ∃ p, q = p + 1 := ⟨q - 1, by omega⟩
  rw [Nat.add_mul, Nat.one_mul] at a3
  rw [Nat.add_sub_cancel]; omega
theorem g_down_over (hv : 0 < v1) (hv0 : v0 < 18446744073709551616) (hi : GInv u2 u1 u0 v1 v0 q r) (h : r * 18446744073709551616 + u0 < q * v0) (hr : 18446744073709551616 ≤ r + v1) : q - 1 = gq u2 u1 u0 v1 v0 := by
  obtain ⟨h1, h2⟩ := g_less hv hi h
  obtain ⟨a1, a2, a3, a4⟩ := hi
  obtain ⟨p, rfl⟩ : ∃ p, q = p + 1 := ⟨q - 1, by omega⟩
  rw [Nat.add_mul, Nat.one_mul] at a3
  rw [Nat.add_sub_cancel] at *
  refine gq_of hv (by omega) h2 ((lin_le (r := r + v1) (by omega) u0).2 ?_)
  have e1 : p * v0 ≤ 18446744073709551615 * v0 := Nat.mul_le_mul_right _ (by omega)
  have e2 : 18446744073709551616 * 18446744073709551616 ≤ (r + v1) * 18446744073709551616 := Nat.mul_le_mul_right _ hr
  omega
end
/-- the next word is what guess answers, or 1 less -/
theorem knuth {U V W P B qh : Nat} (hW : 0 < W) (hP : 0 < P) (hB : 0 < B) (hV : B * W ≤ V) (hU : U < V * (B * P)) (hq : qh = min (B - 1) (U / (W * P) / (V / W))) :
    U < (qh + 1) * (V * P) ∧ qh * (V * P) ≤ U + V * P := by
  have hVW : 0 < V / W := Nat.div_pos (Nat.le_trans (Nat.le_mul_of_pos_left W hB) hV) hW
  have hWP : 0 < W * P := Nat.mul_pos hW hP
  constructor
  · by_cases h : B - 1 ≤ U / (W * P) / (V / W)
    · have : qh + 1 = B := by omega
      rw [this, Nat.mul_left_comm]; exact hU
    · have h1 : U / (W * P) / (V / W) < qh + 1 := by omega
      rw [Nat.div_lt_iff_lt_mul hVW] at h1
      have h2 : U / (W * P) < (qh + 1) * (V / W) := h1
      have h3 : U < (qh + 1) * (V / W) * (W * P) := (Nat.div_lt_iff_lt_mul hWP).1 h2
      refine Nat.lt_of_lt_of_le h3 ?_
      rw [Nat.mul_assoc]
      refine Nat.mul_le_mul_left _ ?_
      rw [← Nat.mul_assoc]
      exact Nat.mul_le_mul_right _ (Nat.div_mul_le_self _ _)
  · have h1 : qh ≤ U / (W * P) / (V / W) := by omega
    have h2 : qh * (V / W) ≤ U / (W * P) := (Nat.le_div_iff_mul_le hVW).1 h1
    have h3 : qh * (V / W) * (W * P) ≤ U := (Nat.le_div_iff_mul_le hWP).1 h2
    have h4 : V ≤ V / W * W + W := by
      have := Nat.mod_add_div V W
      have h5 := Nat.mod_lt V hW
      rw [Nat.mul_comm (V / W)]; omega
    have h5 : qh * (V * P) ≤ qh * ((V / W * W + W) * P) := Nat.mul_le_mul_left _ (Nat.mul_le_mul_right _ h4)
    have h6 : qh * ((V / W * W + W) * P) = qh * (V / W) * (W * P) + qh * W * P := by
      rw [Nat.add_mul, Nat.mul_add]; congr 1 <;> simp only [Nat.mul_assoc]
    have h7 : qh * W * P ≤ V * P := Nat.mul_le_mul_right _ (Nat.le_trans (Nat.mul_le_mul_right _ (by omega)) hV)
    omega
theorem high_zero {f : Nat → Nat} {N j : Nat} (hw : Wf f N) (h : val f N < 2 ^ (64 * j)) : ∀ i, j ≤ i → i < N → f i = 0 := fun i h1 h2 => by
  rw [← wd_val f N i hw h2]
  exact wd_high _ _ (Nat.le_trans ((nw_le _ _).2 h) h1)
theorem low_of_zero {f : Nat → Nat} {N j : Nat} (hw : Wf f N) (hj : j ≤ N) (h : ∀ i, j ≤ i → i < N → f i = 0) : val f N < 2 ^ (64 * j) := by
  rw [val_ext f j N hj h]
  exact val_lt f j fun i hi => hw i (by omega)
theorem div_add_small {a b c : Nat} (h : a < b) : (a + c * b) / b = c := by
  rw [Nat.add_mul_div_right _ _ (by omega), Nat.div_eq_of_lt h, Nat.zero_add]
/-- the three highest words -/
theorem top3 {f : Nat → Nat} {N j : Nat} (hw : Wf f N) (hj : j + 3 ≤ N) (h : val f N < 2 ^ (64 * (j + 3))) : val f N / 2 ^ (64 * j) = (f (j + 2) * 18446744073709551616 + f (j + 1)) * 18446744073709551616 + f j := by
  have e : val f N = val f j + ((f (j + 2) * 18446744073709551616 + f (j + 1)) * 18446744073709551616 + f j) * 2 ^ (64 * j) := by
    rw [val_ext f (j + 3) N hj (high_zero hw h), val, val, val, p64 (j + 1), p64 j]
    simp only [Nat.add_mul, Nat.mul_assoc]
    omega
  rw [e, div_add_small (val_lt f j fun i hi => hw i (by omega))]
theorem top2 {V m : Nat} (h : nw V ≤ m + 2) : V / 2 ^ (64 * m) = wd V (m + 1) * 18446744073709551616 + wd V m := by
  have e : V = val (wd V) m + (wd V (m + 1) * 18446744073709551616 + wd V m) * 2 ^ (64 * m) := by
    have h1 := val_all V (m + 2) h
    rw [val, val, p64 m] at h1
    simp only [Nat.add_mul, Nat.mul_assoc]
    omega
  have h2 := div_add_small (c := wd V (m + 1) * 18446744073709551616 + wd V m) (val_lt (wd V) m (wf_wd V m))
  rw [← e] at h2
  exact h2
end Go.Proofs.Ytngghjhmfpmilaa
