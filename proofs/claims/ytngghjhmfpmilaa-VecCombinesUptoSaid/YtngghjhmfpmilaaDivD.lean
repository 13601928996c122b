/- quot.DivMod: one digit, in plain numbers. -/
import Derived.Test.YtngghjhmfpmilaaDivP2
namespace Go.Proofs.Ytngghjhmfpmilaa
open Go.RowKit
/-- the digits from j on are known: g; what is left: f -/
def DInv (X V N Q j : Nat) (f g : Nat → Nat) : Prop := Wf f N ∧ Wf g Q ∧ (∀ i, i < j → g i = 0) ∧ val f N + val g Q * V = X ∧ val f N < V * 2 ^ (64 * j)
def dq (f : Nat → Nat) (V k m : Nat) : Nat := gq (f (k + m)) (f (k + m - 1)) (f (k + m - 2)) (wd V (m - 1)) (wd V (m - 2))
theorem gq_lt (a b c d e : Nat) : gq a b c d e < 18446744073709551616 := by unfold gq; omega
theorem dq_lt (f : Nat → Nat) (V k m : Nat) : dq f V k m < 18446744073709551616 := gq_lt _ _ _ _ _
section
variable {X V N Q j k m : Nat} {f g f' f'' : Nat → Nat} {b c : Nat}
theorem lo_V (hm : nw V = m) (h2 : 2 ≤ m) : 18446744073709551616 * 2 ^ (64 * (m - 2)) ≤ V := by
  rcases Nat.lt_or_ge V (18446744073709551616 * 2 ^ (64 * (m - 2))) with h | h
  · rw [← p64] at h
    have := (nw_le V _).2 h
    omega
  · exact h
theorem pow_V (k m : Nat) (h2 : 2 ≤ m) : 2 ^ (64 * (k + m + 1)) = 18446744073709551616 * (18446744073709551616 * (18446744073709551616 * (2 ^ (64 * (m - 2)) * 2 ^ (64 * k)))) := by
  rw [show k + m + 1 = (((m - 2) + k) + 1 + 1) + 1 by omega, p64, p64, p64, ← Nat.pow_add, ← Nat.mul_add]
theorem hi_V (hm : nw V = m) (h2 : 2 ≤ m) : V < 18446744073709551616 * (18446744073709551616 * 2 ^ (64 * (m - 2))) := by
  have := lt_nw V
  rw [hm, show m = (m - 2) + 1 + 1 by omega, p64, p64] at this
  exact this
/-- the three words and the two, as numbers -/
theorem d_words (hm : nw V = m) (h2 : 2 ≤ m) (hk : k + m < N) (hi : DInv X V N Q (k + 1) f g) :
    dq f V k m = min (18446744073709551616 - 1) (val f N / (2 ^ (64 * (m - 2)) * 2 ^ (64 * k)) / (V / 2 ^ (64 * (m - 2)))) := by
  obtain ⟨h1, _, _, _, h5⟩ := hi
  have hV := hi_V hm h2
  have hU : val f N < 2 ^ (64 * ((k + m - 2) + 3)) := by
    rw [show (k + m - 2) + 3 = k + m + 1 by omega, pow_V k m h2]
    rw [p64] at h5
    have := Nat.mul_le_mul_right (18446744073709551616 * 2 ^ (64 * k)) (Nat.le_of_lt hV)
    refine Nat.lt_of_lt_of_le h5 (Nat.le_trans this (Nat.le_of_eq ?_))
    simp only [Nat.mul_assoc, Nat.mul_left_comm, Nat.mul_comm]
  have e3 := top3 h1 (show (k + m - 2) + 3 ≤ N by omega) hU
  have e2 := top2 (V := V) (m := m - 2) (by omega)
  have eW : 2 ^ (64 * (m - 2)) * 2 ^ (64 * k) = 2 ^ (64 * (k + m - 2)) := by rw [← Nat.pow_add, ← Nat.mul_add]; congr 2; omega
  rw [eW, e3, e2]
  unfold dq gq
  rw [show k + m - 2 + 2 = k + m by omega, show k + m - 2 + 1 = k + m - 1 by omega, show m - 2 + 1 = m - 1 by omega]
theorem d_guess (hm : nw V = m) (h2 : 2 ≤ m) (hk : k + m < N) (hi : DInv X V N Q (k + 1) f g) : f (k + m) ≤ wd V (m - 1) ∧ 0 < wd V (m - 1) := by
  obtain ⟨h1, _, _, _, h5⟩ := hi
  have e2 := top2 (V := V) (m := m - 2) (by omega)
  rw [show m - 2 + 1 = m - 1 by omega] at e2
  have hlo := lo_V hm h2
  have hW : 0 < 2 ^ (64 * (m - 2)) := Nat.two_pow_pos _
  have hv0 := wd_lt V (m - 2)
  have hVd : 18446744073709551616 ≤ V / 2 ^ (64 * (m - 2)) := (Nat.le_div_iff_mul_le hW).2 hlo
  refine ⟨?_, by omega⟩
  have hVs : V < (wd V (m - 1) + 1) * (18446744073709551616 * 2 ^ (64 * (m - 2))) := by
    have : V / 2 ^ (64 * (m - 2)) < (wd V (m - 1) + 1) * 18446744073709551616 := by omega
    have := (Nat.div_lt_iff_lt_mul hW).1 this
    rw [Nat.mul_assoc] at this
    exact this
  have hU : f (k + m) * 2 ^ (64 * (k + m)) ≤ val f N := by
    have := val_wd (val f N) (k + m + 1)
    have hw := wd_val f N (k + m) h1 hk
    have hle : val f N % 2 ^ (64 * (k + m + 1)) ≤ val f N := Nat.mod_le _ _
    rw [← this, val, hw] at hle
    omega
  have eP : 2 ^ (64 * (k + m)) = 18446744073709551616 * (18446744073709551616 * 2 ^ (64 * (m - 2))) * 2 ^ (64 * k) := by
    rw [show k + m = ((m - 2) + k) + 1 + 1 by omega, p64, p64, Nat.mul_assoc, Nat.mul_assoc, ← Nat.pow_add, ← Nat.mul_add]
  rw [p64] at h5
  rcases Nat.lt_or_ge (wd V (m - 1)) (f (k + m)) with h | h
  · exfalso
    have a1 : V * (18446744073709551616 * 2 ^ (64 * k)) ≤ (wd V (m - 1) + 1) * (18446744073709551616 * 2 ^ (64 * (m - 2))) * (18446744073709551616 * 2 ^ (64 * k)) := Nat.mul_le_mul_right _ (Nat.le_of_lt hVs)
    have a2 : (wd V (m - 1) + 1) * 2 ^ (64 * (k + m)) ≤ f (k + m) * 2 ^ (64 * (k + m)) := Nat.mul_le_mul_right _ h
    have a3 : (wd V (m - 1) + 1) * (18446744073709551616 * 2 ^ (64 * (m - 2))) * (18446744073709551616 * 2 ^ (64 * k)) = (wd V (m - 1) + 1) * 2 ^ (64 * (k + m)) := by
      rw [eP]; simp only [Nat.mul_assoc, Nat.mul_left_comm, Nat.mul_comm]
    omega
  · exact h
theorem d_knuth (hm : nw V = m) (h2 : 2 ≤ m) (hk : k + m < N) (hi : DInv X V N Q (k + 1) f g) : val f N < (dq f V k m + 1) * (V * 2 ^ (64 * k)) ∧ dq f V k m * (V * 2 ^ (64 * k)) ≤ val f N + V * 2 ^ (64 * k) := by
  have h5 := hi.2.2.2.2
  rw [p64] at h5
  exact knuth (Nat.two_pow_pos _) (Nat.two_pow_pos _) (by omega) (lo_V hm h2) h5 (d_words hm h2 hk hi)
/-- the words above the window are 0 -/
theorem d_high (hm : nw V = m) (h2 : 2 ≤ m) (_hk : k + m < N) (hi : DInv X V N Q (k + 1) f g) : ∀ i, k + m + 1 ≤ i → i < N → f i = 0 := by
  obtain ⟨h1, _, _, _, h5⟩ := hi
  refine high_zero h1 ?_
  have hV := hi_V hm h2
  rw [pow_V k m h2]
  rw [p64] at h5
  have := Nat.mul_le_mul_right (18446744073709551616 * 2 ^ (64 * k)) (Nat.le_of_lt hV)
  refine Nat.lt_of_lt_of_le h5 (Nat.le_trans this (Nat.le_of_eq ?_))
  simp only [Nat.mul_assoc, Nat.mul_left_comm, Nat.mul_comm]
theorem g_set (hg : Wf g Q) (hz : ∀ i, i < k + 1 → g i = 0) (hkQ : k < Q) {q : Nat} (hq : q < 18446744073709551616) : Wf (upd g k q) Q ∧ (∀ i, i < k → upd g k q i = 0) ∧ val (upd g k q) Q = val g Q + q * 2 ^ (64 * k) := by
  refine ⟨wf_upd _ _ _ _ hg hq, fun i hi => ?_, ?_⟩
  · rw [upd_far (by omega)]; exact hz i (by omega)
  · have := val_swap g k q Q hkQ
    rw [hz k (by omega)] at this
    omega
theorem d_fit (hm : nw V = m) (h2 : 2 ≤ m) (hk : k + m < N) (hi : DInv X V N Q (k + 1) f g) (ht : TRes (dq f V k m) V k m f f' N b) (hb : b ≠ 1) (hkQ : k < Q) : DInv X V N Q k f' (upd g k (dq f V k m)) := by
  obtain ⟨kn1, _⟩ := d_knuth hm h2 hk hi
  obtain ⟨_, hg, hz, hX, h5⟩ := hi
  obtain ⟨t1, t2, t3, t4⟩ := ht
  obtain rfl : b = 0 := by omega
  obtain ⟨g1, g2, g3⟩ := g_set hg hz hkQ (dq_lt f V k m)
  rw [Nat.mul_assoc] at t3
  rw [Nat.add_mul, Nat.one_mul] at kn1
  refine ⟨t1, g1, g2, ?_, by omega⟩
  have e : dq f V k m * 2 ^ (64 * k) * V = dq f V k m * (V * 2 ^ (64 * k)) := by rw [Nat.mul_assoc, Nat.mul_comm (2 ^ (64 * k)) V]
  rw [g3, Nat.add_mul, e]
  omega
theorem d_neg (hm : nw V = m) (h2 : 2 ≤ m) (hk : k + m < N) (hi : DInv X V N Q (k + 1) f g) (ht : TRes (dq f V k m) V k m f f' N 1) : val f N < dq f V k m * (V * 2 ^ (64 * k)) ∧ 0 < dq f V k m := by
  have hz := d_high hm h2 hk hi
  obtain ⟨t1, t2, t3, t4⟩ := ht
  have hlow : val f' N < 2 ^ (64 * (k + m + 1)) := low_of_zero t1 (by omega) fun i h1 h2 => by rw [t4 i (.inr h1)]; exact hz i h1 h2
  rw [Nat.mul_assoc, Nat.one_mul] at t3
  have : val f N < dq f V k m * (V * 2 ^ (64 * k)) := by omega
  refine ⟨this, ?_⟩
  rcases Nat.eq_zero_or_pos (dq f V k m) with h | h
  · rw [h, Nat.zero_mul] at this; omega
  · exact h
theorem d_back (hm : nw V = m) (h2 : 2 ≤ m) (hk : k + m < N) (hi : DInv X V N Q (k + 1) f g) (ht : TRes (dq f V k m) V k m f f' N 1) (hbk : BkRes V k m f' f'' N c) (hkQ : k < Q) : DInv X V N Q k f'' (upd (upd g k (dq f V k m)) k (dq f V k m - 1)) := by
  obtain ⟨_, kn2⟩ := d_knuth hm h2 hk hi
  obtain ⟨n1, n2⟩ := d_neg hm h2 hk hi ht
  have hhz := d_high hm h2 hk hi
  obtain ⟨_, hg, hz, hX, h5⟩ := hi
  obtain ⟨t1, t2, t3, t4⟩ := ht
  obtain ⟨b1, b2, b3⟩ := hbk
  have hlt := dq_lt f V k m
  obtain ⟨g1, g2, g3⟩ := g_set hg hz hkQ hlt
  generalize hq : dq f V k m = q at *
  obtain ⟨p, rfl⟩ : ∃ p, q = p + 1 := ⟨q - 1, by omega⟩
  rw [Nat.add_sub_cancel]
  have hlow : val f'' N < 2 ^ (64 * (k + m + 1)) := low_of_zero b1 (by omega) fun i h1 h2 => by rw [b3 i (.inr h1), t4 i (.inr h1)]; exact hhz i h1 h2
  have hlow1 : val f' N < 2 ^ (64 * (k + m + 1)) := low_of_zero t1 (by omega) fun i h1 h2 => by rw [t4 i (.inr h1)]; exact hhz i h1 h2
  rw [Nat.mul_assoc, Nat.one_mul, Nat.add_mul, Nat.one_mul] at t3
  rw [Nat.add_mul, Nat.one_mul] at n1 kn2
  have hc : c = 1 := by
    rcases c with _ | _ | c
    · exfalso; rw [Nat.zero_mul] at b2; omega
    · rfl
    · exfalso
      rw [Nat.add_mul (c + 1), Nat.add_mul c, Nat.one_mul] at b2
      have hVP : V * 2 ^ (64 * k) < 2 ^ (64 * (k + m + 1)) := by
        have hV := hi_V hm h2
        have := Nat.mul_lt_mul_of_pos_right hV (Nat.two_pow_pos (64 * k))
        rw [pow_V k m h2]
        have e : 18446744073709551616 * (18446744073709551616 * 2 ^ (64 * (m - 2))) * 2 ^ (64 * k) = 18446744073709551616 * (18446744073709551616 * (2 ^ (64 * (m - 2)) * 2 ^ (64 * k))) := by simp only [Nat.mul_assoc]
        rw [e] at this
        omega
      omega
  subst hc
  rw [Nat.one_mul] at b2
  refine ⟨b1, wf_upd _ _ _ _ g1 (by omega), fun i hi => ?_, ?_, by omega⟩
  · rw [upd_far (by omega)]; exact g2 i hi
  · have hs := val_swap (upd g k (p + 1)) k p Q hkQ
    have e0 : upd g k (p + 1) k = p + 1 := by unfold upd; rw [if_pos rfl]
    rw [e0, g3, Nat.add_mul p, Nat.one_mul] at hs
    have e1 : val (upd (upd g k (p + 1)) k p) Q = val g Q + p * 2 ^ (64 * k) := by omega
    have e : p * 2 ^ (64 * k) * V = p * (V * 2 ^ (64 * k)) := by rw [Nat.mul_assoc, Nat.mul_comm (2 ^ (64 * k)) V]
    rw [e1, Nat.add_mul, e]
    omega
end
/-- the start: all of x is left -/
theorem nw_shift {y s : Nat} (h0 : y ≠ 0) (hs : s = leadz (wd y (nw y - 1))) : nw (y * 2 ^ s) = nw y ∧ s < 64 := by
  have hb := blen_nw y h0
  have hw := blen_wd y (nw y - 1)
  have hn : 0 < nw y := Nat.pos_of_ne_zero fun h => h0 ((nw_eq_zero y).1 h)
  have hbp : 0 < Wd.blen (wd y (nw y - 1)) := by
    have hp := Wd.blen_pos y h0
    have e : nw y = (Wd.blen y + 63) / 64 := rfl
    omega
  unfold leadz at hs
  have hlt : y * 2 ^ s < 2 ^ (64 * nw y) := by
    have h1 := Wd.lt_two_pow_blen y
    have h2 : y * 2 ^ s < 2 ^ Wd.blen y * 2 ^ s := Nat.mul_lt_mul_of_pos_right h1 (Nat.two_pow_pos _)
    rw [← Nat.pow_add] at h2
    refine Nat.lt_of_lt_of_le h2 (Nat.pow_le_pow_right (by omega) ?_)
    omega
  have h1 := (nw_le _ _).2 hlt
  refine ⟨Nat.le_antisymm h1 ?_, by omega⟩
  refine (nw_le y _).2 (Nat.lt_of_le_of_lt (Nat.le_mul_of_pos_right y (Nat.two_pow_pos s)) (lt_nw _))
theorem val_zero (n : Nat) : val (fun _ => 0) n = 0 := by
  induction n with
  | zero => rfl
  | succ n ih => rw [val, ih]; simp
theorem d_start {x y s N Q : Nat} (hN : nw (x * 2 ^ s) ≤ N) (hQ : nw x + 1 = Q + nw y) (h0 : y ≠ 0) : DInv (x * 2 ^ s) (y * 2 ^ s) N Q Q (wd (x * 2 ^ s)) (fun _ => 0) := by
  refine ⟨wf_wd _ _, fun i hi => by show 0 < _; omega, fun _ _ => rfl, by rw [val_all _ _ hN, val_zero]; simp, ?_⟩
  rw [val_all _ _ hN]
  have hy : 2 ^ (64 * (nw y - 1)) ≤ y := by
    rcases Nat.lt_or_ge y (2 ^ (64 * (nw y - 1))) with h | h
    · have := (nw_le _ _).2 h
      have hn : 0 < nw y := Nat.pos_of_ne_zero fun h => h0 ((nw_eq_zero y).1 h)
      omega
    · exact h
  have hn : 0 < nw y := Nat.pos_of_ne_zero fun h => h0 ((nw_eq_zero y).1 h)
  have h1 : x < y * 2 ^ (64 * Q) := by
    refine Nat.lt_of_lt_of_le (lt_nw x) (Nat.le_trans (Nat.le_of_eq ?_) (Nat.mul_le_mul_right _ hy))
    rw [← Nat.pow_add]; congr 1; omega
  have h2 := Nat.mul_lt_mul_of_pos_right h1 (Nat.two_pow_pos s)
  rw [Nat.mul_assoc, Nat.mul_comm (2 ^ (64 * Q)), ← Nat.mul_assoc] at h2
  exact h2
theorem d_end {x y s N Q : Nat} {f g : Nat → Nat} (h : DInv (x * 2 ^ s) (y * 2 ^ s) N Q 0 f g) : val g Q = x / y ∧ val f N / 2 ^ s = x % y := by
  obtain ⟨_, _, _, hX, h5⟩ := h
  simp only [Nat.mul_zero, Nat.pow_zero, Nat.mul_one] at h5
  have hs : 0 < 2 ^ s := Nat.two_pow_pos s
  have hy : 0 < y := by
    rcases Nat.eq_zero_or_pos y with h | h
    · subst h; simp at h5
    · exact h
  have hq : val g Q = x * 2 ^ s / (y * 2 ^ s) := by
    rw [← hX, Nat.add_mul_div_right _ _ (Nat.mul_pos hy hs), Nat.div_eq_of_lt h5, Nat.zero_add]
  have hr : val f N = x * 2 ^ s % (y * 2 ^ s) := by
    rw [← hX, Nat.add_mul_mod_self_right, Nat.mod_eq_of_lt h5]
  constructor
  · rw [hq, Nat.mul_div_mul_right _ _ hs]
  · rw [hr, Nat.mul_mod_mul_right, Nat.mul_div_cancel _ hs]
end Go.Proofs.Ytngghjhmfpmilaa
