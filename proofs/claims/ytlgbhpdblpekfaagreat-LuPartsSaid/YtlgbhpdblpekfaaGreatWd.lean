/- Plain laws of 64-bit words: nothing of the program. -/
import Derived.WalkKit
import Derived.Laws.BitsAllLaws
namespace Go.Proofs.YtlgbhpdblpekfaaGreat.Wd
open Go

theorem shr63 (n : Nat) (h : n < 18446744073709551616) : n / 9223372036854775808 = if n.testBit 63 then 1 else 0 := by
  rw [Nat.testBit_eq_decide_div_mod_eq]
  simp only [show (2:Nat)^63 = 9223372036854775808 from rfl]
  by_cases hh : n / 9223372036854775808 % 2 = 1
  · simp [hh]; omega
  · simp [hh]; omega
theorem tb63 (n : Nat) (h : n < 18446744073709551616) : n.testBit 63 = decide (9223372036854775808 ≤ n) := by
  rw [Nat.testBit_eq_decide_div_mod_eq]
  simp only [show (2:Nat)^63 = 9223372036854775808 from rfl]
  rw [decide_eq_decide]; omega
theorem addCarry (x y c s t : Nat) (hx : x < 18446744073709551616) (hy : y < 18446744073709551616) (hc : c ≤ 1) (hs : s = (x + y + c) % 18446744073709551616) (ht : t = 18446744073709551615 - s) :
    ((x &&& y) ||| ((x ||| y) &&& t)) / 9223372036854775808 = (x + y + c) / 18446744073709551616 := by
  have ht' : t < 18446744073709551616 := by omega
  have h1 : (x &&& y) < 18446744073709551616 := Nat.lt_of_le_of_lt Nat.and_le_left hx
  have h2 : ((x ||| y) &&& t) < 18446744073709551616 := Nat.lt_of_le_of_lt Nat.and_le_right ht'
  have h3 : ((x &&& y) ||| ((x ||| y) &&& t)) < 18446744073709551616 := by
    have := Nat.or_lt_two_pow (n := 64) h1 h2
    simpa using this
  rw [shr63 _ h3]
  simp only [Nat.testBit_or, Nat.testBit_and, tb63 x hx, tb63 y hy, tb63 t ht']
  by_cases a : 9223372036854775808 ≤ x <;> by_cases b : 9223372036854775808 ≤ y <;> by_cases d : 9223372036854775808 ≤ t <;> simp [a, b, d] <;> omega
/-- the borrow: u is x without y, as the complement of their exclusive or. -/
theorem subBorrow (x y b d nx u : Nat) (hx : x < 18446744073709551616) (hy : y < 18446744073709551616) (hb : b ≤ 1) (hd : d = (18446744073709551616 * 2 + x - y - b) % 18446744073709551616)
    (hnx : nx = 18446744073709551615 - x) (hu : u = 18446744073709551615 - (x ^^^ y)) :
    ((nx &&& y) ||| (u &&& d)) / 9223372036854775808 = if x < y + b then 1 else 0 := by
  have hd' : d < 18446744073709551616 := by omega
  have hnx' : nx < 18446744073709551616 := by omega
  have hu' : u < 18446744073709551616 := by omega
  have hxy : (x ^^^ y) < 18446744073709551616 := by
    have := Nat.xor_lt_two_pow (n := 64) hx hy
    simpa using this
  have h1 : (nx &&& y) < 18446744073709551616 := Nat.lt_of_le_of_lt Nat.and_le_right hy
  have h2 : (u &&& d) < 18446744073709551616 := Nat.lt_of_le_of_lt Nat.and_le_right hd'
  have h3 : ((nx &&& y) ||| (u &&& d)) < 18446744073709551616 := by
    have := Nat.or_lt_two_pow (n := 64) h1 h2
    simpa using this
  have hut : u.testBit 63 = !(x ^^^ y).testBit 63 := by
    rw [tb63 u hu', tb63 _ hxy]
    by_cases a : 9223372036854775808 ≤ (x ^^^ y)
    · simp [a]; omega
    · simp [a]; omega
  rw [shr63 _ h3]
  simp only [Nat.testBit_or, Nat.testBit_and, hut, Nat.testBit_xor, tb63 x hx, tb63 y hy, tb63 nx hnx', tb63 d hd']
  clear hut h1 h2 h3 hxy hu hu'
  by_cases a : 9223372036854775808 ≤ x <;> by_cases b' : 9223372036854775808 ≤ y <;> by_cases e : 9223372036854775808 ≤ d <;> by_cases f : 9223372036854775808 ≤ nx <;> by_cases g : x < y + b <;> simp [a, b', e, f, g] <;> omega

theorem mulHi (x0 x1 y0 y1 b c : Nat) (h0 : x0 < 4294967296) (h1 : x1 < 4294967296) (h2 : y0 < 4294967296) (h3 : y1 < 4294967296)
    (hb : b = x1 * y0 + x0 * y0 / 4294967296) (hc : c = b % 4294967296 + x0 * y1) :
    x1 * y1 + b / 4294967296 + c / 4294967296 = (x1 * 4294967296 + x0) * (y1 * 4294967296 + y0) / 18446744073709551616
    ∧ b < 18446744073709551616 ∧ c < 18446744073709551616 ∧ x1 * y1 + b / 4294967296 + c / 4294967296 < 18446744073709551616 := by
  have e : (x1 * 4294967296 + x0) * (y1 * 4294967296 + y0) = x1*y1*18446744073709551616 + (x1*y0 + x0*y1)*4294967296 + x0*y0 := by grind
  have l1 : x1 * y0 ≤ 4294967295 * 4294967295 := Nat.mul_le_mul (by omega) (by omega)
  have l2 : x0 * y0 ≤ 4294967295 * 4294967295 := Nat.mul_le_mul (by omega) (by omega)
  have l3 : x0 * y1 ≤ 4294967295 * 4294967295 := Nat.mul_le_mul (by omega) (by omega)
  have l4 : x1 * y1 ≤ 4294967295 * 4294967295 := Nat.mul_le_mul (by omega) (by omega)
  rw [e]
  generalize x1*y0 = p at *; generalize x0*y0 = q at *; generalize x0*y1 = r at *; generalize x1*y1 = t at *
  refine ⟨by omega, by omega, by omega, by omega⟩

/-- state of the loop in digit -/
structure DInv (u next y y1 q r : Nat) : Prop where
  sum : q * y1 + r = u
  up : (u * 4294967296 + next) / y ≤ q
  rl : r < 4294967296
theorem d_start (u next y y1 y0 : Nat) (hu : u < y) (hn : next < 4294967296) (hy : y = y1 * 4294967296 + y0) (hy1 : 2147483648 ≤ y1) (hy1' : y1 < 4294967296) (hy0 : y0 < 4294967296) :
    DInv u next y y1 (u / y1) (u % y1) ∧ u / y1 ≤ 4294967297 := by
  have hd := Nat.div_add_mod u y1
  have hm := Nat.mod_lt u (show 0 < y1 by omega)
  refine ⟨⟨by rw [Nat.mul_comm]; exact hd, ?_, by omega⟩, ?_⟩
  · have : (u * 4294967296 + next) / y ≤ (u * 4294967296 + next) / (4294967296 * y1) := Nat.div_le_div_left (by rw [hy]; omega) (by omega)
    rw [← Nat.div_div_eq_div_mul] at this
    rw [show (u * 4294967296 + next) / 4294967296 = u by omega] at this
    exact this
  · have : u / y1 < 4294967298 := by
      rw [Nat.div_lt_iff_lt_mul (by omega)]; omega
    omega
theorem d_dec (u next y y1 y0 q r : Nat) (hu : u < y) (hn : next < 4294967296) (hy : y = y1 * 4294967296 + y0) (h : DInv u next y y1 q r)
    (ht : 4294967295 < q ∨ r * 4294967296 + next < q * y0) : (u * 4294967296 + next) / y ≤ q - 1 ∧ 1 ≤ q ∧ (q - 1) * y1 + (r + y1) = u := by
  obtain ⟨hs, hup, hr⟩ := h
  have hQ : (u * 4294967296 + next) / y < 4294967296 := by
    rw [Nat.div_lt_iff_lt_mul (by omega)]; omega
  have hlt : (u * 4294967296 + next) / y < q := by
    rcases ht with ht | ht
    · omega
    · rw [Nat.div_lt_iff_lt_mul (by omega), hy]
      have : q * (y1 * 4294967296 + y0) = q * y1 * 4294967296 + q * y0 := by rw [Nat.mul_add, Nat.mul_assoc]
      rw [this, ← hs, Nat.add_mul, Nat.add_assoc]
      exact Nat.add_lt_add_left ht _
  generalize (u * 4294967296 + next) / y = Q at *
  refine ⟨by omega, by omega, ?_⟩
  have : q = (q - 1) + 1 := by omega
  have e : q * y1 = (q - 1) * y1 + y1 := by
    conv => lhs; rw [this, Nat.add_mul, Nat.one_mul]
  omega
theorem d_test (u next y y1 y0 q r : Nat) (hu : u < y) (hy : y = y1 * 4294967296 + y0) (h : DInv u next y y1 q r)
    (ht : q * y0 ≤ r * 4294967296 + next) : (u * 4294967296 + next) / y = q := by
  obtain ⟨hs, hup, hr⟩ := h
  refine Nat.le_antisymm hup ?_
  rw [Nat.le_div_iff_mul_le (by omega), hy]
  have : q * (y1 * 4294967296 + y0) = q * y1 * 4294967296 + q * y0 := by rw [Nat.mul_add, Nat.mul_assoc]
  rw [this]; omega
theorem d_break (u next y y1 y0 q r : Nat) (hu : u < y) (hy : y = y1 * 4294967296 + y0) (hy0 : y0 < 4294967296) (hs : q * y1 + r = u)
    (hup : (u * 4294967296 + next) / y ≤ q) (hq : q ≤ 4294967296) (hr : 4294967295 < r) : (u * 4294967296 + next) / y = q := by
  refine Nat.le_antisymm hup ?_
  rw [Nat.le_div_iff_mul_le (by omega), hy]
  have : q * (y1 * 4294967296 + y0) = q * y1 * 4294967296 + q * y0 := by rw [Nat.mul_add, Nat.mul_assoc]
  have l : q * y0 ≤ 4294967296 * 4294967295 := Nat.mul_le_mul hq (by omega)
  rw [this]; omega
/-- two digits make a quotient -/
theorem two_digits (u hi lo y q1 r1 q0 r0 : Nat) (hy : 0 < y) (h1 : q1 = (u * 4294967296 + hi) / y) (h2 : r1 = (u * 4294967296 + hi) % y)
    (h3 : q0 = (r1 * 4294967296 + lo) / y) (h4 : r0 = (r1 * 4294967296 + lo) % y) :
    q1 * 4294967296 + q0 = (u * 18446744073709551616 + hi * 4294967296 + lo) / y ∧ r0 = (u * 18446744073709551616 + hi * 4294967296 + lo) % y := by
  have e1 := Nat.div_add_mod (u * 4294967296 + hi) y
  have e2 := Nat.div_add_mod (r1 * 4294967296 + lo) y
  have l2 : r0 < y := by rw [h4]; exact Nat.mod_lt _ hy
  rw [← h1, ← h2] at e1
  rw [← h3, ← h4] at e2
  have : u * 18446744073709551616 + hi * 4294967296 + lo = y * (q1 * 4294967296 + q0) + r0 := by
    rw [Nat.mul_add, ← Nat.mul_assoc]; omega
  rw [this]
  generalize q1 * 4294967296 + q0 = z
  refine ⟨?_, ?_⟩
  · rw [Nat.mul_add_div hy, Nat.div_eq_of_lt l2]; exact (Nat.add_zero _).symm
  · rw [Nat.mul_add_mod, Nat.mod_eq_of_lt l2]

/-- how many bits a number has -/
def blen (n : Nat) : Nat := if n = 0 then 0 else n.log2 + 1
theorem blen_le (n k : Nat) : blen n ≤ k ↔ n < 2 ^ k := by
  unfold blen
  by_cases h : n = 0
  · subst h; simp [Nat.two_pow_pos]
  · rw [if_neg h, Nat.succ_le_iff, Nat.log2_lt h]
theorem lt_two_pow_blen (n : Nat) : n < 2 ^ blen n := (blen_le n _).1 (Nat.le_refl _)
theorem two_pow_le_of (n : Nat) (h : n ≠ 0) : 2 ^ (blen n - 1) ≤ n := by
  have := mt (blen_le n (blen n - 1)).2 (by have : 0 < blen n := by unfold blen; rw [if_neg h]; omega
                                            omega)
  omega
theorem blen_pos (n : Nat) (h : n ≠ 0) : 0 < blen n := by unfold blen; rw [if_neg h]; omega
theorem blen_zero : blen 0 = 0 := rfl
theorem blen_eq (n k : Nat) (h1 : n < 2 ^ (k + 1)) (h2 : 2 ^ k ≤ n) : blen n = k + 1 := by
  have a := (blen_le n (k + 1)).2 h1
  have b := mt (blen_le n k).1 (by omega)
  omega
theorem blen_shift (n k : Nat) (h : n / 2 ^ k ≠ 0) : blen n = k + blen (n / 2 ^ k) := by
  have p := two_pow_le_of _ h
  have q := lt_two_pow_blen (n / 2 ^ k)
  have pos := blen_pos _ h
  generalize blen (n / 2 ^ k) = m at *
  have e : k + m = (k + (m - 1)) + 1 := by omega
  rw [e]
  apply blen_eq
  · rw [show k + (m - 1) + 1 = m + k by omega, Nat.pow_add]
    exact (Nat.div_lt_iff_lt_mul (Nat.two_pow_pos k)).1 q
  · rw [Nat.add_comm, Nat.pow_add]
    exact (Nat.le_div_iff_mul_le (Nat.two_pow_pos k)).1 p

/-- what Div shifts by: the divisor's highest bit becomes the word's -/
theorem div_norm (hi lo y S : Nat) (h : hi < y) (hl : lo < 18446744073709551616) (hy : y < 18446744073709551616) (hS : S = 64 - blen y) :
    9223372036854775808 ≤ y * 2 ^ S ∧ y * 2 ^ S < 18446744073709551616 ∧ hi * 2 ^ S < 18446744073709551616 ∧ lo / 2 ^ (64 - S) < 2 ^ S ∧
    hi * 2 ^ S + lo / 2 ^ (64 - S) < y * 2 ^ S ∧ (hi * 18446744073709551616 + lo) * 2 ^ S = (hi * 2 ^ S + lo / 2 ^ (64 - S)) * 18446744073709551616 + lo * 2 ^ S % 18446744073709551616 ∧ S ≤ 64 ∧ 0 < 2 ^ S := by
  have y0 : y ≠ 0 := by omega
  have hp := two_pow_le_of y y0
  have hq := lt_two_pow_blen y
  have hb := blen_pos y y0
  have hb2 := (blen_le y 64).2 hy
  have pS := Nat.two_pow_pos S
  have e64 : 2 ^ (64 - S) * 2 ^ S = 18446744073709551616 := by
    rw [← Nat.pow_add, show 64 - S + S = 64 by omega]
  have n1 : 9223372036854775808 ≤ y * 2 ^ S := by
    have := Nat.mul_le_mul_right (2 ^ S) hp
    rw [← Nat.pow_add, show blen y - 1 + S = 63 by omega] at this
    exact this
  have n2 : y * 2 ^ S < 18446744073709551616 := by
    have := Nat.mul_lt_mul_of_pos_right hq pS
    rw [← Nat.pow_add, show blen y + S = 64 by omega] at this
    exact this
  have n3 : hi * 2 ^ S ≤ y * 2 ^ S := Nat.mul_le_mul_right _ (by omega)
  have n4 : lo / 2 ^ (64 - S) < 2 ^ S := by
    rw [Nat.div_lt_iff_lt_mul (Nat.two_pow_pos _), Nat.mul_comm, e64]; exact hl
  have n5 : hi * 2 ^ S + 2 ^ S ≤ y * 2 ^ S := by
    have := Nat.mul_le_mul_right (2 ^ S) (show hi + 1 ≤ y from h)
    rw [Nat.add_mul, Nat.one_mul] at this; exact this
  have n6 : lo * 2 ^ S / 18446744073709551616 = lo / 2 ^ (64 - S) := by
    rw [← e64, Nat.mul_div_mul_right _ _ pS]
  refine ⟨n1, n2, by omega, n4, by omega, ?_, by omega, pS⟩
  rw [← n6]
  have := Nat.div_add_mod (lo * 2 ^ S) 18446744073709551616
  rw [Nat.add_mul, Nat.add_mul, Nat.add_assoc]
  have e : hi * 18446744073709551616 * 2 ^ S = hi * 2 ^ S * 18446744073709551616 := by rw [Nat.mul_assoc, Nat.mul_comm 18446744073709551616, ← Nat.mul_assoc]
  rw [e]
  omega
theorem div_end (N U L Y y S q1 r1 q0 r0 : Nat) (hy : 0 < y) (pS : 0 < 2 ^ S) (hY : Y = y * 2 ^ S) (hN : N * 2 ^ S = U * 18446744073709551616 + L)
    (h1 : q1 = (U * 4294967296 + L / 4294967296) / Y) (h2 : r1 = (U * 4294967296 + L / 4294967296) % Y)
    (h3 : q0 = (r1 * 4294967296 + L % 4294967296) / Y) (h4 : r0 = (r1 * 4294967296 + L % 4294967296) % Y) :
    q1 * 4294967296 + q0 = N / y ∧ r0 / 2 ^ S = N % y := by
  have h := two_digits U (L / 4294967296) (L % 4294967296) Y q1 r1 q0 r0 (by rw [hY]; exact Nat.mul_pos hy pS) h1 h2 h3 h4
  rw [show U * 18446744073709551616 + L / 4294967296 * 4294967296 + L % 4294967296 = U * 18446744073709551616 + L by omega, ← hN, hY] at h
  rw [h.1, h.2, Nat.mul_div_mul_right _ _ pS, Nat.mul_mod_mul_right, Nat.mul_div_cancel _ pS]
  exact ⟨rfl, rfl⟩
end Go.Proofs.YtlgbhpdblpekfaaGreat.Wd
