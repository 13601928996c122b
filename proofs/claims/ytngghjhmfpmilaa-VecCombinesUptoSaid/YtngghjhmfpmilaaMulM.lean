/- Plain laws for prod.raised and prod.Mul. -/
import Derived.Test.YtngghjhmfpmilaaRow64
import Derived.Test.YtngghjhmfpmilaaRatM
namespace Go.Proofs.Ytngghjhmfpmilaa
open Go.RowKit
def shf (x k : Nat) (i : Nat) : Nat := if i < k then 0 else wd x (i - k)
theorem wf_shf (x k n : Nat) : Wf (shf x k) n := fun i _ => by
  unfold shf
  split
  · omega
  · exact wd_lt _ _
theorem val_shf_low (x k : Nat) : ∀ n, n ≤ k → val (shf x k) n = 0
  | 0, _ => rfl
  | n + 1, h => by
    rw [val, val_shf_low x k n (by omega)]
    unfold shf
    rw [if_pos (by omega), Nat.zero_mul]
theorem val_shf (x k : Nat) : ∀ n, val (shf x k) (k + n) = val (wd x) n * 2 ^ (64 * k)
  | 0 => by rw [Nat.add_zero, val_shf_low x k k (Nat.le_refl _)]; simp [val]
  | n + 1 => by
    rw [← Nat.add_assoc, val, val_shf x k n, val, Nat.add_mul]
    congr 1
    unfold shf
    rw [if_neg (by omega), show k + n - k = n by omega, Nat.mul_assoc, ← Nat.pow_add, Nat.mul_add, Nat.add_comm (64 * k)]
theorem val_shf_all (x k : Nat) : val (shf x k) (k + nw x) = x * 2 ^ (64 * k) := by rw [val_shf, val_all x _ (Nat.le_refl _)]
theorem kara (a0 a1 b0 b1 B : Nat) : a0 * b0 + (((a0 + a1) * (b0 + b1) - (a0 * b0 + a1 * b1)) * B + a1 * b1 * (B * B)) = (a0 + a1 * B) * (b0 + b1 * B) := by
  have e : (a0 + a1) * (b0 + b1) - (a0 * b0 + a1 * b1) = a0 * b1 + a1 * b0 := by
    rw [Nat.add_mul, Nat.mul_add, Nat.mul_add]; omega
  rw [e]
  simp only [Nat.add_mul, Nat.mul_add]
  have h1 : a1 * B * b0 = a1 * b0 * B := by rw [Nat.mul_assoc, Nat.mul_comm B, ← Nat.mul_assoc]
  have h2 : a1 * B * (b1 * B) = a1 * b1 * (B * B) := by rw [Nat.mul_assoc, ← Nat.mul_assoc B, Nat.mul_comm B b1, Nat.mul_assoc b1, ← Nat.mul_assoc]
  have h3 : a0 * (b1 * B) = a0 * b1 * B := by rw [Nat.mul_assoc]
  omega
structure MulFacts (x y k : Nat) : Prop where
  k0 : k ≤ 68719476736
  m1 : max (nw (x % 2 ^ (64 * k))) (nw (y % 2 ^ (64 * k))) < max (nw x) (nw y)
  m2 : max (nw (x / 2 ^ (64 * k))) (nw (y / 2 ^ (64 * k))) < max (nw x) (nw y)
  m3 : max (nw (x % 2 ^ (64 * k) + x / 2 ^ (64 * k))) (nw (y % 2 ^ (64 * k) + y / 2 ^ (64 * k))) < max (nw x) (nw y)
  l1 : nw (x % 2 ^ (64 * k)) + nw (y % 2 ^ (64 * k)) ≤ LIM
  l2 : nw (x / 2 ^ (64 * k)) + nw (y / 2 ^ (64 * k)) ≤ LIM
  l3 : nw (x % 2 ^ (64 * k) + x / 2 ^ (64 * k)) + nw (y % 2 ^ (64 * k) + y / 2 ^ (64 * k)) ≤ LIM
  s1 : Small (x % 2 ^ (64 * k) + x / 2 ^ (64 * k))
  s2 : Small (y % 2 ^ (64 * k) + y / 2 ^ (64 * k))
  s3 : Small (x % 2 ^ (64 * k) * (y % 2 ^ (64 * k)) + x / 2 ^ (64 * k) * (y / 2 ^ (64 * k)))
  r1 : nw ((x % 2 ^ (64 * k) + x / 2 ^ (64 * k)) * (y % 2 ^ (64 * k) + y / 2 ^ (64 * k)) - (x % 2 ^ (64 * k) * (y % 2 ^ (64 * k)) + x / 2 ^ (64 * k) * (y / 2 ^ (64 * k)))) + k ≤ 137438953472
  r2 : nw (x / 2 ^ (64 * k) * (y / 2 ^ (64 * k))) + 2 * k ≤ 137438953472
  s4 : Small (((x % 2 ^ (64 * k) + x / 2 ^ (64 * k)) * (y % 2 ^ (64 * k) + y / 2 ^ (64 * k)) - (x % 2 ^ (64 * k) * (y % 2 ^ (64 * k)) + x / 2 ^ (64 * k) * (y / 2 ^ (64 * k)))) * 2 ^ (64 * k) + x / 2 ^ (64 * k) * (y / 2 ^ (64 * k)) * 2 ^ (64 * (2 * k)))
  s5 : Small (x % 2 ^ (64 * k) * (y % 2 ^ (64 * k)) + (((x % 2 ^ (64 * k) + x / 2 ^ (64 * k)) * (y % 2 ^ (64 * k) + y / 2 ^ (64 * k)) - (x % 2 ^ (64 * k) * (y % 2 ^ (64 * k)) + x / 2 ^ (64 * k) * (y / 2 ^ (64 * k)))) * 2 ^ (64 * k) + x / 2 ^ (64 * k) * (y / 2 ^ (64 * k)) * 2 ^ (64 * (2 * k))))
  eq : x % 2 ^ (64 * k) * (y % 2 ^ (64 * k)) + (((x % 2 ^ (64 * k) + x / 2 ^ (64 * k)) * (y % 2 ^ (64 * k) + y / 2 ^ (64 * k)) - (x % 2 ^ (64 * k) * (y % 2 ^ (64 * k)) + x / 2 ^ (64 * k) * (y / 2 ^ (64 * k)))) * 2 ^ (64 * k) + x / 2 ^ (64 * k) * (y / 2 ^ (64 * k)) * 2 ^ (64 * (2 * k))) = x * y
theorem nw_mod (x k : Nat) : nw (x % 2 ^ (64 * k)) ≤ k := nw_le_of (Nat.mod_lt _ (Nat.two_pow_pos _))
theorem mul_facts {x y k : Nat} (hk : k = (max (nw x) (nw y) + 1) / 2) (hx : 8 ≤ nw x) (hy : 8 ≤ nw y) (hl : nw x + nw y ≤ LIM) : MulFacts x y k := by
  have a0 := nw_mod x k
  have b0 := nw_mod y k
  have a1 := nw_div x k
  have b1 := nw_div y k
  have sa := nw_add (x % 2 ^ (64 * k)) (x / 2 ^ (64 * k))
  have sb := nw_add (y % 2 ^ (64 * k)) (y / 2 ^ (64 * k))
  have p1 := nw_mul (x % 2 ^ (64 * k)) (y % 2 ^ (64 * k))
  have p2 := nw_mul (x / 2 ^ (64 * k)) (y / 2 ^ (64 * k))
  have sp := nw_add (x % 2 ^ (64 * k) * (y % 2 ^ (64 * k))) (x / 2 ^ (64 * k) * (y / 2 ^ (64 * k)))
  have pb := nw_mul (x % 2 ^ (64 * k) + x / 2 ^ (64 * k)) (y % 2 ^ (64 * k) + y / 2 ^ (64 * k))
  have pm := nw_mono' (Nat.sub_le ((x % 2 ^ (64 * k) + x / 2 ^ (64 * k)) * (y % 2 ^ (64 * k) + y / 2 ^ (64 * k))) (x % 2 ^ (64 * k) * (y % 2 ^ (64 * k)) + x / 2 ^ (64 * k) * (y / 2 ^ (64 * k))))
  have e : x % 2 ^ (64 * k) * (y % 2 ^ (64 * k)) + (((x % 2 ^ (64 * k) + x / 2 ^ (64 * k)) * (y % 2 ^ (64 * k) + y / 2 ^ (64 * k)) - (x % 2 ^ (64 * k) * (y % 2 ^ (64 * k)) + x / 2 ^ (64 * k) * (y / 2 ^ (64 * k)))) * 2 ^ (64 * k) + x / 2 ^ (64 * k) * (y / 2 ^ (64 * k)) * 2 ^ (64 * (2 * k))) = x * y := by
    have h2 : 2 ^ (64 * (2 * k)) = 2 ^ (64 * k) * 2 ^ (64 * k) := by rw [← Nat.pow_add]; congr 1; omega
    rw [h2, kara]
    rw [Nat.mul_comm (x / _), Nat.mul_comm (y / _), Nat.mod_add_div, Nat.mod_add_div]
  have hxy := nw_mul x y
  unfold LIM at *
  refine ⟨by omega, by omega, by omega, by omega, by unfold LIM; omega, by unfold LIM; omega, by unfold LIM; omega, by unfold Small; omega, by unfold Small; omega, by unfold Small; omega, by omega, by omega, ?_, ?_, e⟩
  · have := nw_mono' (Nat.le_trans (Nat.le_add_left _ _) (Nat.le_of_eq e))
    unfold Small
    omega
  · rw [e]; unfold Small; omega
end Go.Proofs.Ytngghjhmfpmilaa
