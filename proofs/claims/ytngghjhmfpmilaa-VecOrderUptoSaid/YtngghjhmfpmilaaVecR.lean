/- Plain laws for VecRoom. -/
import Derived.Test.YtngghjhmfpmilaaVecP
namespace Go.Proofs.Ytngghjhmfpmilaa
open Go.RowKit
section
variable {o : Oper} {ρ : Operand → Value} {w : World} {x y z : Operand}
theorem yld_min3 {P : Program} {Φ : Value → World → Prop} {ts : Array TypeId} {p q r : Int} (h : o.op = .call { callee := .builtin .min, args := #[x, y, z], argTypes := ts }) (hx : ρ x = .int .i64 p) (hy : ρ y = .int .i64 q) (hz : ρ z = .int .i64 r) (K : Φ (.int .i64 (min (min p q) r)) w) : Yld P o ρ w Φ :=
  yld_val (v := .int .i64 (min (min p q) r)) (by unfold execOp; rw [h]; simp [resolve, invoke, builtin, hx, hy, hz, Builtin.min_, Builtin.min2]; omega) K
end
theorem at_ok {r : Rat} {a b : Nat → Rat} {s t u n m : Nat} (hr : szq r ≤ u) (ha : ∀ i, i < n → szq (a i) ≤ s) (hb : ∀ i, i < m → szq (b i) ≤ t) (h : s + t + u ≤ 17179869184) : ∀ i, i < n → i < m → szq r + szq (b i) ≤ 17179869184 ∧ szq (a i) + szq (r * b i) ≤ 17179869184 := fun i hi hm => by
  have h1 := ha i hi
  have h2 := hb i hm
  have h3 := szq_mul r (b i)
  omega
theorem sc_ok {r : Rat} {a : Nat → Rat} {s u n : Nat} (hr : szq r ≤ u) (ha : ∀ i, i < n → szq (a i) ≤ s) (h : s + u ≤ 17179869184) : ∀ i, i < n → szq r + szq (a i) ≤ 17179869184 := fun i hi => by
  have h1 := ha i hi
  omega
theorem cm_ok {a b : Nat → Rat} {s t n m : Nat} (ha : ∀ i, i < n → szq (a i) ≤ s) (hb : ∀ i, i < m → szq (b i) ≤ t) (h : s + t ≤ 17179869184) : ∀ i, i < n → i < m → szq (a i) + szq (b i) ≤ 17179869184 := fun i hi hm => by
  have h1 := ha i hi
  have h2 := hb i hm
  omega
theorem dot_le {a b : Nat → Rat} {s t n : Nat} (ha : ∀ i, i < n → szq (a i) ≤ s) (hb : ∀ i, i < n → szq (b i) ≤ t) (hst : s + t ≤ 64) (hn : n ≤ 1048576) : szq (dotQ a b n) ≤ 140000000 := by
  have h3 : ∀ j, j < n → szq (a j * b j) ≤ 64 := fun j hj => by
    have := szq_mul (a j) (b j)
    have := ha j hj
    have := hb j hj
    omega
  have := dot_szq h3
  omega
theorem dot_spread (a b c : Nat → Rat) : ∀ n, dotQ (fun i => a i + b i) c n = dotQ a c n + dotQ b c n
  | 0 => by show (0 : Rat) = 0 + 0; grind
  | n + 1 => by
    have := dot_spread a b c n
    show dotQ (fun i => a i + b i) c n + (a n + b n) * c n = (dotQ a c n + a n * c n) + (dotQ b c n + b n * c n)
    rw [this]
    grind
theorem same_of {a b : Nat → Rat} {n : Nat} (h : ∀ i, i < n → a i = b i) : decide (cmpVec a n b n = 0) = true := decide_eq_true (cmpVec_zero.2 ⟨rfl, h⟩)
end Go.Proofs.Ytngghjhmfpmilaa
