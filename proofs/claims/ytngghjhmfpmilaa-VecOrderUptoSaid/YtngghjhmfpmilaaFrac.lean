/- Fractions that are handed in as two whole numbers; sums of products. -/
import Derived.Test.YtngghjhmfpmilaaVec2
import Derived.Test.YtngghjhmfpmilaaRatL
import Derived.Test.YtngghjhmfpmilaaIs8
namespace Go.Proofs.Ytngghjhmfpmilaa
open Go.RowKit
/-- in the machine's range -/
def R64 (z : Int) : Prop := -9223372036854775808 ≤ z ∧ z < 9223372036854775808
def fracQ (p d : Int) : Rat := if d = 0 then ((p : Int) : Rat) else Rat.divInt p d
theorem szq_frac {p d : Int} (hp : R64 p) (hd : R64 d) : szq (fracQ p d) ≤ 2 := by
  unfold fracQ
  split
  · exact sb_int hp.1 hp.2
  · exact szq_small p (by assumption) hp.1 hp.2 hd.1 hd.2
theorem aggFrac : Agg Try.prog 48 2 := ⟨⟨_, Try.underlying48, rfl⟩, by kernel_rfl⟩
theorem fldFrac0 : FieldAt Try.prog 48 0 0 := fieldAt_of Try.underlying48 rfl rfl (by kernel_rfl)
theorem fldFrac1 : FieldAt Try.prog 48 1 1 := fieldAt_of Try.underlying48 rfl rfl (by kernel_rfl)
theorem shFrac {p d : Int} : Shape (.eq (.agg #[.int .i64 p, .int .i64 d])) 2 := fun h => ⟨_, h, rfl, by simp [Value.oneCell']⟩
theorem paFrac0 {p d : Int} : Part1 (.eq (.agg #[.int .i64 p, .int .i64 d])) 0 (.eq (.int .i64 p)) := fun h => ⟨_, _, h, rfl, rfl⟩
theorem paFrac1 {p d : Int} : Part1 (.eq (.agg #[.int .i64 p, .int .i64 d])) 1 (.eq (.int .i64 d)) := fun h => ⟨_, _, h, rfl, rfl⟩
theorem vec_len {F : Nat → Prop} {s n : Nat} {E : Nat → MR} {w : World} {v : Value} (h : (MR.sl F s E n).R w v) : n ≤ 9223372036854775807 := by
  obtain ⟨A, c, _, _, h1, h2, _⟩ := h
  unfold maxLen at h2
  omega
/-- a row of which the first i are as f says, all others 0 -/
def firstQ (f : Nat → Rat) (i : Nat) : Nat → Rat := fun j => if j < i then f j else 0
theorem firstQ_upd (f : Nat → Rat) (i : Nat) : updQ (firstQ f i) i (f i) = firstQ f (i + 1) := funext fun j => by
  unfold updQ firstQ
  by_cases h : j = i
  · subst h; rw [if_pos rfl, if_pos (by omega)]
  · rw [if_neg h]
    by_cases h2 : j < i
    · rw [if_pos h2, if_pos (by omega)]
    · rw [if_neg h2, if_neg (by omega)]
theorem firstQ_all (f : Nat → Rat) {i j : Nat} (h : j < i) : firstQ f i j = f j := if_pos h
theorem firstQ_zero (f : Nat → Rat) : firstQ f 0 = fun _ => 0 := funext fun j => if_neg (by omega)
end Go.Proofs.Ytngghjhmfpmilaa
