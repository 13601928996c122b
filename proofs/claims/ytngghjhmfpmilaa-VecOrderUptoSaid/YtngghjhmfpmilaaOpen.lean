/- What is handed in, opened: slices of words, actuarylaw07.Whole, actuarylaw08.Part. -/
import Derived.Test.YtngghjhmfpmilaaLawT
import Derived.Deep.Slices
import Derived.ChangeArms
import Derived.ChangeShapes
import Derived.WideShapes
namespace Go.Proofs.Ytngghjhmfpmilaa
open Go.ChangeShapes Go.WideShapes Go.ChangeAt Go.RowKit Go.Deep
section
variable {H : Type} {enc : TypeId × Value → H} {W : World} {fuel base : Nat} {cs : List Value} {x : DataW H × List MemPlace}
/-- so long is what is read at the least -/
def Long (n : Nat) (d : DataW H) : Prop := n = 0 ∨ ∃ el sp, d = .slice el sp ∧ el.length = n
theorem cell_lt {a : Addr} {v : Value} (h : W.cell? a = some v) : a.block < W.heap.size := by
  unfold World.cell? at h
  split at h
  · rename_i hh
    exact (Array.getElem?_eq_some_iff.1 hh).1
  all_goals cases h
theorem open_words (h : DataW.trod enc Try.prog W 0 (fun _ => true) true fuel 29 cs = some x) :
    ∃ (A : Option Addr) (n c : Nat) (f : Nat → Nat), cs = [.slice A n c] ∧ (MR.inw W.heap.size f n).R W (.slice A n c) ∧ Wf f n ∧ Long n x.1 := by
  rcases open_slice1 Try.underlying29 (by kernel_rfl) h with ⟨rfl, rfl⟩ | ⟨a, len, cap, m, n, V, D, Pl, rfl, _, hl, hm, hmm, rfl, hx⟩
  · exact ⟨none, 0, 0, fun _ => 0, rfl, ⟨none, 0, rfl, fun i hi => by omega, by simp [Nilled]⟩, fun i hi => by omega, .inl rfl⟩
  · have hm' : m = cap := by rw [hmm]; rfl
    have hv : ∀ i, i < len → ∃ z : Int, V i = .int .u64 z ∧ (Lit.int .u64 z).wf = true := fun i hi => by
      obtain ⟨z, e, _, hz⟩ := DataW.trod_int Try.underlying105 (hx i (by omega)).2
      exact ⟨z, by simpa using e, hz⟩
    have hz : ∀ i, i < len → ∃ k : Nat, V i = .int .u64 (k : Nat) ∧ k < 18446744073709551616 := fun i hi => by
      obtain ⟨z, e, hz⟩ := hv i hi
      have hb : 0 ≤ z ∧ z ≤ 18446744073709551615 := by simpa [Lit.wf, IntKind.min, IntKind.max, IntKind.signed, IntKind.bits] using hz
      refine ⟨z.toNat, ?_, by omega⟩
      rw [e, Int.toNat_of_nonneg hb.1]
    obtain ⟨f, hf⟩ := choose_lt (n := len) (α := Nat) (p := fun i k => V i = .int .u64 (k : Nat) ∧ k < 18446744073709551616) (fun i hi => hz i hi)
    refine ⟨some a, len, cap, f, rfl, ⟨some a, cap, rfl, fun i hi => ?_, by simp [Nilled]⟩, fun i hi => (hf i hi).2, .inr ⟨_, _, rfl, by simp⟩⟩
    have hc := (hx i (by omega)).1
    have h0 := (hx 0 (by omega)).1
    have hs : a.spot = none := by
      have := World.cell?_spot h0
      simpa [Addr.add] using this
    obtain ⟨g, o, s⟩ := a
    simp only at hs
    subst hs
    rw [add_plain] at hc
    have hlt : g < W.heap.size := cell_lt hc
    exact ⟨g, o, rfl, by omega, hlt, by rw [hc, (hf i hi).1]⟩
end
end Go.Proofs.Ytngghjhmfpmilaa
