/- What is handed in, opened: slices of words, actuarylaw07.Whole, actuarylaw08.Part. -/
import Derived.Test.YtknflfnkdieomaaLawT
import Derived.Deep.Slices
import Derived.ChangeArms
import Derived.ChangeShapes
import Derived.WideShapes
namespace Go.Proofs.Ytknflfnkdieomaa
open Go.ChangeShapes Go.WideShapes Go.ChangeAt Go.RowKit Go.Deep
section
variable {H : Type} {enc : TypeId × Value → H} {W : World} {fuel base : Nat} {cs : List Value} {x : DataW H × List MemPlace}
/-- so long is what is read at the least -/
def Long (n : Nat) (d : DataW H) : Prop := n = 0 ∨ ∃ el sp, d = .slice el sp ∧ el.length = n
theorem cell_lt {a : Addr} {v : Value} (h : W.cell? a = some v) : a.block < W.heap.size := by
  unfold World.cell? at h
  split at h
  · rename_i hh
    exact (Array.getElem?_eq_some_iff.1 hh).1
  all_goals cases h
theorem open_words (h : DataW.trod enc Try.prog W 0 (fun _ => true) true fuel 29 cs = some x) :
    ∃ (A : Option Addr) (n c : Nat) (f : Nat → Nat), cs = [.slice A n c] ∧ (MR.inw W.heap.size f n).R W (.slice A n c) ∧ Wf f n ∧ Long n x.1 := by
  rcases open_slice1 Try.underlying29 (by kernel_rfl) h with ⟨rfl, rfl⟩ | ⟨a, len, cap, m, n, V, D, Pl, rfl, _, hl, hm, hmm, rfl, hx⟩
  · exact ⟨none, 0, 0, fun _ => 0, rfl, ⟨none, 0, rfl, fun i hi => by omega, by simp [Nilled]⟩, fun i hi => by omega, .inl rfl⟩
  · have hm' : m = cap := by rw [hmm]; rfl
    have hv : ∀ i, i < len → ∃ z : Int, V i = .int .u64 z ∧ (Lit.int .u64 z).wf = true := fun i hi => by
      obtain ⟨z, e, _, hz⟩ := DataW.trod_int Try.underlying77 (hx i (by omega)).2
      exact ⟨z, by simpa using e, hz⟩
    have hz : ∀ i, i < len → ∃ k : Nat, V i = .int .u64 (k : Nat) ∧ k < 18446744073709551616 := fun i hi => by
      obtain ⟨z, e, hz⟩ := hv i hi
      have hb : 0 ≤ z ∧ z ≤ 18446744073709551615 := by simpa [Lit.wf, IntKind.min, IntKind.max, IntKind.signed, IntKind.bits] using hz
      refine ⟨z.toNat, ?_, by omega⟩
      rw [e, Int.toNat_of_nonneg hb.1]
    obtain ⟨f, hf⟩ := choose_lt (n := len) (α := Nat) (p := fun i k => V i = .int .u64 (k : Nat) ∧ k < 18446744073709551616) (fun i hi => hz i hi)
    refine ⟨some a, len, cap, f, rfl, ⟨some a, cap, rfl, fun i hi => ?_, by simp [Nilled]⟩, fun i hi => (hf i hi).2, .inr ⟨_, _, rfl, by simp⟩⟩
    have hc := (hx i (by omega)).1
    have h0 := (hx 0 (by omega)).1
    have hs : a.spot = none := by
      have := World.cell?_spot h0
      simpa [Addr.add] using this
    obtain ⟨g, o, s⟩ := a
    simp only at hs
    subst hs
    rw [add_plain] at hc
    have hlt : g < W.heap.size := cell_lt hc
    exact ⟨g, o, rfl, by omega, hlt, by rw [hc, (hf i hi).1]⟩
set_option maxRecDepth 100000 in
theorem open_whole (h : DataW.trod enc Try.prog W 0 (fun _ => true) true fuel 31 cs = some x) :
    ∃ (b : Bool) (A : Option Addr) (n c : Nat) (f : Nat → Nat), cs = [.bool b, .slice A n c] ∧ (MR.whole W.heap.size b f n).R W (.agg #[.bool b, .slice A n c]) ∧ Wf f n ∧ ∃ d0 d1, x.1 = .agg [d0, d1] ∧ Long n d1 := by
  obtain ⟨xs, k, _, rfl, hlen, hxl, hf⟩ := DataW.trod_struct Try.underlying31 h
  have e0 : Try.prog.cellsOf 4 = 1 := by kernel_rfl
  have e1 : Try.prog.cellsOf 29 = 1 := by kernel_rfl
  have e2 : Try.prog.cellsOf 31 = 2 := by kernel_rfl
  have h0 := (congrArg (fun z => DataW.trod enc Try.prog W 0 (fun _ => true) true k 4 ((cs.drop 0).take z)) e0.symm).trans (hf 0 _ rfl)
  have h1 := (congrArg (fun z => DataW.trod enc Try.prog W 0 (fun _ => true) true k 29 ((cs.drop 1).take z)) e1.symm).trans (hf 1 _ rfl)
  have hlen := hlen.trans e2
  have hxl : xs.length = 2 := hxl
  match xs, hxl, cs, hlen with
  | [x0, x1], _, [c0, c1], _ =>
    obtain ⟨b, hb, _⟩ := DataW.trod_bool Try.underlying4 h0
    obtain ⟨A, n, c, f, ha, hR, hw, hL⟩ := open_words h1
    obtain rfl : c0 = .bool b := by simpa using hb
    obtain rfl : c1 = .slice A n c := by simpa using ha
    exact ⟨b, A, n, c, f, rfl, ⟨A, c, rfl, hR⟩, hw, _, _, rfl, hL⟩
set_option maxRecDepth 100000 in
theorem open_part (h : DataW.trod enc Try.prog W 0 (fun _ => true) true fuel 54 cs = some x) :
    ∃ (b : Bool) (f : Nat → Nat) (n : Nat) (g : Nat → Nat) (m : Nat), (MR.part W.heap.size b f n g m).R W (.agg cs.toArray) ∧ Wf f n ∧ Wf g m ∧ ∃ d0 d1 d2, x.1 = .agg [.agg [d0, d1], d2] ∧ Long n d1 ∧ Long m d2 := by
  obtain ⟨xs, k, _, rfl, hlen, hxl, hf⟩ := DataW.trod_struct Try.underlying54 h
  have e0 : Try.prog.cellsOf 31 = 2 := by kernel_rfl
  have e1 : Try.prog.cellsOf 29 = 1 := by kernel_rfl
  have e2 : Try.prog.cellsOf 54 = 3 := by kernel_rfl
  have h0 := (congrArg (fun z => DataW.trod enc Try.prog W 0 (fun _ => true) true k 31 ((cs.drop 0).take z)) e0.symm).trans (hf 0 _ rfl)
  have h1 := (congrArg (fun z => DataW.trod enc Try.prog W 0 (fun _ => true) true k 29 ((cs.drop 2).take z)) e1.symm).trans (hf 1 _ rfl)
  have hlen := hlen.trans e2
  have hxl : xs.length = 2 := hxl
  match xs, hxl, cs, hlen with
  | [x0, x1], _, [c0, c1, c2], _ =>
    obtain ⟨b, A, n, c, f, hb, ⟨A', c', e, hR⟩, hw, d0, d1, hd, hL⟩ := open_whole h0
    obtain ⟨A2, m, c3, g, ha, hR2, hw2, hL2⟩ := open_words h1
    obtain rfl : c2 = .slice A2 m c3 := by simpa using ha
    obtain ⟨rfl, rfl⟩ : c0 = .bool b ∧ c1 = .slice A n c := by simpa using hb
    simp only [Value.agg.injEq, Array.mk.injEq, List.cons.injEq, Value.slice.injEq, true_and, and_true] at e
    obtain ⟨rfl, rfl⟩ := e
    exact ⟨b, f, n, g, m, ⟨A, c, A2, c3, rfl, hR, hR2⟩, hw, hw2, d0, d1, x1.1, by show DataW.agg [x0.1, x1.1] = _; rw [hd], hL, hL2⟩
set_option maxRecDepth 100000 in
theorem open_partV {v : Value} {d : DataW H} {ps : List MemPlace} (hv : Value.okWide Try.prog W .any base 54 v) (h : DataW.Trod enc Try.prog W 0 (fun _ => true) true 54 v d ps) :
    ∃ (b : Bool) (f : Nat → Nat) (n : Nat) (g : Nat → Nat) (m : Nat), (MR.part W.heap.size b f n g m).R W v ∧ Wf f n ∧ Wf g m ∧ ∃ d0 d1 d2, d = .agg [.agg [d0, d1], d2] ∧ Long n d1 ∧ Long m d2 := by
  obtain ⟨cs, rfl, _⟩ := okWide_struct Try.underlying54 hv
  obtain ⟨fuel, hf⟩ := h
  exact open_part (by simpa [Value.cells] using hf)
set_option maxRecDepth 100000 in
theorem open_wholeV {v : Value} {d : DataW H} {ps : List MemPlace} (hv : Value.okWide Try.prog W .any base 31 v) (h : DataW.Trod enc Try.prog W 0 (fun _ => true) true 31 v d ps) :
    ∃ (b : Bool) (f : Nat → Nat) (n : Nat), (MR.whole W.heap.size b f n).R W v ∧ Wf f n ∧ ∃ d0 d1, d = .agg [d0, d1] ∧ Long n d1 := by
  obtain ⟨cs, rfl, _⟩ := okWide_struct Try.underlying31 hv
  obtain ⟨fuel, hf⟩ := h
  obtain ⟨b, A, n, c, f, e, hR, hw, d0, d1, hd, hL⟩ := open_whole hf
  have e : cs = #[.bool b, .slice A n c] := by
    have := congrArg List.toArray e
    simpa [Value.cells] using this
  subst e
  exact ⟨b, f, n, hR, hw, d0, d1, hd, hL⟩
end
end Go.Proofs.Ytknflfnkdieomaa
