/- A slice of fractions that is handed in, opened. -/
import Derived.Test.YtknflfnkdieomaaOpen
import Derived.Test.YtknflfnkdieomaaVec
namespace Go.Proofs.Ytknflfnkdieomaa
open Go.ChangeShapes Go.WideShapes Go.ChangeAt Go.RowKit Go.Deep
section
variable {H : Type} {enc : TypeId × Value → H} {W : World} {fuel base : Nat} {cs : List Value} {x : DataW H × List MemPlace}
set_option maxRecDepth 100000 in
theorem open_parts (h : DataW.trod enc Try.prog W 0 (fun _ => true) true fuel 59 cs = some x) :
    ∃ (v : Value) (n : Nat) (t : Nat → Bool × (Nat → Nat) × Nat × (Nat → Nat) × Nat), cs = [v] ∧ (MR.sl (fun k => W.heap.size ≤ k) 3 (fun i => .part W.heap.size (t i).1 (t i).2.1 (t i).2.2.1 (t i).2.2.2.1 (t i).2.2.2.2) n).R W v ∧
      (∀ i, i < n → Wf (t i).2.1 (t i).2.2.1 ∧ Wf (t i).2.2.2.1 (t i).2.2.2.2) ∧ (n = 0 ∨ ∃ (D : Nat → DataW H) (sp : List (DataW H)), x.1 = .slice ((List.range n).map D) sp ∧ ∀ i, i < n → ∃ d0 d1 d2, D i = .agg [.agg [d0, d1], d2] ∧ Long (t i).2.2.1 d1 ∧ Long (t i).2.2.2.2 d2) := by
  have e3 : Try.prog.cellsOf 54 = 3 := by kernel_rfl
  rcases open_slice Try.underlying59 h with ⟨rfl, rfl⟩ | ⟨a, len, cap, m, k, D, Pl, rfl, _, hl, hm, hmm, rfl, hx⟩
  · exact ⟨_, 0, fun _ => (false, fun _ => 0, 0, fun _ => 0, 0), rfl, ⟨none, 0, rfl, fun _ => ⟨rfl, rfl⟩, Nat.le_refl _, Nat.zero_le _, fun i hi => by omega⟩, fun i hi => by omega, .inl rfl⟩
  · have hm' : m = cap := by rw [hmm]; rfl
    rcases Nat.eq_zero_or_pos len with rfl | hpos
    · exact ⟨_, 0, fun _ => (false, fun _ => 0, 0, fun _ => 0, 0), rfl, ⟨some a, cap, rfl, (fun e => by cases e), Nat.zero_le _, hm, fun i hi => by omega⟩, fun i hi => by omega, .inl rfl⟩
    have hspot : a.spot = none := by
      obtain ⟨cs', hc, _⟩ := hx 0 (by omega)
      have hc := (congrArg (fun z => W.cells? 0 (a.add (0 * z)) z) e3.symm).trans hc
      obtain ⟨_, hlen, hcell⟩ := World.cells?_some hc
      have h0 := hcell 0 (by decide)
      rw [List.getElem?_eq_getElem (by omega)] at h0
      have := World.cell?_spot h0
      simpa [Addr.add] using this
    obtain ⟨g, o, s⟩ := a
    simp only at hspot
    subst hspot
    have hone : ∀ i, i < len → ∃ (t : Bool × (Nat → Nat) × Nat × (Nat → Nat) × Nat), (g < W.heap.size ∧ Elt W g (o + 3 * i) 3 (.part W.heap.size t.1 t.2.1 t.2.2.1 t.2.2.2.1 t.2.2.2.2)) ∧
        (Wf t.2.1 t.2.2.1 ∧ Wf t.2.2.2.1 t.2.2.2.2) ∧ ∃ d0 d1 d2, D i = .agg [.agg [d0, d1], d2] ∧ Long t.2.2.1 d1 ∧ Long t.2.2.2.2 d2 := fun i hi => by
      obtain ⟨cs', hc, ht⟩ := hx i (by omega)
      have hc := (congrArg (fun z => W.cells? 0 ((⟨g, o, none⟩ : Addr).add (i * z)) z) e3.symm).trans hc
      obtain ⟨b, f, n, g2, m2, hR, wf, wg, d0, d1, d2, hd, l1, l2⟩ := open_part ht
      obtain ⟨_, hlen, hcell⟩ := World.cells?_some hc
      have hcell : ∀ j, j < 3 → W.cell? ⟨g, o + 3 * i + j, none⟩ = cs'[j]? := fun j hj => by
        have := hcell j hj
        rw [add_plain, add_plain] at this
        rw [← this, Nat.mul_comm i 3]
      have h0 := hcell 0 (by decide)
      rw [List.getElem?_eq_getElem (by omega)] at h0
      have hg : g < W.heap.size := cell_lt h0
      refine ⟨(b, f, n, g2, m2), ⟨hg, .agg cs'.toArray, by simpa [Value.cells] using hlen, hR, fun j v hj => ?_⟩, ⟨wf, wg⟩, d0, d1, d2, hd, l1, l2⟩
      have hj' : cs'[j]? = some v := by simpa [Value.cells] using hj
      have hj3 : j < 3 := hlen ▸ (List.getElem?_eq_some_iff.1 hj').1
      rw [hcell j hj3]
      exact hj'
    obtain ⟨t, ht⟩ := choose_lt hone
    refine ⟨_, len, t, rfl, ⟨some ⟨g, o, none⟩, cap, rfl, (fun e => by cases e), hl, hm, fun i hi => ⟨g, o, rfl, ?_, (ht i hi).1.1, (ht i hi).1.2⟩⟩, fun i hi => (ht i hi).2.1, .inr ⟨D, _, rfl, fun i hi => (ht i hi).2.2⟩⟩
    have := (ht i hi).1.1
    omega
set_option maxRecDepth 100000 in
theorem open_partsV {v : Value} {d : DataW H} {ps : List MemPlace} (hv : Value.okWide Try.prog W .any base 59 v) (h : DataW.Trod enc Try.prog W 0 (fun _ => true) true 59 v d ps) :
    ∃ (n : Nat) (t : Nat → Bool × (Nat → Nat) × Nat × (Nat → Nat) × Nat), (MR.sl (fun k => W.heap.size ≤ k) 3 (fun i => .part W.heap.size (t i).1 (t i).2.1 (t i).2.2.1 (t i).2.2.2.1 (t i).2.2.2.2) n).R W v ∧
      (∀ i, i < n → Wf (t i).2.1 (t i).2.2.1 ∧ Wf (t i).2.2.2.1 (t i).2.2.2.2) ∧ (n = 0 ∨ ∃ (D : Nat → DataW H) (sp : List (DataW H)), d = .slice ((List.range n).map D) sp ∧ ∀ i, i < n → ∃ d0 d1 d2, D i = .agg [.agg [d0, d1], d2] ∧ Long (t i).2.2.1 d1 ∧ Long (t i).2.2.2.2 d2) := by
  obtain ⟨a, len, cap, rfl⟩ := okWide_slice Try.underlying59 hv
  obtain ⟨fuel, hf⟩ := h
  obtain ⟨v2, n, t, e, h1, h2, h3⟩ := open_parts hf
  have e : Value.slice a len cap = v2 := by simpa [Value.cells] using e
  subst e
  exact ⟨n, t, h1, h2, h3⟩
end
end Go.Proofs.Ytknflfnkdieomaa
