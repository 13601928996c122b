/- Slices of fractions as two whole numbers that are handed in, opened. -/
import Derived.Test.YtngghjhmfpmilaaOpen
import Derived.Test.YtngghjhmfpmilaaFrac
namespace Go.Proofs.Ytngghjhmfpmilaa
open Go.ChangeShapes Go.WideShapes Go.ChangeAt Go.RowKit Go.Deep
section
variable {H : Type} {enc : TypeId × Value → H} {W : World} {fuel base : Nat} {cs : List Value} {x : DataW H × List MemPlace}
theorem r64_of {z : Int} (h : (Lit.int .i64 z).wf = true) : R64 z := by
  have : -9223372036854775808 ≤ z ∧ z ≤ 9223372036854775807 := by simpa [Lit.wf, IntKind.min, IntKind.max, IntKind.signed, IntKind.bits] using h
  exact ⟨this.1, by omega⟩
set_option maxRecDepth 100000 in
theorem open_frac (h : DataW.trod enc Try.prog W 0 (fun _ => true) true fuel 48 cs = some x) :
    ∃ p d : Int, cs = [.int .i64 p, .int .i64 d] ∧ R64 p ∧ R64 d := by
  obtain ⟨xs, k, _, rfl, hlen, hxl, hf⟩ := DataW.trod_struct Try.underlying48 h
  have e0 : Try.prog.cellsOf 3 = 1 := by kernel_rfl
  have e2 : Try.prog.cellsOf 48 = 2 := by kernel_rfl
  have h0 := (congrArg (fun z => DataW.trod enc Try.prog W 0 (fun _ => true) true k 3 ((cs.drop 0).take z)) e0.symm).trans (hf 0 _ rfl)
  have h1 := (congrArg (fun z => DataW.trod enc Try.prog W 0 (fun _ => true) true k 3 ((cs.drop 1).take z)) e0.symm).trans (hf 1 _ rfl)
  have hlen := hlen.trans e2
  have hxl : xs.length = 2 := hxl
  match xs, hxl, cs, hlen with
  | [x0, x1], _, [c0, c1], _ =>
    obtain ⟨p, hp, _, wp⟩ := DataW.trod_int Try.underlying3 h0
    obtain ⟨d, hd, _, wd⟩ := DataW.trod_int Try.underlying3 h1
    obtain rfl : c0 = .int .i64 p := by simpa using hp
    obtain rfl : c1 = .int .i64 d := by simpa using hd
    exact ⟨p, d, rfl, r64_of wp, r64_of wd⟩
set_option maxRecDepth 100000 in
theorem open_fracs (h : DataW.trod enc Try.prog W 0 (fun _ => true) true fuel 22 cs = some x) :
    ∃ (v : Value) (n : Nat) (t : Nat → Int × Int), cs = [v] ∧ (MR.sl (fun k => W.heap.size ≤ k) 2 (fun i => .eq (.agg #[.int .i64 (t i).1, .int .i64 (t i).2])) n).R W v ∧ (∀ i, i < n → R64 (t i).1 ∧ R64 (t i).2) ∧ Long n x.1 := by
  have e3 : Try.prog.cellsOf 48 = 2 := by kernel_rfl
  rcases open_slice Try.underlying22 h with ⟨rfl, rfl⟩ | ⟨a, len, cap, m, k, D, Pl, rfl, _, hl, hm, hmm, rfl, hx⟩
  · exact ⟨_, 0, fun _ => (0, 0), rfl, ⟨none, 0, rfl, fun _ => ⟨rfl, rfl⟩, Nat.le_refl _, Nat.zero_le _, fun i hi => by omega⟩, fun i hi => by omega, .inl rfl⟩
  · have hm' : m = cap := by rw [hmm]; rfl
    rcases Nat.eq_zero_or_pos len with rfl | hpos
    · exact ⟨_, 0, fun _ => (0, 0), rfl, ⟨some a, cap, rfl, (fun e => by cases e), Nat.zero_le _, hm, fun i hi => by omega⟩, fun i hi => by omega, .inl rfl⟩
    have hspot : a.spot = none := by
      obtain ⟨cs', hc, _⟩ := hx 0 (by omega)
      have hc := (congrArg (fun z => W.cells? 0 (a.add (0 * z)) z) e3.symm).trans hc
      obtain ⟨_, hlen, hcell⟩ := World.cells?_some hc
      have h0 := hcell 0 (by decide)
      rw [List.getElem?_eq_getElem (by omega)] at h0
      have := World.cell?_spot h0
      simpa [Addr.add] using this
    obtain ⟨g, o, s⟩ := a
    simp only at hspot
    subst hspot
    have hone : ∀ i, i < len → ∃ (t : Int × Int), (g < W.heap.size ∧ Elt W g (o + 2 * i) 2 (.eq (.agg #[.int .i64 t.1, .int .i64 t.2]))) ∧ (R64 t.1 ∧ R64 t.2) := fun i hi => by
      obtain ⟨cs', hc, ht⟩ := hx i (by omega)
      have hc := (congrArg (fun z => W.cells? 0 ((⟨g, o, none⟩ : Addr).add (i * z)) z) e3.symm).trans hc
      obtain ⟨p, d, rfl, rp, rd⟩ := open_frac ht
      obtain ⟨_, hlen, hcell⟩ := World.cells?_some hc
      have hcell : ∀ j, j < 2 → W.cell? ⟨g, o + 2 * i + j, none⟩ = [Value.int .i64 p, .int .i64 d][j]? := fun j hj => by
        have := hcell j hj
        rw [add_plain, add_plain] at this
        rw [← this, Nat.mul_comm i 2]
      have hg : g < W.heap.size := cell_lt (hcell 0 (by decide))
      refine ⟨(p, d), ⟨hg, _, rfl, rfl, fun j v hj => ?_⟩, rp, rd⟩
      have hj3 : j < 2 := (Array.getElem?_eq_some_iff.1 hj).1
      rw [hcell j hj3]
      simpa [Value.cells] using hj
    obtain ⟨t, ht⟩ := choose_lt hone
    refine ⟨_, len, t, rfl, ⟨some ⟨g, o, none⟩, cap, rfl, (fun e => by cases e), hl, hm, fun i hi => ⟨g, o, rfl, ?_, (ht i hi).1.1, (ht i hi).1.2⟩⟩, fun i hi => (ht i hi).2, .inr ⟨_, _, rfl, by simp⟩⟩
    have := (ht i hi).1.1
    omega
set_option maxRecDepth 100000 in
theorem open_fracsV {v : Value} {d : DataW H} {ps : List MemPlace} (hv : Value.okWide Try.prog W .any base 22 v) (h : DataW.Trod enc Try.prog W 0 (fun _ => true) true 22 v d ps) :
    ∃ (n : Nat) (t : Nat → Int × Int), (MR.sl (fun k => W.heap.size ≤ k) 2 (fun i => .eq (.agg #[.int .i64 (t i).1, .int .i64 (t i).2])) n).R W v ∧ (∀ i, i < n → R64 (t i).1 ∧ R64 (t i).2) ∧ Long n d := by
  obtain ⟨a, len, cap, rfl⟩ := okWide_slice Try.underlying22 hv
  obtain ⟨fuel, hf⟩ := h
  obtain ⟨v2, n, t, e, h1, h2, h3⟩ := open_fracs hf
  have e : Value.slice a len cap = v2 := by simpa [Value.cells] using e
  subst e
  exact ⟨n, t, h1, h2, h3⟩
set_option maxRecDepth 100000 in
theorem open_fracV {v : Value} {d : DataW H} {ps : List MemPlace} (hv : Value.okWide Try.prog W .any base 48 v) (h : DataW.Trod enc Try.prog W 0 (fun _ => true) true 48 v d ps) :
    ∃ (p d : Int), (MR.eq (.agg #[.int .i64 p, .int .i64 d])).R W v ∧ R64 p ∧ R64 d := by
  obtain ⟨cs, rfl, _⟩ := okWide_struct Try.underlying48 hv
  obtain ⟨fuel, hf⟩ := h
  obtain ⟨p, d, e, rp, rd⟩ := open_frac hf
  have e : cs = #[.int .i64 p, .int .i64 d] := by
    have := congrArg List.toArray e
    simpa [Value.cells] using this
  subst e
  exact ⟨p, d, rfl, rp, rd⟩
end
end Go.Proofs.Ytngghjhmfpmilaa
