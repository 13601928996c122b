/- The parts SO, SO2. -/
import Derived.Test.YtlgbhpdblpekfaaGreatU7
set_option maxRecDepth 100000
namespace Go.Proofs.YtlgbhpdblpekfaaGreat
open Go.ChangeShapes Go.WideShapes Go.ChangeAt Go.RowKit Go.Deep
def R0 (a : SV) (W : World) (v : Value) : Prop := a.R (fun _ _ => none) (fun _ => False) W v
section
variable {H : Type} {enc : TypeId × Value → H} {W : World} {fuel base : Nat} {cs : List Value} {x : DataW H × List MemPlace}
def LongC (n : Nat) (d : DataW H) (C : Nat → DataW H → Prop) : Prop := (n = 0 ∧ d = .nil) ∨ ∃ (D : Nat → DataW H) (sp : List (DataW H)), d = .slice ((List.range n).map D) sp ∧ ∀ i, i < n → C i (D i)
def Opens (enc : TypeId × Value → H) (W : World) (T : TypeId) (s : Nat) {α : Type} (E : α → SV) (C : α → DataW H → Prop) : Prop := ∀ fuel cs x, DataW.trod enc Tryz.prog W 0 (fun _ => true) true fuel T cs = some x → ∃ (t : α) (ev : Value), cs = ev.cells.toList ∧ ev.cells.size = s ∧ One ev ∧ R0 (E t) W ev ∧ C t x.1
theorem choose_nat {α : Type} (d : α) {p : Nat → α → Prop} {n : Nat} (h : ∀ i, i < n → ∃ t, p i t) : ∃ t : Nat → α, ∀ i, i < n → p i (t i) := by
 classical
 exact ⟨fun i => if hi : i < n then (h i hi).choose else d, fun i hi => by simpa [hi] using (h i hi).choose_spec⟩
theorem cellLt {a : Addr} {v : Value} (h : W.cell? a = some v) : a.block < W.heap.size := by
 unfold World.cell? at h
 split at h
 ·rename_i hh
  exact (Array.getElem?_eq_some_iff.1 hh).1
 all_goals cases h
theorem opens_sl {T e : TypeId} {s : Nat} {α : Type} {E : α → SV} {C : α → DataW H → Prop} (d : α) (hT : Tryz.prog.underlying T = some (.slice e)) (hs : Tryz.prog.cellsOf e = s) (h0 : 0 < s) (h : Opens enc W e s E C) :
  Opens enc W T 1 (fun t : Nat × (Nat → α) => .sl s (fun i => E (t.2 i)) t.1) (fun t d => LongC t.1 d fun i d' => C (t.2 i) d') := by
 intro fuel cs x hr
 rcases open_slice hT hr with ⟨rfl, rfl⟩ | ⟨a, len, cap, m, k, D, Pl, rfl, _, hl, hm, hmm, rfl, hx⟩
 ·exact ⟨(0, fun _ => d), .slice none 0 0, rfl, rfl, by simp [One, Value.cells, Value.oneCell'], ⟨none, 0, rfl, fun _ => ⟨rfl, rfl⟩, Nat.le_refl _, Nat.zero_le _, fun i hi => by omega⟩, .inl ⟨rfl, rfl⟩⟩
 ·have hm' : m = cap := by rw [hmm]; rfl
  subst hs
  rcases Nat.eq_zero_or_pos len with rfl | hpos
  ·exact ⟨(0, fun _ => d), .slice (some a) 0 cap, rfl, rfl, by simp [One, Value.cells, Value.oneCell'], ⟨some a, cap, rfl, (fun e => by cases e), Nat.zero_le _, hm, fun i hi => by omega⟩, .inr ⟨D, _, rfl, fun i hi => by omega⟩⟩
  have hspot : a.spot = none := by
   obtain ⟨cs', hc, _⟩ := hx 0 zo
   obtain ⟨_, hlen, hcell⟩ := World.cells?_some hc
   have h1 := hcell 0 h0
   rw [List.getElem?_eq_getElem (by rw [hlen]; exact h0)] at h1
   have := World.cell?_spot h1
   simpa [Addr.add] using this
  obtain ⟨g, o, sp⟩ := a
  simp only at hspot
  subst hspot
  have hone : ∀ i, i < len → ∃ t : α, (∃ g' o', some (⟨g, o, none⟩ : Addr) = some ⟨g', o', none⟩ ∧ g' < W.heap.size ∧ ∃ ev : Value, (ev.cells.size = Tryz.prog.cellsOf e ∧ One ev) ∧ R0 (E t) W ev ∧ ∀ j u, ev.cells[j]? = some u → W.cell? ⟨g', (o' + Tryz.prog.cellsOf e * i) + j, none⟩ = some u) ∧ C t (D i) := fun i hi => by
   obtain ⟨cs', hc, ht⟩ := hx i zo
   obtain ⟨t, ev, rfl, k1, k2, k3, k4⟩ := h _ _ _ ht
   obtain ⟨_, hlen, hcell⟩ := World.cells?_some hc
   have hcell : ∀ j, j < Tryz.prog.cellsOf e → W.cell? ⟨g, o + Tryz.prog.cellsOf e * i + j, none⟩ = ev.cells.toList[j]? := fun j hj => by
    have := hcell j hj
    rw [add_plain, add_plain] at this
    rw [← this, Nat.mul_comm i]
   have hg : g < W.heap.size := by
    have h1 := hcell 0 h0
    rw [List.getElem?_eq_getElem (by rw [hlen]; exact h0)] at h1
    exact cellLt h1
   refine ⟨t, ⟨g, o, rfl, hg, ev, ⟨k1, k2⟩, k3, fun j u hj => ?_⟩, k4⟩
   have hj3 : j < ev.cells.size := (Array.getElem?_eq_some_iff.1 hj).1
   rw [hcell j zo]
   simpa using hj
  obtain ⟨t, ht⟩ := choose_nat d hone
  refine ⟨(len, t), .slice (some ⟨g, o, none⟩) len cap, rfl, rfl, by simp [One, Value.cells, Value.oneCell'], ⟨some ⟨g, o, none⟩, cap, rfl, (fun e => by cases e), hl, hm, fun i hi => ?_⟩, .inr ⟨_, _, rfl, fun i hi => (ht i hi).2⟩⟩
  obtain ⟨g, o, e1, e2, ev, e3, e4, e5⟩ := (ht i hi).1
  exact ⟨g, o, e1, id, e2, ev, e3, e4, e5⟩
theorem opens_int {T : TypeId} (hT : Tryz.prog.underlying T = some (.int .i64)) : Opens enc W T 1 (fun z : Int => .ex (.int .i64 z)) (fun z _ => Wd64 z) := by
 intro fuel cs x hx
 obtain ⟨p, hp, _, wp⟩ := DataW.trod_int hT hx
 have : -9223372036854775808 ≤ p ∧ p ≤ 9223372036854775807 := by simpa [Lit.wf, IntKind.min, IntKind.max, IntKind.signed, IntKind.bits] using wp
 exact ⟨p, .int .i64 p, hp, rfl, by simp [One, Value.cells, Value.oneCell'], rfl, this.1, by omega⟩
theorem flat_agg {vs : List Value} (h : ∀ v ∈ vs, One v) : One (.agg (flat vs).toArray) := by
 intro u hu
 rw [agg_cells] at hu
 obtain ⟨v, hv, hu⟩ := List.mem_flatMap.1 hu
 exact h v hv u hu
theorem opens_pair {T : TypeId} {f0 f1 : Field} {s0 s1 : Nat} {α β : Type} {E0 : α → SV} {E1 : β → SV} {C0 : α → DataW H → Prop} {C1 : β → DataW H → Prop} (hT : Tryz.prog.underlying T = some (.struct #[f0, f1])) (h0 : f0.offset = 0) (h1 : f1.offset = s0) (c0 : Tryz.prog.cellsOf f0.type = s0) (c1 : Tryz.prog.cellsOf f1.type = s1) (c : Tryz.prog.cellsOf T = s0 + s1)
  (k0 : Opens enc W f0.type s0 E0 C0) (k1 : Opens enc W f1.type s1 E1 C1) : Opens enc W T (s0 + s1) (fun t : α × β => .agg (.cn (E0 t.1) (.cn (E1 t.2) .nl))) (fun t d => ∃ d0 d1, d = .agg [d0, d1] ∧ C0 t.1 d0 ∧ C1 t.2 d1) := by
 intro fuel cs x hr
 obtain ⟨y0, y1, n, rfl, hl, r0, r1⟩ := trod_struct2 hT hr
 obtain ⟨t0, e0, z0, a0, o0, b0, g0⟩ := k0 _ _ _ r0
 obtain ⟨t1, e1, z1, a1, o1, b1, g1⟩ := k1 _ _ _ r1
 rw [h0, c0, List.drop_zero] at z0
 rw [h1, c1] at z1
 have hcs : cs = flat [e0, e1] := by
  show cs = e0.cells.toList ++ (e1.cells.toList ++ [])
  rw [← z0, ← z1, List.append_nil, List.take_of_length_le (l := List.drop s0 cs) (by rw [List.length_drop]; omega), List.take_append_drop]
 refine ⟨(t0, t1), .agg (flat [e0, e1]).toArray, by rw [agg_cells, hcs], ?_, flat_agg fun v hv => ?_, ⟨[e0, e1], rfl, e0, [e1], rfl, b0, e1, [], rfl, b1, rfl⟩, _, _, rfl, g0, g1⟩
 ·show (flat [e0, e1]).toArray.size = _
  rw [← hcs]
  simp only [List.size_toArray]
  omega
 ·simp only [List.mem_cons, List.not_mem_nil, or_false] at hv
  rcases hv with rfl | rfl
  ·exact o0
  ·exact o1
theorem opens_slV {T e : TypeId} {s : Nat} {α : Type} {E : α → SV} {C : α → DataW H → Prop} {v : Value} {d : DataW H} {ps : List MemPlace} (hT : Tryz.prog.underlying T = some (.slice e)) (hv : Value.okWide Tryz.prog W .any base T v) (h : DataW.Trod enc Tryz.prog W 0 (fun _ => true) true T v d ps)
  (k : Opens enc W T 1 (fun t : Nat × (Nat → α) => .sl s (fun i => E (t.2 i)) t.1) (fun t d => LongC t.1 d fun i d' => C (t.2 i) d')) : ∃ (n : Nat) (t : Nat → α), R0 (.sl s (fun i => E (t i)) n) W v ∧ LongC n d fun i d' => C (t i) d' := by
 obtain ⟨a, len, cap, rfl⟩ := okWide_slice hT hv
 obtain ⟨fuel, hf⟩ := h
 obtain ⟨t, ev, e, _, _, hR, hC⟩ := k _ _ _ hf
 have hev : ev = .slice a len cap := by
  obtain ⟨A0, c, rfl, _⟩ := hR
  have e : [Value.slice a len cap] = [Value.slice A0 t.1 c] := e
  exact (List.cons.inj e).1.symm
 subst hev
 exact ⟨t.1, t.2, hR, hC⟩
theorem opens_aggV {T : TypeId} {fs : Array Field} {s : Nat} {α : Type} {E : α → SV} {C : α → DataW H → Prop} {v : Value} {d : DataW H} {ps : List MemPlace} (hT : Tryz.prog.underlying T = some (.struct fs)) (hv : Value.okWide Tryz.prog W .any base T v) (h : DataW.Trod enc Tryz.prog W 0 (fun _ => true) true T v d ps)
  (k : Opens enc W T s (fun t : α => .agg (E t)) C) : ∃ t : α, R0 (.agg (E t)) W v ∧ C t d := by
 obtain ⟨cs, rfl, _⟩ := okWide_struct hT hv
 obtain ⟨fuel, hf⟩ := h
 obtain ⟨t, ev, e, _, _, hR, hC⟩ := k _ _ _ hf
 have hev : ev = .agg cs := by
  obtain ⟨vs, rfl, _⟩ := hR
  rw [agg_cells] at e
  have e : cs.toList = flat vs := e
  rw [← e]
 subst hev
 exact ⟨t, hR, hC⟩
end
def fracS (t : Int × Int) : SV := .agg (.cn (.ex (.int .i64 t.1)) (.cn (.ex (.int .i64 t.2)) .nl))
theorem opens_frac {H : Type} {enc : TypeId × Value → H} {W : World} : Opens enc W 98 2 fracS (fun t d => ∃ d0 d1, d = .agg [d0, d1] ∧ Wd64 t.1 ∧ Wd64 t.2) :=
 opens_pair (s0 := 1) (s1 := 1) Tryz.underlying98 rfl rfl (by kernel_rfl) (by kernel_rfl) (by kernel_rfl) (opens_int Tryz.underlying3) (opens_int Tryz.underlying3)
def rowS (t : Nat × (Nat → Int × Int)) : SV := .sl 2 (fun i => fracS (t.2 i)) t.1
def RowC {H : Type} (t : Nat × (Nat → Int × Int)) (d : DataW H) : Prop := LongC t.1 d fun i d' => ∃ d0 d1, d' = .agg [d0, d1] ∧ Wd64 (t.2 i).1 ∧ Wd64 (t.2 i).2
theorem opens_fracs {H : Type} {enc : TypeId × Value → H} {W : World} : Opens enc W 25 1 rowS RowC :=
 opens_sl (E := fracS) (C := fun t d => ∃ d0 d1, d = .agg [d0, d1] ∧ Wd64 t.1 ∧ Wd64 t.2) (0, 0) Tryz.underlying25 (by kernel_rfl) (by decide) opens_frac
theorem opens_rows {H : Type} {enc : TypeId × Value → H} {W : World} : Opens enc W 22 1 (fun t : Nat × (Nat → Nat × (Nat → Int × Int)) => .sl 1 (fun i => rowS (t.2 i)) t.1) (fun t d => LongC t.1 d fun i d' => RowC (t.2 i) d') :=
 opens_sl (E := rowS) (C := RowC) (0, fun _ => (0, 0)) Tryz.underlying22 (by kernel_rfl) (by decide) opens_fracs
section
variable {H : Type} {enc : TypeId × Value → H} {W : World} {base : Nat} {v : Value} {d : DataW H} {ps : List MemPlace}
theorem top_fracs (hv : Value.okWide Tryz.prog W .any base 25 v) (h : DataW.Trod enc Tryz.prog W 0 (fun _ => true) true 25 v d ps) : ∃ (n : Nat) (t : Nat → Int × Int), R0 (.sl 2 (fun i => fracS (t i)) n) W v ∧ LongC n d fun i d' => ∃ d0 d1, d' = .agg [d0, d1] ∧ Wd64 (t i).1 ∧ Wd64 (t i).2 :=
 opens_slV (E := fracS) (C := fun t d => ∃ d0 d1, d = .agg [d0, d1] ∧ Wd64 t.1 ∧ Wd64 t.2) Tryz.underlying25 hv h opens_fracs
end
theorem CallOK.law {f : FuncId} {As : List SV} (h : CallOK Tryz.prog f As (.ex (.bool true)) []) {W : World} {vals : List Value} (hA : ArgsR As (fun _ _ => none) (fun _ => False) W vals) : Calls Tryz.prog f vals.toArray W fun e W' => ∃ v, e = .returned v ∧ Below W.heap.size W W' ∧ v = .bool true :=
 (h.run (fun _ _ => none) (fun _ => False) W vals (fun _ h => h.elim) hA).mono fun _ _ ⟨v, _, e1, hp, hR⟩ => ⟨v, e1, hp.mod.grow, hR⟩
open Go.ChangeShapes Go.WideShapes Go.ChangeAt Go.RowKit Go.Deep
section
variable {H : Type} {enc : TypeId × Value → H} {W : World} {base : Nat} {v : Value} {d : DataW H} {ps : List MemPlace}
theorem LongC.at {n : Nat} {d : DataW H} {C : Nat → DataW H → Prop} (h : LongC n d C) : ∀ i, i < n → ∃ d', C i d' := fun i hi => by
 rcases h with ⟨rfl, _⟩ | ⟨D, _, _, k⟩
 ·omega
 ·exact ⟨D i, k i hi⟩
theorem opens_u8 {T : TypeId} (hT : Tryz.prog.underlying T = some (.int .u8)) : Opens enc W T 1 (fun z : Nat => .ex (.int .u8 (z : Int))) (fun z _ => z < 256) := by
 intro fuel cs x hx
 obtain ⟨p, hp, _, wp⟩ := DataW.trod_int hT hx
 have : 0 ≤ p ∧ p ≤ 255 := by simpa [Lit.wf, IntKind.min, IntKind.max, IntKind.signed, IntKind.bits] using wp
 exact ⟨p.toNat, .int .u8 p, hp, rfl, by simp [One, Value.cells, Value.oneCell'], by show Value.int .u8 p = .int .u8 ((p.toNat : Nat) : Int); rw [Int.toNat_of_nonneg this.1], by omega⟩
end
theorem opens_grid {H : Type} {enc : TypeId × Value → H} {W : World} : Opens enc W 24 2 (fun t : Nat × (Nat × (Nat → Nat × (Nat → Int × Int))) => .agg (.cn (.ex (.int .u8 ((t.1 : Nat) : Int))) (.cn (.sl 1 (fun i => rowS (t.2.2 i)) t.2.1) .nl))) (fun t d => ∃ d0 d1, d = .agg [d0, d1] ∧ t.1 < 256 ∧ LongC t.2.1 d1 fun i d' => RowC (t.2.2 i) d') :=
 opens_pair (s0 := 1) (s1 := 1) Tryz.underlying24 rfl rfl (by kernel_rfl) (by kernel_rfl) (by kernel_rfl) (opens_u8 Tryz.underlying5) opens_rows
section
variable {H : Type} {enc : TypeId × Value → H} {W : World} {base : Nat} {v : Value} {d : DataW H} {ps : List MemPlace}
theorem LongC.wf {n : Nat} {d : DataW H} {f : Nat → Nat} (h : LongC n d fun i _ => f i < 18446744073709551616) : Wf f n := fun i hi => by
 obtain ⟨_, k⟩ := h.at i hi
 exact k
theorem top_grid (hv : Value.okWide Tryz.prog W .any base 24 v) (h : DataW.Trod enc Tryz.prog W 0 (fun _ => true) true 24 v d ps) : ∃ (t : Nat × (Nat × (Nat → Nat × (Nat → Int × Int)))), R0 (.agg (.cn (.ex (.int .u8 ((t.1 : Nat) : Int))) (.cn (.sl 1 (fun i => rowS (t.2.2 i)) t.2.1) .nl))) W v ∧ t.1 < 256 ∧ ∀ r, r < t.2.1 → ∀ c, c < (t.2.2 r).1 → Wd64 ((t.2.2 r).2 c).1 ∧ Wd64 ((t.2.2 r).2 c).2 := by
 obtain ⟨t, hR, _, _, _, h8, hL⟩ := opens_aggV (E := fun t : Nat × (Nat × (Nat → Nat × (Nat → Int × Int))) => .cn (.ex (.int .u8 ((t.1 : Nat) : Int))) (.cn (.sl 1 (fun i => rowS (t.2.2 i)) t.2.1) .nl)) Tryz.underlying24 hv h opens_grid
 refine ⟨t, hR, h8, fun r hr c hc => ?_⟩
 obtain ⟨_, k⟩ := hL.at r hr
 obtain ⟨_, _, _, _, k2⟩ := k.at c hc
 exact k2
end
end Go.Proofs.YtlgbhpdblpekfaaGreat
