/- Variables that are structs, and the values of the program's data types, as relations; one operation after the other. -/
import Derived.Test.YtngghjhmfpmilaaRel
import Derived.Test.YtngghjhmfpmilaaNat
import Derived.Deep.MidRow
namespace Go.Proofs.Ytngghjhmfpmilaa
open Go.RowKit

/-- rows of words are as they were, and all blocks below B -/
def Ext (B : Nat) (w w' : World) : Prop := w.heap.size ≤ w'.heap.size ∧ (∀ k, U64 w k → w'.heap[k]? = w.heap[k]?) ∧ ∀ k, k < B → w'.heap[k]? = w.heap[k]?
theorem U64.ext {B : Nat} {w w' : World} {k : Nat} (h : U64 w k) (e : Ext B w w') : U64 w' k := by
  obtain ⟨cs, m, hh⟩ := id h
  exact ⟨cs, m, (e.2.1 k h).trans hh⟩
theorem Grow.ext {a b : World} (h : Grow a b) : Ext 0 a b := ⟨h.size, fun k hk => h.block k hk.lt, fun k hk => by omega⟩
theorem NatAt.ext {B : Nat} {w w' : World} {v : Value} {x : Nat} (h : NatAt (fun _ => False) w v x) (e : Ext B w w') : NatAt (fun _ => False) w' v x := by
  obtain ⟨A, c, rfl, h1, h2, hs, h3⟩ := h
  refine ⟨A, c, rfl, h1, h2, hs, fun i hi => ?_⟩
  obtain ⟨g, o, e', ⟨hf, hu⟩, hl, hc⟩ := h3 i hi
  exact ⟨g, o, e', ⟨hf, hu.ext e⟩, Nat.lt_of_lt_of_le hl e.1, (World.cell?_of_block (w := w) (e.2.1 g hu)).trans hc⟩
theorem IntAt.ext {B : Nat} {w w' : World} {v : Value} {z : Int} (h : IntAt (fun _ => False) w v z) (e : Ext B w w') : IntAt (fun _ => False) w' v z := by
  obtain ⟨s, rfl, h1⟩ := h
  exact ⟨s, rfl, h1.ext e⟩
theorem RatAt.ext {B : Nat} {w w' : World} {v : Value} {q : Rat} (h : RatAt (fun _ => False) w v q) (e : Ext B w w') : RatAt (fun _ => False) w' v q := by
  obtain ⟨s, t, rfl, h1, h2⟩ := h
  exact ⟨s, t, rfl, h1.ext e, h2.ext e⟩

def MR.nat (x : Nat) : MR := ⟨fun w v => NatAt (fun _ => False) w v x, fun h k => NatAt.ext k h.ext⟩
def MR.int (z : Int) : MR := ⟨fun w v => IntAt (fun _ => False) w v z, fun h k => IntAt.ext k h.ext⟩
def MR.rat (q : Rat) : MR := ⟨fun w v => RatAt (fun _ => False) w v q, fun h k => RatAt.ext k h.ext⟩
def MR.eq (c : Value) : MR := ⟨fun _ v => v = c, fun _ k => k⟩
def MR.tup2 (A B : MR) : MR := ⟨fun w v => ∃ x y, v = .tuple #[x, y] ∧ A.R w x ∧ B.R w y, fun h ⟨x, y, e, a, b⟩ => ⟨x, y, e, A.mono h a, B.mono h b⟩⟩
def MR.tup3 (A B C : MR) : MR := ⟨fun w v => ∃ x y z, v = .tuple #[x, y, z] ∧ A.R w x ∧ B.R w y ∧ C.R w z, fun h ⟨x, y, z, e, a, b, c⟩ => ⟨x, y, z, e, A.mono h a, B.mono h b, C.mono h c⟩⟩
/-- R, if it comes to that -/
def MR.grd (c : Bool) (A : MR) : MR := ⟨fun w v => c = true → A.R w v, fun h k hc => A.mono h (k hc)⟩
/-- R stays when variables are written -/
def St (B : Nat) (R : MR) : Prop := ∀ {w w' v}, Ext B w w' → R.R w v → R.R w' v
theorem St.nat {B : Nat} (x : Nat) : St B (.nat x) := fun h k => NatAt.ext k h
theorem St.int {B : Nat} (x : Int) : St B (.int x) := fun h k => IntAt.ext k h
theorem St.rat {B : Nat} (x : Rat) : St B (.rat x) := fun h k => RatAt.ext k h
theorem St.eq {B : Nat} (c : Value) : St B (.eq c) := fun _ k => k

/-- block b is a variable of type T, and what it holds is in R -/
def Box (w : World) (b : Nat) (T : TypeId) (R : MR) : Prop := ∃ v, Blk w b T v.cells ∧ R.R w v
theorem Box.lt {w : World} {b : Nat} {T : TypeId} {R : MR} (h : Box w b T R) : b < w.heap.size := by
  obtain ⟨v, h, _⟩ := h
  exact h.lt
theorem Box.grow {w w' : World} {b : Nat} {T : TypeId} {R : MR} (h : Box w b T R) (g : Grow w w') : Box w' b T R := by
  obtain ⟨v, h, k⟩ := h
  exact ⟨v, h.below g, R.mono g k⟩
/-- the world behind a store into variable b -/
structure Put (w w' : World) (b : Nat) : Prop where
  size : w'.heap.size = w.heap.size
  other : ∀ k, k ≠ b → w'.heap[k]? = w.heap[k]?
  os : w'.os = w.os
  tape : w'.tape = w.tape
  output : w'.output = w.output
theorem Put.ext {B : Nat} {w w' : World} {b : Nat} (h : Put w w' b) {T : TypeId} {cs : Array Value} (hb : Blk w b T cs) (hT : T ≠ 105) (hB : B ≤ b) : Ext B w w' := ⟨by rw [h.size]; exact Nat.le_refl _, fun k hk => h.other k fun e => by
  obtain ⟨cs', m, hk⟩ := hk
  subst e
  unfold Blk at hb
  rw [hb] at hk
  simp only [Option.some.injEq, Obj.cells.injEq] at hk
  exact hT hk.2.1, fun k hk => h.other k (by omega)⟩
theorem Grow.put {w a b : World} {k : Nat} (h : Grow w a) (p : Put a b k) (hk : w.heap.size ≤ k) : Grow w b :=
  Below.trans h ⟨p.os, p.tape, p.output, by rw [p.size]; exact Nat.le_refl _, fun i hi => p.other i (by omega)⟩
theorem Box.put {B : Nat} {w w' : World} {b c : Nat} {T : TypeId} {R : MR} (h : Box w b T R) (hs : St B R) (p : Put w w' c) (e : Ext B w w') (hne : b ≠ c) : Box w' b T R := by
  obtain ⟨v, h, k⟩ := h
  exact ⟨v, (p.other b hne).trans h, hs e k⟩
theorem MR.put {B : Nat} {w w' : World} {R : MR} {v : Value} (h : R.R w v) (hs : St B R) (e : Ext B w w') : R.R w' v := hs e h

/-- the type is a struct of so many cells -/
structure Agg (P : Program) (T : TypeId) (n : Nat) : Prop where
  agg : ∃ d, P.underlying T = some d ∧ d.isRow = true
  size : (P.info? T).map (·.size) = some n
/-- what is in R is a struct of n cells, none of them a struct -/
def Shape (R : MR) (n : Nat) : Prop := ∀ {w v}, R.R w v → ∃ cs : Array Value, v = .agg cs ∧ cs.size = n ∧ cs.all (·.oneCell') = true
section
variable {P : Program} {w : World} {R R' : MR} {T T' : TypeId} {b n m off : Nat}
theorem range_extract {cs : Array Value} (h : Blk w b T cs) (_hle : off + n ≤ cs.size) : w.rangeAt b off (cs.extract off (off + n)).toList := by
  intro j v hj
  rw [h.cell]
  have hlt := (List.getElem?_eq_some_iff.1 hj).1
  simp only [Array.length_toList, Array.size_extract] at hlt
  rw [Array.getElem?_toList] at hj
  rw [Array.getElem?_extract, if_pos (by omega)] at hj
  exact hj
/-- part of a struct: the part is a struct of n cells from off on -/
def Part (R : MR) (off n : Nat) (R' : MR) : Prop := ∀ {w v}, R.R w v → ∃ cs : Array Value, v = .agg cs ∧ off + n ≤ cs.size ∧ R'.R w (.agg (cs.extract off (off + n)))
/-- part of a struct: one cell -/
def Part1 (R : MR) (off : Nat) (R' : MR) : Prop := ∀ {w v}, R.R w v → ∃ (cs : Array Value) (c : Value), v = .agg cs ∧ cs[off]? = some c ∧ R'.R w c
theorem load_part (hT : Agg P T n) (hB : Box w b T' R) (hp : Part R off n R') : ∃ v, (Instr.loadAt T (.pointer (some ⟨b, off, none⟩))).run P w = .ok v w ∧ R'.R w v := by
  obtain ⟨v, hB, hR⟩ := hB
  obtain ⟨cs, rfl, hle, hR'⟩ := hp hR
  obtain ⟨⟨d, hu, hd⟩, hi⟩ := hT
  refine ⟨_, run_loadAt_mid w b off T (cs.extract off (off + n)).toList d (range_extract hB hle) hu hd ?_, by rw [Array.toArray_toList]; exact hR'⟩
  rw [hi, Array.length_toList, Array.size_extract]
  congr 1
  omega
theorem Shape.part (h : Shape R n) : Part R 0 n R := fun {w v} hR => by
  obtain ⟨cs, rfl, rfl, _⟩ := h hR
  refine ⟨cs, rfl, by omega, ?_⟩
  simpa using hR
theorem load_box (hT : Agg P T n) (hB : Box w b T' R) (hs : Shape R n) : ∃ v, (Instr.loadAt T (.pointer (some ⟨b, 0, none⟩))).run P w = .ok v w ∧ R.R w v := load_part hT hB hs.part
theorem load_one (hT : ∃ d, P.underlying T = some d ∧ d.isRow = false) (hB : Box w b T' R) (hp : Part1 R off R') : ∃ v, (Instr.loadAt T (.pointer (some ⟨b, off, none⟩))).run P w = .ok v w ∧ R'.R w v := by
  obtain ⟨v, hB, hR⟩ := hB
  obtain ⟨cs, c, rfl, hc, hR'⟩ := hp hR
  obtain ⟨d, hu, hd⟩ := hT
  refine ⟨c, ?_, hR'⟩
  have hagg : (isAgg T).run P w = .ok false w := by
    unfold isAgg
    rw [Sem.run_bind, run_underlying hu w]
    cases d <;> simp_all
  have hcell : w.cell? ⟨b, off, none⟩ = some c := by rw [hB.cell]; exact hc
  simp [Instr.loadAt, Instr.sureAddr, loadVar, Sem.run_bind, hagg, hcell]
/-- a store into the whole variable -/
theorem store_box {v : Value} (hT : (P.info? T).map (·.size) = some n) (hB : Box w b T' R) (hs : Shape R n) (hR : R'.R w v) {B : Nat} (hs' : Shape R' n) (hst : St B R') (hu : T' ≠ 105) (hBb : B ≤ b) :
    ∃ w', (Instr.storeAt T (.pointer (some ⟨b, 0, none⟩)) v).run P w = .ok () w' ∧ Put w w' b ∧ Ext B w w' ∧ Box w' b T' R' := by
  obtain ⟨u, hB, hRu⟩ := hB
  obtain ⟨old, rfl, hold, _⟩ := hs hRu
  obtain ⟨cs, rfl, hcs, h1⟩ := hs' hR
  have hrun := run_storeVar_row (P := P) w b T' T old cs hB (by rw [hT, hcs]) (by rw [hold, hcs]) h1
  have hput : Put w (w.setRow b cs) b := ⟨by simp [World.setRow], fun k hk => by
      simp only [World.setRow, Array.getElem?_modify]
      rw [if_neg (Ne.symm hk)], rfl, rfl, rfl⟩
  have hext := hput.ext hB hu hBb
  refine ⟨w.setRow b cs, by simp only [Instr.storeAt, Instr.sureAddr, Sem.run_bind, Sem.run_pure, Result.andThen_ok, hrun], hput, hext, .agg cs, ?_, hst hext hR⟩
  unfold Blk at hB ⊢
  simp [World.setRow, Array.getElem?_modify, hB, Value.cells]
end
end Go.Proofs.Ytngghjhmfpmilaa
