/- Slices of structs (and of slices) as relations: what is read; rows that a function makes itself and appends to. -/
import Derived.Test.YtngghjhmfpmilaaLawT
import Derived.Test.YtngghjhmfpmilaaFastP
import Derived.Deep.MidRow
import Derived.Deep.AppendSrc
import Derived.Deep.Upon
import Derived.Laws.AppendOwn
import Derived.Great.BuildSlice
namespace Go.Proofs.Ytngghjhmfpmilaa
open Go.RowKit
/-- all is as it was but what lies in F; rows of words stand whatever -/
def ExtF (F : Nat → Prop) (w w' : World) : Prop := w.heap.size ≤ w'.heap.size ∧ (∀ k, U64 w k → w'.heap[k]? = w.heap[k]?) ∧ ∀ k, k < w.heap.size → ¬ F k → w'.heap[k]? = w.heap[k]?
def StF (F : Nat → Prop) (R : MR) : Prop := ∀ {w w' v}, ExtF F w w' → R.R w v → R.R w' v
theorem ExtF.ext0 {F : Nat → Prop} {w w' : World} (h : ExtF F w w') : Ext 0 w w' := ⟨h.1, h.2.1, fun k hk => by omega⟩
theorem StF.nat {F : Nat → Prop} (x : Nat) : StF F (.nat x) := fun h k => NatAt.ext k h.ext0
theorem StF.int {F : Nat → Prop} (x : Int) : StF F (.int x) := fun h k => IntAt.ext k h.ext0
theorem StF.rat {F : Nat → Prop} (x : Rat) : StF F (.rat x) := fun h k => RatAt.ext k h.ext0
theorem StF.eq {F : Nat → Prop} (c : Value) : StF F (.eq c) := fun _ k => k
theorem Grow.extF {F : Nat → Prop} {w w' : World} (h : Grow w w') : ExtF F w w' := ⟨h.size, fun k hk => h.block k hk.lt, fun k hk _ => h.block k hk⟩
theorem Put.extF {F : Nat → Prop} {w w' : World} {b : Nat} {T : TypeId} {cs : Array Value} (p : Put w w' b) (hb : Blk w b T cs) (hT : T ≠ 105) (hF : F b) : ExtF F w w' :=
  ⟨by rw [p.size]; exact Nat.le_refl _, (p.ext (B := 0) hb hT (Nat.zero_le _)).2.1, fun k _ hk => p.other k fun e => hk (e ▸ hF)⟩
theorem Box.typ {w : World} {b : Nat} {T : TypeId} {R : MR} (h : Box w b T R) : ∃ cs, Blk w b T cs := by
  obtain ⟨v, h, _⟩ := h
  exact ⟨_, h⟩
/-- an element of s cells lies at o in block g -/
def Elt (w : World) (g o s : Nat) (R : MR) : Prop := ∃ e : Value, e.cells.size = s ∧ R.R w e ∧ ∀ j v, e.cells[j]? = some v → w.cell? ⟨g, o + j, none⟩ = some v
theorem Elt.block {w w' : World} {g o s : Nat} {R : MR} (h : Elt w g o s R) (hR : ∀ v, R.R w v → R.R w' v) (hg : w'.heap[g]? = w.heap[g]?) : Elt w' g o s R := by
  obtain ⟨e, hs, hr, hc⟩ := h
  exact ⟨e, hs, hR e hr, fun j v hj => (World.cell?_of_block (w := w) hg).trans (hc j v hj)⟩
theorem Elt.grow {w w' : World} {g o s : Nat} {R : MR} (h : Elt w g o s R) (k : Grow w w') (hg : g < w.heap.size) : Elt w' g o s R := h.block (fun _ hr => R.mono k hr) (k.block g hg)
/-- a slice of n elements of s cells each, none of them in F -/
def MR.sl (F : Nat → Prop) (s : Nat) (E : Nat → MR) (n : Nat) : MR := ⟨fun w v => ∃ A c, v = .slice A n c ∧ Nilled A n c ∧ n ≤ c ∧ c ≤ maxLen ∧ ∀ i, i < n → ∃ g o, A = some ⟨g, o, none⟩ ∧ ¬ F g ∧ g < w.heap.size ∧ Elt w g (o + s * i) s (E i),
  fun h ⟨A, c, e, h1, h2, h3, k⟩ => ⟨A, c, e, h1, h2, h3, fun i hi => by
    obtain ⟨g, o, ea, hf, hl, he⟩ := k i hi
    exact ⟨g, o, ea, hf, Nat.lt_of_lt_of_le hl h.size, he.grow h hl⟩⟩⟩
section
variable {F F' : Nat → Prop} {s n : Nat} {E : Nat → MR} {w w' : World} {v : Value}
theorem StF.sl (h : ∀ i, StF F (E i)) : StF F (.sl F s E n) := fun {w w' v} e ⟨A, c, ev, h1, h2, h3, k⟩ => ⟨A, c, ev, h1, h2, h3, fun i hi => by
  obtain ⟨g, o, ea, hf, hl, he⟩ := k i hi
  exact ⟨g, o, ea, hf, Nat.lt_of_lt_of_le hl e.1, he.block (fun v hr => h i e hr) (e.2.2 g hl hf)⟩⟩
/-- what is asked may be less; what is new is not in it -/
theorem sl_own (h : (MR.sl F s E n).R w v) (hF : ∀ k, F' k → F k ∨ w.heap.size ≤ k) : (MR.sl F' s E n).R w v := by
  obtain ⟨A, c, ev, h1, h2, h3, k⟩ := h
  refine ⟨A, c, ev, h1, h2, h3, fun i hi => ?_⟩
  obtain ⟨g, o, ea, hf, hl, he⟩ := k i hi
  exact ⟨g, o, ea, fun hg => (hF g hg).elim hf (by omega), hl, he⟩
end
/-- a pointer to an element -/
def MR.eptr (F : Nat → Prop) (s : Nat) (R : MR) : MR := ⟨fun w v => ∃ g o, v = .pointer (some ⟨g, o, none⟩) ∧ ¬ F g ∧ g < w.heap.size ∧ Elt w g o s R, fun h ⟨g, o, e, hf, hl, k⟩ => ⟨g, o, e, hf, Nat.lt_of_lt_of_le hl h.size, k.grow h hl⟩⟩
/-- a row of fractions -/
def MR.vec (F : Nat → Prop) (q : Nat → Rat) (n : Nat) : MR := .sl F 3 (fun i => .rat (q i)) n
theorem StF.vec {F : Nat → Prop} {q : Nat → Rat} {n : Nat} : StF F (.vec F q n) := StF.sl fun _ => StF.rat _
theorem ratInfo : (Try.prog.info? 35).map (fun i => (i.zero, i.size, i.bytes)) = some (some (.agg #[.bool false, .slice none 0 0, .slice none 0 0]), 3, 56) := by kernel_rfl
section
variable {o : Oper} {ρ : Operand → Value} {w : World} {x y : Operand} {F : Nat → Prop} {n s k : Nat} {E : Nat → MR} {R : MR} {T e : TypeId} {z : Int}
theorem yld_lenS (hT : Try.prog.underlying T = some (.slice e)) (h : o.op = .call { callee := .builtin .len, args := #[x], argTypes := #[T] }) (hx : (MR.sl F s E n).R w (ρ x)) : Yld Try.prog o ρ w (fun v w' => Grow w w' ∧ (MR.eq (.int .i64 ((n : Nat) : Int))).R w' v) := by
  obtain ⟨A, c, ev, _⟩ := hx
  exact yld_len hT h ev ⟨Grow.refl _, rfl⟩
theorem yld_indexS (hT : Try.prog.underlying T = some (.slice e)) (hi : (Try.prog.info? e).map (·.size) = some s) (h : o.op = .indexAddr T x y) (hx : (MR.sl F s E n).R w (ρ x)) (hy : ρ y = .int .i64 z) (hz : z = ((k : Nat) : Int)) (hk : k < n) :
    Yld Try.prog o ρ w (fun v w' => Grow w w' ∧ (MR.eptr F s (E k)).R w' v) := by
  obtain ⟨A, c, ev, h1, h2, h3, hE⟩ := hx
  obtain ⟨g, oo, rfl, hf, hl, he⟩ := hE k hk
  cases hq : Try.prog.info? e with
  | none => rw [hq] at hi; cases hi
  | some i0 =>
    have hz1 : i0.size = s := by simpa [hq] using hi
    have hrun : (execOp ρ o).run Try.prog w = .ok (.value (.pointer (some ⟨g, oo + s * k, none⟩))) w := by
      unfold execOp
      rw [h]
      have h1 : (0 : Int) ≤ (k : Int) ∧ (k : Int) < (n : Int) := by omega
      simp [Instr.indexAt, ev, hy, hz, asIntOf, run_underlying hT, sizeOf, typeInfo, hq, hz1, hk, add_plain, Nat.mul_comm k s]
    exact yld_val hrun ⟨Grow.refl _, g, _, rfl, hf, hl, he⟩
theorem yld_loadR {d : TypeDesc} (hu : Try.prog.underlying T = some d) (hd : d.isRow = true) (hi : (Try.prog.info? T).map (·.size) = some s) (hS : Shape R s) (h : o.op = .load T x) (hx : (MR.eptr F s R).R w (ρ x)) : Yld Try.prog o ρ w (fun v w' => Grow w w' ∧ R.R w' v) := by
  obtain ⟨g, oo, ev, hf, hl, e, hs, hR, hc⟩ := hx
  obtain ⟨cs, rfl, hcs, _⟩ := hS hR
  refine yld_load h (v := .agg cs) ?_ ⟨Grow.refl _, hR⟩
  rw [ev]
  have := run_loadAt_mid (P := Try.prog) w g oo T cs.toList d (fun j v hj => hc j v (by rw [Array.getElem?_toList] at hj; exact hj)) hu hd (by rw [hi, Array.length_toList, hcs])
  simpa using this
end
section
variable {o : Oper} {ρ : Operand → Value} {w : World} {x y : Operand} {F : Nat → Prop} {n k : Nat} {q : Nat → Rat} {T : TypeId} {z : Int}
theorem yld_indexV (hT : Try.prog.underlying T = some (.slice 35)) (h : o.op = .indexAddr T x y) (hx : (MR.vec F q n).R w (ρ x)) (hy : ρ y = .int .i64 z) (hz : z = ((k : Nat) : Int)) (hk : k < n) :
    Yld Try.prog o ρ w (fun v w' => Grow w w' ∧ (MR.eptr F 3 (.rat (q k))).R w' v) := yld_indexS hT (by kernel_rfl) h hx hy hz hk
theorem yld_loadQ {r : Rat} (h : o.op = .load 35 x) (hx : (MR.eptr F 3 (.rat r)).R w (ρ x)) : Yld Try.prog o ρ w (fun v w' => Grow w w' ∧ (MR.rat r).R w' v) :=
  yld_loadR Try.underlying35 rfl (by kernel_rfl) (shRat _) h hx
end
/-- what a slice of one's own is: it may be appended to -/
def MR.ownv (B : Nat) (F : Nat → Prop) (q : Nat → Rat) (n : Nat) : MR := ⟨fun w v => ∃ A c, v = .slice A n c ∧ n ≤ c ∧ c ≤ maxLen ∧ ((A = none ∧ n = 0 ∧ c = 0) ∨ ∃ g cs, A = some ⟨g, 0, none⟩ ∧ B ≤ g ∧ ¬ F g ∧ Blk w g 35 cs ∧ cs.size = 3 * c ∧ ∀ i, i < n → Elt w g (3 * i) 3 (.rat (q i))),
  fun h ⟨A, c, e, h1, h2, k⟩ => ⟨A, c, e, h1, h2, k.imp id fun ⟨g, cs, ea, hB, hF, hb, hs, he⟩ => ⟨g, cs, ea, hB, hF, hb.below h, hs, fun i hi => (he i hi).grow h hb.lt⟩⟩⟩
/-- a new value at place n -/
def updQ (q : Nat → Rat) (n : Nat) (r : Rat) : Nat → Rat := fun i => if i = n then r else q i
section
variable {B : Nat} {F F' : Nat → Prop} {q : Nat → Rat} {n : Nat} {w w' : World} {v : Value}
theorem ownv_nil : (MR.ownv B F q 0).R w (.slice none 0 0) := ⟨none, 0, rfl, Nat.le_refl _, Nat.zero_le _, .inl ⟨rfl, rfl, rfl⟩⟩
theorem ownv_vec (h : (MR.ownv B F q n).R w v) : (MR.vec F q n).R w v := by
  obtain ⟨A, c, rfl, h1, h2, h3⟩ := h
  rcases h3 with ⟨rfl, rfl, rfl⟩ | ⟨g, cs, rfl, hB, hF, hb, hs, he⟩
  · exact ⟨none, 0, rfl, fun _ => ⟨rfl, rfl⟩, h1, h2, fun i hi => by omega⟩
  · exact ⟨some ⟨g, 0, none⟩, c, rfl, (fun e => by cases e), h1, h2, fun i hi => ⟨g, 0, rfl, hF, hb.lt, by rw [Nat.zero_add]; exact he i hi⟩⟩
theorem ownv_own (h : (MR.ownv B F q n).R w v) (hF : ∀ k, F' k → F k ∨ w.heap.size ≤ k) : (MR.ownv B F' q n).R w v := by
  obtain ⟨A, c, rfl, h1, h2, h3⟩ := h
  refine ⟨A, c, rfl, h1, h2, h3.imp id fun ⟨g, cs, ea, hB, hFg, hb, hs, he⟩ => ⟨g, cs, ea, hB, fun hg => (hF g hg).elim hFg (fun h => ?_), hb, hs, he⟩⟩
  have := hb.lt
  omega
theorem StF.ownv : StF F (.ownv B F q n) := fun {w w' v} e ⟨A, c, ev, h1, h2, h3⟩ => ⟨A, c, ev, h1, h2, h3.imp id fun ⟨g, cs, ea, hB, hF, hb, hs, he⟩ => by
  have hg := e.2.2 g hb.lt hF
  exact ⟨g, cs, ea, hB, hF, hg.trans hb, hs, fun i hi => (he i hi).block (fun v hr => StF.rat (F := F) _ e hr) hg⟩⟩
end
/-- the world behind an append to one's own: what lies ahead of B, what is in F, and rows of words, are as they were -/
structure App (B : Nat) (F : Nat → Prop) (w w' : World) : Prop where
  os : w'.os = w.os
  tape : w'.tape = w.tape
  output : w'.output = w.output
  size : w.heap.size ≤ w'.heap.size
  low : ∀ k, k < B → k < w.heap.size → w'.heap[k]? = w.heap[k]?
  box : ∀ k, F k → k < w.heap.size → w'.heap[k]? = w.heap[k]?
  u64 : ∀ k, U64 w k → w'.heap[k]? = w.heap[k]?
theorem App.ext {B : Nat} {F : Nat → Prop} {w w' : World} (h : App B F w w') : Ext 0 w w' := ⟨h.size, h.u64, fun k hk => by omega⟩
theorem App.grow {B : Nat} {F : Nat → Prop} {w0 w w' : World} (g : Grow w0 w) (h : App B F w w') (hB : w0.heap.size ≤ B) : Grow w0 w' :=
  Below.trans g ⟨h.os, h.tape, h.output, h.size, fun i hi => h.low i (by omega) (Nat.lt_of_lt_of_le hi g.size)⟩
theorem Box.app {B : Nat} {F : Nat → Prop} {w w' : World} {b : Nat} {T : TypeId} {R : MR} (h : Box w b T R) (a : App B F w w') (hF : F b) (hs : St 0 R) : Box w' b T R := by
  obtain ⟨v, h, k⟩ := h
  exact ⟨v, (a.box b hF h.lt).trans h, hs a.ext k⟩
/-- one fraction, typed -/
def MR.lit1 (r : Rat) : MR := ⟨fun w v => ∃ g, v = .slice (some ⟨g, 0, none⟩) 1 1 ∧ g < w.heap.size ∧ Elt w g 0 3 (.rat r), fun h ⟨g, e, hl, k⟩ => ⟨g, e, Nat.lt_of_lt_of_le hl h.size, k.grow h hl⟩⟩
section
variable {o : Oper} {ρ : Operand → Value} {w w' : World} {x y : Operand} {B : Nat} {F F' : Nat → Prop} {n : Nat} {q : Nat → Rat} {r : Rat} {T : TypeId}
theorem elt_new {cs : Array Value} {off : Nat} {es : Array Value} {t : TypeId} (hR : (MR.rat r).R w (.agg es)) (h3 : es.size = 3) (hc : ∀ j v, es[j]? = some v → cs[off + j]? = some v) :
    Elt (w.alloc (.cells cs t)) w.heap.size off 3 (.rat r) :=
  ⟨.agg es, h3, MR.mono _ ((Grow.refl w).alloc _) hR, fun j v hj => by rw [(Blk.new w t cs).cell]; exact hc j v hj⟩
theorem yld_lit1 (hT : Try.prog.underlying T = some (.slice 35)) (h : o.op = .buildSlice T 1 #[(0, x)]) (hx : (MR.rat r).R w (ρ x)) : Yld Try.prog o ρ w (fun v w' => Grow w w' ∧ (MR.lit1 r).R w' v) := by
  obtain ⟨es, ev, h3, _⟩ := shRat r hx
  obtain ⟨i0, hi0, hz0, hz1, hz2⟩ := infoParts ratInfo
  have hrun : (Instr.buildSlice T 1 #[(0, .agg es)]).run Try.prog w = .ok (.slice (some ⟨w.heap.size, 0, none⟩) 1 1) (w.alloc (.cells es 35)) := by
    refine run_buildSlice w T 35 1 _ es i0 _ hT hi0 hz0 (by rw [hz1]; decide) (by rw [hz1]; decide) ?_
    obtain ⟨a, b, c, rfl⟩ : ∃ a b c, es = #[a, b, c] := by
      match es, h3 with
      | ⟨[a, b, c]⟩, _ => exact ⟨a, b, c, rfl⟩
    rw [hz1, show Array.range (1 * 3) = #[0, 1, 2] from by decide]
    simp [Instr.fill, Value.cells]
  unfold Yld execOp
  rw [h]
  have e : (#[(0, x)] : Array (Nat × Operand)).map (fun (i, x) => (i, ρ x)) = #[(0, .agg es)] := by simp [ev]
  simp only [e, Sem.run_bind, hrun, Result.andThen_ok]
  rw [ev] at hx
  refine ⟨(Grow.refl w).alloc _, w.heap.size, rfl, by simp, elt_new hx h3 fun j v hj => by rw [Nat.zero_add]; exact hj⟩
theorem Grow.app (h : Grow w w') : App B F w w' := ⟨h.os, h.tape, h.output, h.size, fun k _ hk => h.block k hk, fun k _ hk => h.block k hk, fun k hk => h.block k hk.lt⟩
theorem yld_appendV {Φ : Value → World → Prop} (hT : Try.prog.underlying T = some (.slice 35)) (h : o.op = .call { callee := .builtin .append, args := #[x, y], argTypes := #[T, T] }) (hx : (MR.ownv B F q n).R w (ρ x)) (hy : (MR.lit1 r).R w (ρ y)) (hn : n ≤ 68719476736) (hB : B ≤ w.heap.size)
    (hF' : ∀ k, F' k → F k ∧ k < w.heap.size) (K : ∀ v w', App B F' w w' → (MR.ownv B F' (updQ q n r) (n + 1)).R w' v → Φ v w') : Yld Try.prog o ρ w Φ := by
  obtain ⟨A, c, ex, h1, h2, h3⟩ := hx
  obtain ⟨gy, ey, hgy, ey0, hs0, hR0, hc0⟩ := hy
  obtain ⟨es, rfl, h30, hone⟩ := shRat r hR0
  obtain ⟨i0, hi0, hz0, hz1, hz2⟩ := infoParts ratInfo
  have hcel : (Value.agg es).cells = es := rfl
  have hsrc : Src Try.prog i0.size T (.slice (some ⟨gy, 0, none⟩) 1 1) 1 es.toList w := Src.ofSlice w hT ⟨gy, 0, none⟩ 1 1 es.toList (by rw [Array.length_toList, hz1, h30]) (fun j u hj => by
    rw [Array.getElem?_toList] at hj
    rw [add_plain]
    exact hc0 j u hj) (fun u hu => by
    have := Array.all_eq_true_iff_forall_mem.1 hone u (by simpa using hu)
    exact this)
  by_cases hroom : n + 1 ≤ c
  · rcases h3 with ⟨_, _, rfl⟩ | ⟨g, cs, rfl, hBg, hFg, hb, hcs, he⟩
    · omega
    obtain ⟨a0, a1, a2, rfl⟩ : ∃ a b c, es = #[a, b, c] := by
      match es, h30 with
      | ⟨[a, b, c]⟩, _ => exact ⟨a, b, c, rfl⟩
    have hrun := run_append_room_src (P := Try.prog) w T T o.type 35 i0 hT hi0 g 0 n c _ 1 [a0, a1, a2] hsrc hroom (fun j hj => by
      simp only [List.length_cons, List.length_nil] at hj
      rw [hb.cell, hz1, Array.getElem?_eq_getElem (show 0 + n * 3 + j < cs.size by omega)]
      rfl) (fun j hj => hb.frozen _)
    have hexec : (execOp ρ o).run Try.prog w = .ok (.value (.slice (some ⟨g, 0, none⟩) (n + 1) c)) (w.setCells g (0 + n * i0.size) [a0, a1, a2]) := by
      unfold execOp; rw [h]; simp [resolve, invoke, builtin, ex, ey, hrun]
    unfold Yld
    rw [hexec]
    have hb' : Blk (w.setCells g (0 + n * i0.size) [a0, a1, a2]) g 35 _ := ((hb.set_ (0 + n * i0.size) a0).set_ (0 + n * i0.size + 1) a1).set_ (0 + n * i0.size + 1 + 1) a2
    have happ : App B F' w (w.setCells g (0 + n * i0.size) [a0, a1, a2]) := by
      have hoth : ∀ k, k < w.heap.size → k ≠ g → (w.setCells g (0 + n * i0.size) [a0, a1, a2]).heap[k]? = w.heap[k]? := fun k hk hne => World.heap_setCells_other w g _ _ hk hne
      refine ⟨rfl, rfl, rfl, by simp [World.setCells, World.setCell], fun k hk hl => hoth k hl (by omega), fun k hk hl => hoth k hl (fun e => hFg (e ▸ (hF' k hk).1)), fun k hk => hoth k hk.lt (fun e => ?_)⟩
      subst e
      obtain ⟨cs2, m2, hk⟩ := hk
      unfold Blk at hb
      rw [hb] at hk
      simp only [Option.some.injEq, Obj.cells.injEq] at hk
      exact absurd hk.2.1 (by decide)
    refine K _ _ happ ⟨some ⟨g, 0, none⟩, c, rfl, hroom, h2, .inr ⟨g, _, rfl, hBg, fun hg => hFg (hF' g hg).1, hb', by simp [hcs], fun i hi => ?_⟩⟩
    by_cases hin : i = n
    · subst hin
      refine ⟨.agg #[a0, a1, a2], rfl, by show (MR.rat (updQ q i r i)).R _ _; unfold updQ; rw [if_pos rfl]; exact St.rat r happ.ext hR0, fun j v hj => ?_⟩
      have hj3 : j < 3 := (Array.getElem?_eq_some_iff.1 hj).1
      have := World.cell?_setCells_in g [a0, a1, a2] (0 + i * i0.size) w (fun j hj => by
        simp only [List.length_cons, List.length_nil] at hj
        rw [hb.cell, hz1, Array.getElem?_eq_getElem (show 0 + i * 3 + j < cs.size by omega)]
        rfl) j hj3
      rw [show 3 * i + j = 0 + i * i0.size + j by rw [hz1]; omega, this, ← hj]
      have : j = 0 ∨ j = 1 ∨ j = 2 := by omega
      rcases this with rfl | rfl | rfl <;> rfl
    · obtain ⟨e, hs, hR, hc⟩ := he i (by omega)
      refine ⟨e, hs, by show (MR.rat (updQ q n r i)).R _ _; unfold updQ; rw [if_neg hin]; exact St.rat _ happ.ext hR, fun j v hj => ?_⟩
      have hj3 : j < 3 := hs ▸ (Array.getElem?_eq_some_iff.1 hj).1
      rw [World.cell?_setCells_out g _ _ _ _ (fun _ _ => .inl (by show 3 * i + j < 0 + n * i0.size; rw [hz1]; omega))]
      exact hc j v hj
  · have hnc : n = c := by omega
    have core : ∀ (olds : List Value), olds.length = 3 * n → (Builtin.firstCells i0.size n (.slice A n c)).run Try.prog w.drew = .ok olds.toArray w.drew → (∀ i, i < n → ∃ e : Value, e.cells.size = 3 ∧ (MR.rat (q i)).R w e ∧ ∀ j v, e.cells[j]? = some v → olds[3 * i + j]? = some v) → Yld Try.prog o ρ w Φ := by
      intro olds hol hold hel
      have hrun := run_append_grow_src (P := Try.prog) w T T o.type 35 i0 _ hT hi0 hz0 A n c olds hold _ 1 es.toList hsrc (by omega) (by omega) (growslice_fits (by omega) (by rw [hz2]; omega))
      have hcap := grownCap_ge w (n + 1) c 35
      have hcap2 := grownCap_le_maxLen w (n + 1) c 35 (by unfold maxLen; omega)
      generalize grownCap w (n + 1) c 35 = cc at hrun hcap hcap2
      have hexec : (execOp ρ o).run Try.prog w = .ok (.value (.slice (some ⟨w.heap.size, 0, none⟩) (n + 1) cc)) (w.drew.alloc (.cells ((olds ++ es.toList).toArray ++ Builtin.zeroCells (Value.agg #[.bool false, .slice none 0 0, .slice none 0 0]).cells (cc - (n + 1))) 35)) := by
        unfold execOp; rw [h]; simp [resolve, invoke, builtin, ex, ey, hrun]
      unfold Yld
      rw [hexec]
      have hg : Grow w (w.drew.alloc (.cells ((olds ++ es.toList).toArray ++ Builtin.zeroCells (Value.agg #[.bool false, .slice none 0 0, .slice none 0 0]).cells (cc - (n + 1))) 35)) := ((Grow.refl w).drew).alloc _
      have hb' : Blk (w.drew.alloc (.cells ((olds ++ es.toList).toArray ++ Builtin.zeroCells (Value.agg #[.bool false, .slice none 0 0, .slice none 0 0]).cells (cc - (n + 1))) 35)) w.heap.size 35 _ := Blk.new w.drew 35 _
      refine K _ _ hg.app ⟨some ⟨w.heap.size, 0, none⟩, cc, rfl, hcap, hcap2, .inr ⟨w.heap.size, _, rfl, hB, fun hg => absurd (hF' _ hg).2 (Nat.lt_irrefl _), hb', ?_, fun i hi => ?_⟩⟩
      · have : (Builtin.zeroCells (Value.agg #[.bool false, .slice none 0 0, .slice none 0 0]).cells (cc - (n + 1))).size = (cc - (n + 1)) * 3 := by simp [Builtin.zeroCells, Value.cells]
        simp only [Array.size_append, List.size_toArray, List.length_append, hol, Array.length_toList, h30, this]
        omega
      · by_cases hin : i = n
        · subst hin
          refine ⟨.agg es, h30, by show (MR.rat (updQ q i r i)).R _ _; unfold updQ; rw [if_pos rfl]; exact MR.mono _ hg hR0, fun j v hj => ?_⟩
          have hj3 : j < 3 := h30 ▸ (Array.getElem?_eq_some_iff.1 hj).1
          rw [hb'.cell, Array.getElem?_append_left (by simp [hol, h30]; omega)]
          simp only [List.getElem?_toArray]
          rw [List.getElem?_append_right (by omega), hol, Nat.add_sub_cancel_left, Array.getElem?_toList]
          exact hj
        · obtain ⟨e, hs, hR, hc⟩ := hel i (by omega)
          refine ⟨e, hs, by show (MR.rat (updQ q n r i)).R _ _; unfold updQ; rw [if_neg hin]; exact MR.mono _ hg hR, fun j v hj => ?_⟩
          have hj3 : j < 3 := hs ▸ (Array.getElem?_eq_some_iff.1 hj).1
          rw [hb'.cell, Array.getElem?_append_left (by simp [hol, h30]; omega)]
          simp only [List.getElem?_toArray]
          rw [List.getElem?_append_left (by omega)]
          exact hc j v hj
    rcases h3 with ⟨rfl, rfl, rfl⟩ | ⟨g, cs, rfl, hBg, hFg, hb, hcs, he⟩
    · exact core [] (by simp) (run_firstCells_none w.drew _ _ _ _) (fun i hi => by omega)
    · refine core cs.toList (by rw [Array.length_toList, hcs]; omega) (run_firstCells_some w.drew _ _ _ _ _ _ (by rw [Array.length_toList, hcs, hz1]; omega) (fun j v hj => by
        rw [Array.getElem?_toList] at hj
        rw [add_plain, Nat.zero_add]
        exact (hb.cell _).trans hj)) (fun i hi => ?_)
      obtain ⟨e, hs, hR, hc⟩ := he i hi
      refine ⟨e, hs, hR, fun j v hj => ?_⟩
      rw [Array.getElem?_toList, ← hb.cell]
      exact hc j v hj
end
theorem Put.extB {F : Nat → Prop} {w w' : World} {b : Nat} {T : TypeId} {R : MR} (p : Put w w' b) (hB : Box w b T R) (hT : T ≠ 105) (hF : F b) : ExtF F w w' := by
  obtain ⟨cs, hb⟩ := hB.typ
  exact p.extF hb hT hF
theorem App.extF {B : Nat} {F F' : Nat → Prop} {w w' : World} (h : App B F' w w') (hF : ∀ k, k < w.heap.size → ¬ F k → k < B ∨ F' k) : ExtF F w w' :=
  ⟨h.size, h.u64, fun k hk hn => (hF k hk hn).elim (fun e => h.low k e hk) (fun e => h.box k e hk)⟩
theorem StF.part {F : Nat → Prop} {B : Nat} {b : Bool} {f g : Nat → Nat} {n m : Nat} (hF : ∀ k, F k → B ≤ k) : StF F (.part B b f n g m) := by
  intro w w' v e ⟨A, c, A', c', ev, k1, k2⟩
  have key : ∀ {A c n f}, (MR.inw B f n).R w (.slice A n c) → (MR.inw B f n).R w' (.slice A n c) := fun {A c n f} ⟨A0, c0, e0, k, r⟩ => ⟨A0, c0, e0, fun i hi => by
    obtain ⟨g, o, ea, hf, hl, hc⟩ := k i hi
    have hg : ¬ F g := fun h => hf (hF g h)
    exact ⟨g, o, ea, hf, Nat.lt_of_lt_of_le hl e.1, (World.cell?_of_block (w := w) (e.2.2 g hl hg)).trans hc⟩, r⟩
  exact ⟨A, c, A', c', ev, key k1, key k2⟩
/-- the sum of the first n -/
def sumQ (q : Nat → Rat) : Nat → Rat
  | 0 => 0
  | n + 1 => sumQ q n + q n
theorem updQ_self (q : Nat → Rat) (n : Nat) : updQ q n (q n) = q := funext fun i => by unfold updQ; split <;> simp_all
theorem vec_nil {F : Nat → Prop} {q : Nat → Rat} {w : World} : (MR.vec F q 0).R w (.slice none 0 0) := ⟨none, 0, rfl, fun _ => ⟨rfl, rfl⟩, Nat.le_refl _, Nat.zero_le _, fun i hi => by omega⟩
theorem sum_sz {q : Nat → Rat} {M : Nat} : ∀ n, (∀ i, i < n → szq (q i) ≤ M) → szq (sumQ q n) + 2 * (M + 1) ≤ 2 ^ (n + 2) * (M + 1)
  | 0, _ => by
    have : szq (sumQ q 0) ≤ 1 := show szq 0 ≤ 1 by decide
    omega
  | n + 1, h => by
    have ih := sum_sz n fun i hi => h i (by omega)
    have h1 := sb_add (Nat.le_refl (szq (sumQ q n))) (h n (by omega))
    have e : 2 ^ (n + 1 + 2) * (M + 1) = 2 * (2 ^ (n + 2) * (M + 1)) := by rw [show n + 1 + 2 = (n + 2) + 1 from by omega, Nat.pow_succ]; rw [Nat.mul_comm (2 ^ (n + 2)) 2, Nat.mul_assoc]
    show szq (sumQ q n + q n) + _ ≤ _
    rw [e]
    omega
end Go.Proofs.Ytngghjhmfpmilaa
