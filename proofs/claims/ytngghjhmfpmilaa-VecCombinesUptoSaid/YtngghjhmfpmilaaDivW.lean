/- quot: rows of words that a function writes itself; package word's functions as relations. -/
import Derived.Test.YtngghjhmfpmilaaDivP
import Derived.Test.YtngghjhmfpmilaaRow64
namespace Go.Proofs.Ytngghjhmfpmilaa
open Go.RowKit
/-- memory has grown; all that was there is as it was, but for block g -/
structure Mod (g : Nat) (w w' : World) : Prop where
  os : w'.os = w.os
  tape : w'.tape = w.tape
  output : w'.output = w.output
  size : w.heap.size ≤ w'.heap.size
  block : ∀ k, k < w.heap.size → k ≠ g → w'.heap[k]? = w.heap[k]?
section
variable {g : Nat} {a b c w w' : World} {F : Nat → Prop} {x : Nat} {v : Value}
theorem Mod.refl (g : Nat) (w : World) : Mod g w w := ⟨rfl, rfl, rfl, Nat.le_refl _, fun _ _ _ => rfl⟩
theorem Mod.step (h : Mod g a b) (k : Mod g b c) : Mod g a c :=
  ⟨k.os.trans h.os, k.tape.trans h.tape, k.output.trans h.output, Nat.le_trans h.size k.size, fun i hi hg => (k.block i (Nat.lt_of_lt_of_le hi h.size) hg).trans (h.block i hi hg)⟩
theorem Grow.toMod (g : Nat) (h : Grow a b) : Mod g a b := ⟨h.os, h.tape, h.output, h.size, fun k hk _ => h.block k hk⟩
theorem Mod.trans (h : Mod g a b) (k : Grow b c) : Mod g a c := h.step (k.toMod g)
theorem Put.toMod (p : Put a b g) : Mod g a b := ⟨p.os, p.tape, p.output, by rw [p.size]; exact Nat.le_refl _, fun k _ hk => p.other k hk⟩
theorem Grow.mod (h : Grow w a) (m : Mod g a b) (hg : w.heap.size ≤ g) : Grow w b :=
  Below.trans h ⟨m.os, m.tape, m.output, m.size, fun i hi => m.block i (Nat.lt_of_lt_of_le hi h.size) (by omega)⟩
def MR.natF (F : Nat → Prop) (x : Nat) : MR := ⟨fun w v => NatAt F w v x, fun h k => NatAt.keep k (Keeps.of_below h)⟩
theorem natF_mod (h : (MR.natF F x).R w v) (m : Mod g w w') (hF : F g) : (MR.natF F x).R w' v :=
  NatAt.keep h ⟨m.size, fun k hk hf => m.block k hk fun e => hf (e ▸ hF)⟩
theorem Box.mod {k : Nat} {T : TypeId} (h : Box w k T (.natF F x)) (m : Mod g w w') (hF : F g) (hne : k ≠ g) : Box w' k T (.natF F x) := by
  obtain ⟨v, hb, h⟩ := h
  exact ⟨v, (m.block k hb.lt hne).trans hb, natF_mod h m hF⟩
theorem Box.natF {k : Nat} {T : TypeId} (h : Box w k T (.nat x)) (hF : ∀ k, F k → w.heap.size ≤ k) : Box w k T (.natF F x) := by
  obtain ⟨v, hb, h⟩ := h
  exact ⟨v, hb, NatAt.own h fun k hk => .inr (hF k hk)⟩
theorem Blk.mod {k : Nat} {t : TypeId} {cs : Array Value} (h : Blk w k t cs) (m : Mod g w w') (hne : k ≠ g) : Blk w' k t cs := (m.block k h.lt hne).trans h
theorem shNatF {F : Nat → Prop} {x : Nat} : Shape (.natF F x) 1 := fun {w v} h => by
  obtain ⟨A, c, rfl, _⟩ : NatAt _ w v x := h
  exact ⟨_, rfl, rfl, by simp [Value.oneCell']⟩
theorem St.natF {B : Nat} {F : Nat → Prop} {x : Nat} : St B (.natF F x) := fun {w w' v} e h => by
  obtain ⟨A, c, rfl, h1, h2, hs, h3⟩ : NatAt _ w v x := h
  refine ⟨A, c, rfl, h1, h2, hs, fun i hi => ?_⟩
  obtain ⟨g, o, e', ⟨hf, hu⟩, hl, hc⟩ := h3 i hi
  exact ⟨g, o, e', ⟨hf, hu.ext e⟩, Nat.lt_of_lt_of_le hl e.1, (World.cell?_of_block (w := w) (e.2.1 g hu)).trans hc⟩
theorem cLenF (ha : (MR.natF F x).R w v) : Calls Try.prog 83 #[v] w (Ret (.eq (.int .i64 ((nw x : Nat) : Int))) w) :=
  (nLen F v x w ha).mono fun _ _ ⟨e, h2⟩ => ⟨_, e, h2, rfl⟩
theorem cWordF {k : Nat} (ha : (MR.natF F x).R w v) : Calls Try.prog 92 #[v, .int .i64 ((k : Nat) : Int)] w (Ret (.eq (.int .u64 ((wd x k : Nat) : Int))) w) :=
  (nWord F v x k (by omega) w ha).mono fun _ _ ⟨e, h2⟩ => ⟨_, e, h2, by simp; rfl⟩
end
/-- it returns what is in Φ, with the row g as it is then -/
def RetB (g L : Nat) (Φ : Value → (Nat → Nat) → Prop) (w : World) (e : Ending) (w' : World) : Prop := ∃ v f, e = .returned v ∧ Mod g w w' ∧ Blk w' g 105 (wa f L) ∧ Φ v f
section
variable {P : Program} {fn : Func} {w0 w : World} {a : Act} {s g L : Nat} {f : Nat → Nat} {Φ : Value → (Nat → Nat) → Prop}
theorem body_slotB (hr : fn.results = #[.tmp s]) (hW : Mod g w0 w) (hB : Blk w g 105 (wa f L)) (hΦ : Φ (a.tmps.getD s undef) f) (hd : a.defers = []) : bodyPost P fn (RetB g L Φ w0) .ret a w := by
  refine bodyPost_ret (v := a.tmps.getD s undef) ?_ hd ⟨_, f, rfl, hW, hB, hΦ⟩
  unfold results
  rw [hr]
  simp
theorem body_noneB (hr : fn.results = #[]) (hW : Mod g w0 w) (hB : Blk w g 105 (wa f L)) (hΦ : ∀ v, Φ v f) (hd : a.defers = []) : bodyPost P fn (RetB g L Φ w0) .ret a w := by
  refine bodyPost_ret (v := .tuple #[]) ?_ hd ⟨_, f, rfl, hW, hB, hΦ _⟩
  unfold results
  rw [hr]
  simp
end
section
variable {o : Oper} {ρ : Operand → Value} {w : World} {x y : Operand} {f : Nat → Nat} {g oo n c i k L : Nat} {z : Int}
theorem yld_indexE (h : o.op = .indexAddr 29 x y) (hx : ρ x = .slice (some ⟨g, oo, none⟩) n c) (hy : ρ y = .int .i64 z) (hz : z = ((k : Nat) : Int)) (hk : k < n) {j : Nat} (hj : oo + k = j) : Yld Try.prog o ρ w (fun v w' => Grow w w' ∧ (MR.eq (.pointer (some ⟨g, j, none⟩))).R w' v) := by
  subst hj
  obtain ⟨i0, hi0, _, hz1, _⟩ := infoParts u64Info
  have hrun : (execOp ρ o).run Try.prog w = .ok (.value (.pointer (some ⟨g, oo + k, none⟩))) w := by
    unfold execOp
    rw [h]
    have h1 : (0 : Int) ≤ (k : Int) ∧ (k : Int) < (n : Int) := by omega
    simp [Instr.indexAt, hx, hy, hz, asIntOf, run_underlying Try.underlying29, sizeOf, typeInfo, hi0, hz1, hk, add_plain]
  exact yld_val hrun ⟨Grow.refl _, rfl⟩
theorem agg64 : (isAgg 105).run Try.prog w = .ok false w := by
  unfold isAgg
  rw [Sem.run_bind, run_underlying Try.underlying105 w]
  rfl
theorem yld_loadE (h : o.op = .load 105 x) (hx : ρ x = .pointer (some ⟨g, i, none⟩)) (hB : Blk w g 105 (wa f L)) (hi : i < L) : Yld Try.prog o ρ w (fun v w' => Grow w w' ∧ (MR.eq (.int .u64 ((f i : Nat) : Int))).R w' v) := by
  have hc : w.cell? ⟨g, i, none⟩ = some (.int .u64 (f i : Nat)) := by rw [hB.cell, wa_at f L i hi]
  exact yld_load (v := .int .u64 ((f i : Nat) : Int)) h (by rw [hx]; simp [Instr.loadAt, Instr.sureAddr, loadVar, Sem.run_bind, hc]) ⟨Grow.refl _, rfl⟩
theorem yld_storeE {v : Nat} {Φ : Value → World → Prop} (h : o.op = .store 105 x y) (hx : ρ x = .pointer (some ⟨g, i, none⟩)) (hy : ρ y = .int .u64 ((v : Nat) : Int)) (hB : Blk w g 105 (wa f L)) (hi : i < L)
    (K : ∀ w', Put w w' g → Blk w' g 105 (wa (upd f i v) L) → Φ undef w') : Yld Try.prog o ρ w Φ := by
  have hc : w.cell? ⟨g, i, none⟩ = some (.int .u64 (f i : Nat)) := by rw [hB.cell, wa_at f L i hi]
  have hf := hB.frozen i
  refine yld_store (w' := w.setCell ⟨g, i, none⟩ (.int .u64 (v : Nat))) h ?_ (K _ ?_ ?_)
  · rw [hx, hy]; simp [Instr.storeAt, Instr.sureAddr, storeVar, Sem.run_bind, Value.cells, storeCells, add_plain]; rw [run_store (hv := rfl)]; simp [hc, hf]
  · exact ⟨by simp [World.setCell], fun k hk => Below.heap_setCell w _ _ k hk, rfl, rfl, rfl⟩
  · rw [← wa_upd]; exact hB.set_ i _
theorem yld_sliceE {p q : Int} {l r : Nat} {x2 y2 : Operand} (h : o.op = .slice 29 x (some x2) (some y2) none) (hx : ρ x = .slice (some ⟨g, oo, none⟩) n c) (hp : ρ x2 = .int .i64 p) (hq : ρ y2 = .int .i64 q) (ep : p = ((l : Nat) : Int)) (eq : q = ((r : Nat) : Int)) (hl : l < r) (hr : r ≤ c) {j m : Nat} (hj : oo + l = j) (hm : r - l = m) :
    Yld Try.prog o ρ w (fun v w' => Grow w w' ∧ (MR.eq (.slice (some ⟨g, j, none⟩) m (c - l))).R w' v) := by
  subst hj hm ep eq
  obtain ⟨i0, hi0, _, hz1, _⟩ := infoParts u64Info
  have hcl : ¬ c = l := by omega
  have hE : Try.prog.underlying 29 = some (.slice (Try.prog.elem 29)) := by kernel_rfl
  have hs : (sizeOf (Try.prog.elem 29)).run Try.prog w = .ok 1 w := by
    rw [show Try.prog.elem 29 = 105 by kernel_rfl]
    simp [sizeOf, typeInfo, hi0, hz1]
  have hrun : (execOp ρ o).run Try.prog w = .ok (.value (.slice (some ⟨g, oo + l, none⟩) (r - l) (c - l))) w := by
    unfold execOp
    rw [h]
    simp only [hx, hp, hq, Option.map_some, Option.map_none, Sem.run_bind, run_sliceAt_slice w _ _ _ _ _ hE]
    rw [run_slice_lh w _ _ _ _ hE _ _ _ _ (by omega) (by omega) (by omega), hs]
    simp [sliced, hcl, add_plain]
  exact yld_val hrun ⟨Grow.refl _, rfl⟩
end
section
variable {w : World} {x y z : Nat}
theorem cWAdd (hx : x < 18446744073709551616) (hy : y < 18446744073709551616) (hz : z ≤ 1) : Calls Try.prog 91 #[.int .u64 ((x : Nat) : Int), .int .u64 ((y : Nat) : Int), .int .u64 ((z : Nat) : Int)] w (Ret (.tup2 (.eq (.int .u64 (((x + y + z) % 18446744073709551616 : Nat) : Int))) (.eq (.int .u64 (((x + y + z) / 18446744073709551616 : Nat) : Int)))) w) :=
  (wAdd x y z ⟨by omega, by omega⟩ ⟨by omega, by omega⟩ (by omega) (by omega) w).mono fun e w' ⟨s, d, he, ⟨⟨h1, h2⟩, h3, h4, h5⟩, hw⟩ => by
    subst hw
    exact ⟨_, he, Grow.refl _, _, _, rfl, by show Value.int _ _ = _; congr 1; omega, by show Value.int _ _ = _; congr 1; omega⟩
/-- x less y and z: the word, and what is lacking -/
def sbW (x y z : Nat) : Nat := (x + 36893488147419103232 - y - z) % 18446744073709551616
def sbB (x y z : Nat) : Nat := if x < y + z then 1 else 0
theorem cWSub (hx : x < 18446744073709551616) (hy : y < 18446744073709551616) (hz : z ≤ 1) : Calls Try.prog 94 #[.int .u64 ((x : Nat) : Int), .int .u64 ((y : Nat) : Int), .int .u64 ((z : Nat) : Int)] w (Ret (.tup2 (.eq (.int .u64 ((sbW x y z : Nat) : Int))) (.eq (.int .u64 ((sbB x y z : Nat) : Int)))) w) :=
  (wSub x y z ⟨by omega, by omega⟩ ⟨by omega, by omega⟩ (by omega) (by omega) w).mono fun e w' ⟨s, d, he, ⟨⟨h1, h2⟩, h3, h4, h5⟩, hw⟩ => by
    subst hw
    exact ⟨_, he, Grow.refl _, _, _, rfl, by show Value.int _ _ = _; congr 1; unfold sbW; omega, by show Value.int _ _ = _; congr 1; unfold sbB; split <;> omega⟩
theorem sb_eq (hx : x < 18446744073709551616) (hy : y < 18446744073709551616) (hz : z ≤ 1) : sbW x y z < 18446744073709551616 ∧ sbB x y z ≤ 1 ∧ sbW x y z + y + z = x + 18446744073709551616 * sbB x y z := by
  unfold sbW sbB; split <;> omega
theorem mulRel_eq {x y a b : Nat} {hi lo : Int} (h : MulRel x y a b hi lo) : hi = (((x * y + a + b) / 18446744073709551616 : Nat) : Int) ∧ lo = (((x * y + a + b) % 18446744073709551616 : Nat) : Int) := by
  obtain ⟨hi', lo', rfl, rfl, h1, h2, h3⟩ := mulRel_nat h
  constructor <;> (congr 1; omega)
theorem cWMul (hx : x < 18446744073709551616) (hy : y < 18446744073709551616) : Calls Try.prog 106 #[.int .u64 ((x : Nat) : Int), .int .u64 ((y : Nat) : Int)] w (Ret (.tup2 (.eq (.int .u64 (((x * y) / 18446744073709551616 : Nat) : Int))) (.eq (.int .u64 (((x * y) % 18446744073709551616 : Nat) : Int)))) w) :=
  (wMul x y ⟨by omega, by omega⟩ ⟨by omega, by omega⟩ w).mono fun e w' ⟨s, d, he, hr, hw⟩ => by
    subst hw
    obtain ⟨e1, e2⟩ := mulRel_eq (a := 0) (b := 0) hr
    exact ⟨_, he, Grow.refl _, _, _, rfl, by show Value.int _ _ = _; rw [e1]; rfl, by show Value.int _ _ = _; rw [e2]; rfl⟩
theorem cWMulAdd {a b : Nat} (hx : x < 18446744073709551616) (hy : y < 18446744073709551616) (ha : a < 18446744073709551616) (hb : b < 18446744073709551616) : Calls Try.prog 98 #[.int .u64 ((x : Nat) : Int), .int .u64 ((y : Nat) : Int), .int .u64 ((a : Nat) : Int), .int .u64 ((b : Nat) : Int)] w (Ret (.tup2 (.eq (.int .u64 (((x * y + a + b) / 18446744073709551616 : Nat) : Int))) (.eq (.int .u64 (((x * y + a + b) % 18446744073709551616 : Nat) : Int)))) w) :=
  (wMulAdd x y a b ⟨by omega, by omega⟩ ⟨by omega, by omega⟩ ⟨by omega, by omega⟩ ⟨by omega, by omega⟩ w).mono fun e w' ⟨s, d, he, hr, hw⟩ => by
    subst hw
    obtain ⟨e1, e2⟩ := mulRel_eq hr
    exact ⟨_, he, Grow.refl _, _, _, rfl, by show Value.int _ _ = _; rw [e1], by show Value.int _ _ = _; rw [e2]⟩
theorem drawn_grow {a b : World} (h : Drawn a b) : Grow a b := by
  obtain ⟨n, rfl⟩ := h
  exact below_drewN (Below.refl _ _) n
theorem cWDiv_yes (h : x < z) (hy : y < 18446744073709551616) (hz : z < 18446744073709551616) : Calls Try.prog 114 #[.int .u64 ((x : Nat) : Int), .int .u64 ((y : Nat) : Int), .int .u64 ((z : Nat) : Int)] w (Ret (.tup3 (.eq (.int .u64 ((divQ x y z : Nat) : Int))) (.eq (.int .u64 ((divR x y z : Nat) : Int))) (.eq (.bool true))) w) :=
  (wDiv_yes x y z h hy hz w).mono fun _ _ ⟨he, hw⟩ => ⟨_, he, drawn_grow hw, _, _, _, rfl, rfl, rfl, rfl⟩
theorem cWDiv_no (h : z ≤ x) : Calls Try.prog 114 #[.int .u64 ((x : Nat) : Int), .int .u64 ((y : Nat) : Int), .int .u64 ((z : Nat) : Int)] w (Ret (.tup3 (.eq (.int .u64 ((0 : Nat) : Int))) (.eq (.int .u64 ((0 : Nat) : Int))) (.eq (.bool false))) w) :=
  (wDiv_no x y z (by omega) w).mono fun e w' ⟨he, hw⟩ => by
    subst hw
    exact ⟨_, he, Grow.refl _, _, _, _, rfl, rfl, rfl, rfl⟩
end
end Go.Proofs.Ytngghjhmfpmilaa
