/- Rows of fractions that are one's own: made, copied, stored to; slices of whole numbers. -/
import Derived.Test.YtngghjhmfpmilaaVec
namespace Go.Proofs.Ytngghjhmfpmilaa
open Go.RowKit
/-- the pointer to element k (of 3 cells) of a slice -/
def elemPtr : Value → Nat → Value
  | .slice (some ⟨g, o, none⟩) _ _, k => .pointer (some ⟨g, o + 3 * k, none⟩)
  | _, _ => undef
section
variable {o : Oper} {ρ : Operand → Value} {w w' : World} {x y : Operand} {B : Nat} {F F' : Nat → Prop} {n k : Nat} {q : Nat → Rat} {r : Rat} {T : TypeId} {z : Int} {v : Value}
theorem yld_lenO {e : TypeId} (hT : Try.prog.underlying T = some (.slice e)) (h : o.op = .call { callee := .builtin .len, args := #[x], argTypes := #[T] }) (hv : ρ x = v) (hx : (MR.ownv B F q n).R w v) : Yld Try.prog o ρ w (fun v w' => Grow w w' ∧ (MR.eq (.int .i64 ((n : Nat) : Int))).R w' v) := by
  obtain ⟨A, c, ev, _⟩ := hx
  exact yld_len hT h (hv.trans ev) ⟨Grow.refl _, rfl⟩
theorem yld_indexO (hT : Try.prog.underlying T = some (.slice 35)) (h : o.op = .indexAddr T x y) (hv : ρ x = v) (hx : (MR.ownv B F q n).R w v) (hy : ρ y = .int .i64 z) (hz : z = ((k : Nat) : Int)) (hk : k < n) :
    Yld Try.prog o ρ w (fun u w' => Grow w w' ∧ (MR.eq (elemPtr v k)).R w' u) := by
  obtain ⟨A, c, ev, h1, h2, h3⟩ := hx
  rcases h3 with ⟨_, rfl, _⟩ | ⟨g, cs, rfl, hB, hF, hb, hs, he⟩
  · omega
  subst ev
  obtain ⟨i0, hi0, _, hz1, _⟩ := infoParts ratInfo
  have hrun : (execOp ρ o).run Try.prog w = .ok (.value (.pointer (some ⟨g, 0 + 3 * k, none⟩))) w := by
    unfold execOp
    rw [h]
    have h1 : (0 : Int) ≤ (k : Int) ∧ (k : Int) < (n : Int) := by omega
    simp [Instr.indexAt, hv, hy, hz, asIntOf, run_underlying hT, sizeOf, typeInfo, hi0, hz1, hk, add_plain, Nat.mul_comm k 3]
  exact yld_val hrun ⟨Grow.refl _, rfl⟩
theorem yld_loadO (h : o.op = .load 35 x) (hv : ρ x = elemPtr v k) (hx : (MR.ownv B F q n).R w v) (hk : k < n) : Yld Try.prog o ρ w (fun v w' => Grow w w' ∧ (MR.rat (q k)).R w' v) := by
  obtain ⟨A, c, rfl, h1, h2, h3⟩ := hx
  rcases h3 with ⟨_, rfl, _⟩ | ⟨g, cs, rfl, hB, hF, hb, hs, he⟩
  · omega
  obtain ⟨e, hs2, hR, hc⟩ := he k hk
  obtain ⟨es, rfl, hes, _⟩ := shRat _ hR
  refine yld_load h (v := .agg es) ?_ ⟨Grow.refl _, hR⟩
  rw [hv]
  show (Instr.loadAt _ (.pointer (some ⟨g, 0 + 3 * k, none⟩))).run _ _ = _
  rw [Nat.zero_add]
  have := run_loadAt_mid (P := Try.prog) w g (3 * k) 35 es.toList _ (fun j v hj => hc j v (by rw [Array.getElem?_toList] at hj; exact hj)) Try.underlying35 rfl (by rw [Array.length_toList, hes]; kernel_rfl)
  simpa using this
theorem yld_storeO {Φ : Value → World → Prop} (h : o.op = .store 35 x y) (hv : ρ x = elemPtr v k) (hx : (MR.ownv B F q n).R w v) (hk : k < n) (hy : (MR.rat r).R w (ρ y)) (hF' : ∀ k, F' k → F k)
    (K : ∀ w', App B F' w w' → (MR.ownv B F' (updQ q k r) n).R w' v → Φ undef w') : Yld Try.prog o ρ w Φ := by
  obtain ⟨A, c, rfl, h1, h2, h3⟩ := hx
  rcases h3 with ⟨_, rfl, _⟩ | ⟨g, cs, rfl, hB, hF, hb, hcs, he⟩
  · omega
  obtain ⟨es, ey, h30, hone⟩ := shRat r hy
  rw [ey] at hy
  obtain ⟨a0, a1, a2, rfl⟩ : ∃ a b c, es = #[a, b, c] := by
    match es, h30 with
    | ⟨[a, b, c]⟩, _ => exact ⟨a, b, c, rfl⟩
  have hthere : w.there g (3 * k) 3 := fun j hj => ⟨by rw [hb.cell, Array.getElem?_eq_getElem (show 3 * k + j < cs.size by omega)]; rfl, hb.frozen _⟩
  have hrun : (Instr.storeAt 35 (.pointer (some ⟨g, 3 * k, none⟩)) (.agg #[a0, a1, a2])).run Try.prog w = .ok () (w.setCells g (3 * k) [a0, a1, a2]) :=
    run_storeAt_mid (P := Try.prog) w g (3 * k) 35 #[a0, a1, a2] hthere (by kernel_rfl) hone
  have hb' : Blk (w.setCells g (3 * k) [a0, a1, a2]) g 35 _ := ((hb.set_ (3 * k) a0).set_ (3 * k + 1) a1).set_ (3 * k + 1 + 1) a2
  have happ : App B F' w (w.setCells g (3 * k) [a0, a1, a2]) := by
    have hoth : ∀ i, i < w.heap.size → i ≠ g → (w.setCells g (3 * k) [a0, a1, a2]).heap[i]? = w.heap[i]? := fun i hi hne => World.heap_setCells_other w g _ _ hi hne
    refine ⟨rfl, rfl, rfl, by simp [World.setCells, World.setCell], fun i hi hl => hoth i hl (by omega), fun i hi hl => hoth i hl (fun e => hF (e ▸ hF' i hi)), fun i hi => hoth i hi.lt (fun e => ?_)⟩
    subst e
    obtain ⟨cs2, m2, hi⟩ := hi
    unfold Blk at hb
    rw [hb] at hi
    simp only [Option.some.injEq, Obj.cells.injEq] at hi
    exact absurd hi.2.1 (by decide)
  refine yld_store h (w' := w.setCells g (3 * k) [a0, a1, a2]) (by rw [hv, ey]; show (Instr.storeAt _ (.pointer (some ⟨g, 0 + 3 * k, none⟩)) _).run _ _ = _; rw [Nat.zero_add]; exact hrun) (K _ happ ⟨some ⟨g, 0, none⟩, c, rfl, h1, h2, .inr ⟨g, _, rfl, hB, fun hg => hF (hF' g hg), hb', by simp [hcs], fun i hi => ?_⟩⟩)
  by_cases hin : i = k
  · subst hin
    refine ⟨.agg #[a0, a1, a2], rfl, by show (MR.rat (updQ q i r i)).R _ _; unfold updQ; rw [if_pos rfl]; exact St.rat r happ.ext hy, fun j v hj => ?_⟩
    have hj3 : j < 3 := (Array.getElem?_eq_some_iff.1 hj).1
    have := World.cell?_setCells_in g [a0, a1, a2] (3 * i) w (fun j hj => by
      simp only [List.length_cons, List.length_nil] at hj
      rw [hb.cell, Array.getElem?_eq_getElem (show 3 * i + j < cs.size by omega)]
      rfl) j hj3
    rw [this, ← hj]
    have : j = 0 ∨ j = 1 ∨ j = 2 := by omega
    rcases this with rfl | rfl | rfl <;> rfl
  · obtain ⟨e, hs, hR, hc⟩ := he i (by omega)
    refine ⟨e, hs, by show (MR.rat (updQ q k r i)).R _ _; unfold updQ; rw [if_neg hin]; exact St.rat _ happ.ext hR, fun j v hj => ?_⟩
    have hj3 : j < 3 := hs ▸ (Array.getElem?_eq_some_iff.1 hj).1
    rw [World.cell?_setCells_out g _ _ _ _ (fun _ _ => by show 3 * i + j < 3 * k ∨ 3 * k + 3 ≤ 3 * i + j; omega)]
    exact hc j v hj
end
section
variable {o : Oper} {ρ : Operand → Value} {w w' : World} {x y : Operand} {B B' : Nat} {F F' : Nat → Prop} {n k : Nat} {q q' : Nat → Rat} {r : Rat} {T : TypeId} {z : Int} {v : Value}
theorem vec0 (h : (MR.vec F q n).R w v) : (MR.vec (fun _ => False) q n).R w v := sl_own h fun _ h => h.elim
theorem ownv_cast (h : (MR.ownv B F q n).R w v) (hB : B' ≤ B) (hF : ∀ k, F' k → F k) (hq : ∀ i, i < n → q i = q' i) : (MR.ownv B' F' q' n).R w v := by
  obtain ⟨A, c, rfl, h1, h2, h3⟩ := h
  refine ⟨A, c, rfl, h1, h2, h3.imp id fun ⟨g, cs, ea, hBg, hFg, hb, hs, he⟩ => ⟨g, cs, ea, by omega, fun hg => hFg (hF g hg), hb, hs, fun i hi => ?_⟩⟩
  have := he i hi
  rw [hq i hi] at this
  exact this
theorem ownv_n {m : Nat} (e : n = m) (h : (MR.ownv B F q n).R w v) : (MR.ownv B F q m).R w v := e ▸ h
theorem vec_cast (h : (MR.vec F q n).R w v) (hq : ∀ i, i < n → q i = q' i) : (MR.vec F q' n).R w v := by
  obtain ⟨A, c, rfl, h1, h2, h3, h4⟩ := h
  refine ⟨A, c, rfl, h1, h2, h3, fun i hi => ?_⟩
  obtain ⟨g, o, ea, hf, hl, he⟩ := h4 i hi
  have he : Elt w g (o + 3 * i) 3 (.rat (q i)) := he
  rw [hq i hi] at he
  exact ⟨g, o, ea, hf, hl, he⟩
theorem zero_cells (m : Nat) {j : Nat} (hj : j < m) : (madeCells (Value.agg #[.bool false, .slice none 0 0, .slice none 0 0]).cells m)[j]? = (#[Value.bool false, .slice none 0 0, .slice none 0 0] : Array Value)[j % 3]? := by
  have h3 : j % 3 < 3 := Nat.mod_lt _ (by decide)
  simp only [madeCells, Value.cells, Array.getElem?_map, Array.getElem?_range, hj, if_true, Option.map_some]
  have : (#[Value.bool false, .slice none 0 0, .slice none 0 0] : Array Value).size = 3 := rfl
  rw [this, Array.getElem?_eq_getElem (by rw [this]; exact h3), getElem!_pos _ _ (by rw [this]; exact h3)]
theorem yld_makeV (hT : Try.prog.underlying T = some (.slice 35)) (h : o.op = .makeSlice T x y) (hx : ρ x = .int .i64 ((n : Nat) : Int)) (hy : ρ y = .int .i64 ((n : Nat) : Int)) (hn : n ≤ 68719476736) (hB : B ≤ w.heap.size) (hF : ∀ k, F k → k < w.heap.size) :
    Yld Try.prog o ρ w (fun v w' => Grow w w' ∧ (MR.ownv B F (fun _ => 0) n).R w' v) := by
  obtain ⟨i0, hi0, hz0, hz1, hz2⟩ := infoParts ratInfo
  have hrun := run_make (P := Try.prog) w T 35 i0 _ hT hi0 hz0 .i64 .i64 (n : Int) (n : Int) (by omega) (Int.le_refl _) (by rw [hz2]; omega) (by omega)
  rw [Int.toNat_natCast, hz1] at hrun
  unfold Yld execOp
  rw [h]
  simp only [hx, hy, Sem.run_bind, hrun, Result.andThen_ok]
  have hb := Blk.new w 35 (madeCells (Value.agg #[.bool false, .slice none 0 0, .slice none 0 0]).cells (n * 3))
  refine ⟨(Grow.refl w).alloc _, some ⟨w.heap.size, 0, none⟩, n, rfl, Nat.le_refl _, by unfold maxLen; omega, .inr ⟨w.heap.size, _, rfl, hB, fun hg => absurd (hF _ hg) (Nat.lt_irrefl _), hb, by rw [size_madeCells]; omega, fun i hi => ?_⟩⟩
  refine ⟨.agg #[.bool false, .slice none 0 0, .slice none 0 0], rfl, zRat _, fun j v hj => ?_⟩
  have hj3 : j < 3 := (Array.getElem?_eq_some_iff.1 hj).1
  rw [hb.cell, zero_cells _ (by omega), show (3 * i + j) % 3 = j by omega]
  exact hj
/-- a row, copied -/
theorem yld_copyV (hT : Try.prog.underlying T = some (.slice 35)) (h : o.op = .call { callee := .builtin .append, args := #[x, y], argTypes := #[T, T] }) (hx : ρ x = .slice none 0 0) (hy : (MR.vec F' q n).R w (ρ y)) (hn : n ≤ 68719476736) (hB : B ≤ w.heap.size) (hF : ∀ k, F k → k < w.heap.size) :
    Yld Try.prog o ρ w (fun v w' => Grow w w' ∧ (MR.ownv B F q n).R w' v) := by
  obtain ⟨A, c, ey, hnil, h1, h2, hel⟩ := hy
  obtain ⟨i0, hi0, hz0, hz1, hz2⟩ := infoParts ratInfo
  rcases Nat.eq_zero_or_pos n with rfl | hpos
  · have hrun : (Builtin.append_ #[T, T] o.type #[.slice none 0 0, .slice A 0 c]).run Try.prog w = .ok (.slice none 0 0) w := by
      cases A <;> simp [Builtin.append_, run_underlying hT, sizeOf, typeInfo, hi0, Builtin.lenOf, Builtin.firstCells, loadCells, loadCellsFrom]
    exact yld_val (v := .slice none 0 0) (by unfold execOp; rw [h]; simp [resolve, invoke, builtin, hx, ey, hrun]) ⟨Grow.refl _, ownv_nil⟩
  · obtain ⟨g, oo, rfl, _, _, _⟩ := hel 0 hpos
    have hel : ∀ i, i < n → ∃ es : Array Value, es.size = 3 ∧ (MR.rat (q i)).R w (.agg es) ∧ (∀ u ∈ es, u.oneCell' = true) ∧ ∀ j, j < 3 → w.cell? ⟨g, oo + (3 * i + j), none⟩ = es[j]? := fun i hi => by
      obtain ⟨g', o', e, _, _, ev, hs, hR, hc⟩ := hel i hi
      simp only [Option.some.injEq, Addr.mk.injEq, and_true] at e
      obtain ⟨rfl, rfl⟩ := e
      obtain ⟨es, rfl, hes, hone⟩ := shRat _ hR
      refine ⟨es, hes, hR, fun u hu => Array.all_eq_true_iff_forall_mem.1 hone u hu, fun j hj => ?_⟩
      have hj' : es[j]? = some es[j] := Array.getElem?_eq_getElem (by omega)
      rw [hj', ← Nat.add_assoc]
      exact hc j _ hj'
    obtain ⟨news, hnl, hnw⟩ : ∃ news : List Value, news.length = 3 * n ∧ ∀ j, j < 3 * n → w.cell? ⟨g, oo + j, none⟩ = news[j]? := by
      refine ⟨(List.range (3 * n)).map fun j => (w.cell? ⟨g, oo + j, none⟩).getD undef, by simp, fun j hj => ?_⟩
      obtain ⟨es, hes, _, _, hc⟩ := hel (j / 3) (by omega)
      have := hc (j % 3) (Nat.mod_lt _ (by decide))
      rw [show 3 * (j / 3) + j % 3 = j by omega, Array.getElem?_eq_getElem (show j % 3 < es.size by omega)] at this
      simp [hj, this]
    have hsrc : Src Try.prog i0.size T (.slice (some ⟨g, oo, none⟩) n c) n news w := Src.ofSlice w hT ⟨g, oo, none⟩ n c news (by rw [hnl, hz1]; omega) (fun j u hj => by
      rw [add_plain, hnw j (by rw [← hnl]; exact (List.getElem?_eq_some_iff.1 hj).1)]; exact hj) (fun u hu => by
      obtain ⟨j, hj⟩ := List.getElem?_of_mem hu
      have hjl : j < 3 * n := by rw [← hnl]; exact (List.getElem?_eq_some_iff.1 hj).1
      obtain ⟨es, hes, _, hone, hc⟩ := hel (j / 3) (by omega)
      have := hc (j % 3) (Nat.mod_lt _ (by decide))
      rw [show 3 * (j / 3) + j % 3 = j by omega, hnw j hjl, hj] at this
      exact hone u (Array.mem_of_getElem? this.symm))
    have hrun := run_append_grow_src (P := Try.prog) w T T o.type 35 i0 _ hT hi0 hz0 none 0 0 [] (run_firstCells_none w.drew _ _ _ _) _ n news hsrc (by omega) (by omega) (growslice_fits (by omega) (by rw [hz2]; omega))
    have hcap := grownCap_ge w (0 + n) 0 35
    have hcap2 := grownCap_le_maxLen w (0 + n) 0 35 (by unfold maxLen; omega)
    generalize grownCap w (0 + n) 0 35 = cc at hrun hcap hcap2
    have hexec : (execOp ρ o).run Try.prog w = .ok (.value (.slice (some ⟨w.heap.size, 0, none⟩) (0 + n) cc)) (w.drew.alloc (.cells (([] ++ news).toArray ++ Builtin.zeroCells (Value.agg #[.bool false, .slice none 0 0, .slice none 0 0]).cells (cc - (0 + n))) 35)) := by
      unfold execOp; rw [h]; simp [resolve, invoke, builtin, hx, ey, hrun]
    unfold Yld
    rw [hexec]
    have hg : Grow w (w.drew.alloc (.cells (([] ++ news).toArray ++ Builtin.zeroCells (Value.agg #[.bool false, .slice none 0 0, .slice none 0 0]).cells (cc - (0 + n))) 35)) := ((Grow.refl w).drew).alloc _
    have hb' : Blk (w.drew.alloc (.cells (([] ++ news).toArray ++ Builtin.zeroCells (Value.agg #[.bool false, .slice none 0 0, .slice none 0 0]).cells (cc - (0 + n))) 35)) w.heap.size 35 _ := Blk.new w.drew 35 _
    refine ⟨hg, some ⟨w.heap.size, 0, none⟩, cc, by rw [Nat.zero_add], by omega, hcap2, .inr ⟨w.heap.size, _, rfl, hB, fun hg => absurd (hF _ hg) (Nat.lt_irrefl _), hb', ?_, fun i hi => ?_⟩⟩
    · have : (Builtin.zeroCells (Value.agg #[.bool false, .slice none 0 0, .slice none 0 0]).cells (cc - (0 + n))).size = (cc - (0 + n)) * 3 := by simp [Builtin.zeroCells, Value.cells]
      simp only [Array.size_append, List.size_toArray, List.length_append, List.length_nil, hnl, this]
      omega
    · obtain ⟨es, hes, hR, _, hc⟩ := hel i hi
      refine ⟨.agg es, hes, MR.mono _ hg hR, fun j v hj => ?_⟩
      have hj3 : j < 3 := hes ▸ (Array.getElem?_eq_some_iff.1 hj).1
      rw [hb'.cell, Array.getElem?_append_left (by simp [hnl]; omega)]
      simp only [List.nil_append, List.getElem?_toArray]
      rw [← hnw (3 * i + j) (by omega), hc j hj3]
      exact hj
end
/-- slices of whole numbers -/
def MR.ints (F : Nat → Prop) (x : Nat → Int) (n : Nat) : MR := .sl F 1 (fun i => .eq (.int .i64 (x i))) n
theorem StF.ints {F : Nat → Prop} {x : Nat → Int} {n : Nat} : StF F (.ints F x n) := StF.sl fun _ => StF.eq _
theorem intInfo : (Try.prog.info? 3).map (fun i => (i.zero, i.size, i.bytes)) = some (some (.int .i64 0), 1, 8) := by kernel_rfl
section
variable {o : Oper} {ρ : Operand → Value} {w : World} {x y : Operand} {F : Nat → Prop} {n k s : Nat} {a : Nat → Int} {E : Nat → MR} {T e : TypeId} {z : Int}
theorem yld_indexI (hT : Try.prog.underlying T = some (.slice 3)) (h : o.op = .indexAddr T x y) (hx : (MR.ints F a n).R w (ρ x)) (hy : ρ y = .int .i64 z) (hz : z = ((k : Nat) : Int)) (hk : k < n) :
    Yld Try.prog o ρ w (fun v w' => Grow w w' ∧ (MR.eptr F 1 (.eq (.int .i64 (a k)))).R w' v) := yld_indexS (E := fun i => .eq (.int .i64 (a i))) hT (by kernel_rfl) h hx hy hz hk
theorem yld_loadI {c : Int} (h : o.op = .load 3 x) (hx : (MR.eptr F 1 (.eq (.int .i64 c))).R w (ρ x)) : Yld Try.prog o ρ w (fun v w' => Grow w w' ∧ (MR.eq (.int .i64 c)).R w' v) := by
  obtain ⟨g, oo, ev, hf, hl, e, hs, hR, hc⟩ := hx
  have hR : e = .int .i64 c := hR
  subst hR
  have hcell : w.cell? ⟨g, oo, none⟩ = some (.int .i64 c) := hc 0 _ rfl
  have hagg : (isAgg 3).run Try.prog w = .ok false w := by
    unfold isAgg
    rw [Sem.run_bind, run_underlying Try.underlying3 w]
    rfl
  exact yld_load (v := .int .i64 c) h (by rw [ev]; simp [Instr.loadAt, Instr.sureAddr, loadVar, Sem.run_bind, hagg, hcell]) ⟨Grow.refl _, rfl⟩
/-- the first k of a slice -/
theorem yld_firsts (hT : Try.prog.underlying T = some (.slice (Try.prog.elem T))) (hi : (Try.prog.info? (Try.prog.elem T)).map (·.size) = some s) {x2 : Operand} (h : o.op = .slice T x none (some x2) none) (hx : (MR.sl F s E n).R w (ρ x)) (hy : ρ x2 = .int .i64 z) (hz : z = ((k : Nat) : Int)) (hk : k ≤ n) :
    Yld Try.prog o ρ w (fun v w' => Grow w w' ∧ (MR.sl F s E k).R w' v) := by
  obtain ⟨A, c, ev, h1, h2, h3, hel⟩ := hx
  subst hz
  have hs : (sizeOf (Try.prog.elem T)).run Try.prog w = .ok s w := by
    cases hq : Try.prog.info? (Try.prog.elem T) with
    | none => rw [hq] at hi; cases hi
    | some i0 =>
      have : i0.size = s := by simpa [hq] using hi
      simp [sizeOf, typeInfo, hq, this]
  have e1 : sliced A 0 k c s = .slice A k c := by
    unfold sliced
    cases A <;> simp [Addr.add]
  have hrun : (execOp ρ o).run Try.prog w = .ok (.value (.slice A k c)) w := by
    unfold execOp
    rw [h]
    simp only [ev, hy, Option.map_some, Option.map_none, Sem.run_bind, run_sliceAt_slice w _ _ _ _ _ hT]
    rw [run_slice_h w _ _ _ _ hT _ _ (by omega) (by omega), hs]
    simp [e1]
  exact yld_val hrun ⟨Grow.refl _, A, c, rfl, fun e => ⟨by have := h1 e; omega, (h1 e).2⟩, by omega, h3, fun i hi => hel i (by omega)⟩
end
section
variable {P : Program} {fn : Func} {w0 w : World} {a : Act} {R R' : MR} {s t : Nat}
theorem body_slot2 (hr : fn.results = #[.tmp s, .tmp t]) (hR : R.R w (a.tmps.getD s undef)) (hR' : R'.R w (a.tmps.getD t undef)) (hd : a.defers = []) (hW : Grow w0 w) : bodyPost P fn (Ret (.tup2 R R') w0) .ret a w := by
  refine bodyPost_ret (v := .tuple #[a.tmps.getD s undef, a.tmps.getD t undef]) ?_ hd ⟨_, rfl, hW, _, _, rfl, hR, hR'⟩
  unfold results
  rw [hr]
  simp
end
end Go.Proofs.Ytngghjhmfpmilaa
