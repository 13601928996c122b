/- Rows of words that are one's own: slices.Clone, nat.Words, append, make. -/
import Derived.Test.YtngghjhmfpmilaaDivD
import Derived.Test.YtngghjhmfpmilaaByWord
namespace Go.Proofs.Ytngghjhmfpmilaa
open Go.RowKit
/-- a row of words from block B on, that no one else has; behind its n words it goes on as f says -/
def MR.own (B : Nat) (f : Nat → Nat) (n : Nat) : MR := ⟨fun w v => ∃ g c, v = .slice (some ⟨g, 0, none⟩) n c ∧ B ≤ g ∧ n ≤ c ∧ c ≤ maxLen ∧ Blk w g 105 (wa f c), fun h ⟨g, c, e, hB, h1, h2, k⟩ => ⟨g, c, e, hB, h1, h2, k.below h⟩⟩
/-- the words of a number -/
def MR.nws (x : Nat) : MR := ⟨fun w v => (MR.nat x).R w (.agg #[v]), fun h k => MR.mono _ h k⟩
theorem paNatWords (x : Nat) : Part1 (.nat x) 0 (.nws x) := fun {w v} h => by
  obtain ⟨A, c, rfl, r⟩ : NatAt _ w v x := h
  exact ⟨_, _, rfl, rfl, A, c, rfl, r⟩
theorem one64s : ∃ d, Try.prog.underlying 29 = some d ∧ d.isRow = false := ⟨_, Try.underlying29, rfl⟩
theorem own_cells (f : Nat → Nat) (n k : Nat) (hz : ∀ i, n ≤ i → f i = 0) : (words f n).toArray ++ Builtin.zeroCells (Value.int .u64 0).cells k = wa f (n + k) := by
  apply Array.ext_getElem?
  intro i
  by_cases h1 : i < n
  · rw [Array.getElem?_append_left (by simpa [words_length] using h1), wa_at f _ i (by omega)]
    have := words_at f n i h1
    simpa using this
  · rw [Array.getElem?_append_right (by simp [words_length]; omega)]
    by_cases h2 : i < n + k
    · rw [wa_at f _ i h2, hz i (by omega)]
      have hk : i - n < k := by omega
      simp [Builtin.zeroCells, Value.cells, words_length, hk, Nat.mod_one]
    · have e1 : (Builtin.zeroCells (Value.int .u64 0).cells k)[i - (words f n).toArray.size]? = none := Array.getElem?_eq_none (by rw [size_zeroCells]; simp [Value.cells, words_length]; omega)
      have e2 : (wa f (n + k))[i]? = none := Array.getElem?_eq_none (by unfold wa; simp [words_length]; omega)
      rw [e1, e2]
section
variable {P : Program} {ops : Array Oper} {rest : List Oper} {o : Oper} {a : Act} {Q : Exit → Act → World → Prop} {w : World}
theorem wpList_yld (hgd : o.guard = none) (h : Yld P o a.eval w (fun v w' => wpList P ops Q rest (a.put o.dst v) w')) : wpList P ops Q (o :: rest) a w :=
  wpList_plain hgd fun _ hK => Yld.wp h fun _ _ hv => hK _ _ hv
end
theorem setRow_same {w : World} {g : Nat} {cs : Array Value} {t : TypeId} (h : w.heap[g]? = some (.cells cs t (0, 0))) : w.setRow g cs = w := by
  unfold World.setRow
  have e : w.heap.modify g (fun | .cells _ e fr => .cells cs e fr | o => o) = w.heap := by
    apply Array.ext_getElem?
    intro i
    simp only [Array.getElem?_modify]
    by_cases hi : g = i
    · subst hi
      rw [if_pos rfl, h]
      rfl
    · rw [if_neg hi]
  exact congrArg (fun x => { w with heap := x }) e
section
variable {o : Oper} {ρ : Operand → Value} {w : World} {x y : Operand} {f : Nat → Nat} {n c B : Nat} {F : Nat → Prop}
theorem yld_append_fresh {a b : Addr} (h : o.op = .call { callee := .builtin .append, args := #[x, y], argTypes := #[29, 29] }) (hx : ρ x = .slice (some b) 0 0) (hy : ρ y = .slice (some a) n c) (hS : USlice F w (some a) n f) (hn0 : 0 < n) (hn : n ≤ 1099511627776) (hB : B ≤ w.heap.size) (hz : ∀ i, n ≤ i → f i = 0) :
    Yld Try.prog o ρ w (fun v w' => Grow w w' ∧ (MR.own B f n).R w' v) := by
  obtain ⟨i0, hi0, hz0, hz1, hz2⟩ := infoParts u64Info
  have hrun := run_append_grow (P := Try.prog) w 29 o.type 105 i0 (.int .u64 0) Try.underlying29 hi0 hz0 b 0 0 [] (by simp)
    (fun j v hj => by simp at hj) a n c (words f n) (by rw [words_length, hz1, Nat.mul_one])
    (fun j v hj => by
      have hlt : j < n := by
        have := (List.getElem?_eq_some_iff.1 hj).1
        rwa [words_length] at this
      obtain ⟨g', o', e, _, _, hcell⟩ := hS j hlt
      obtain rfl : a = ⟨g', o', none⟩ := Option.some.inj e
      rw [words_at f n j hlt] at hj
      rw [add_plain, hcell]; exact hj)
    (by omega) (by omega) (growslice_fits (by omega) (by rw [hz2]; omega))
  have hcap := grownCap_ge w (0 + n) 0 105
  have hcap2 := grownCap_le_maxLen w (0 + n) 0 105 (by unfold maxLen; omega)
  simp only [Nat.zero_add] at hrun hcap hcap2
  have hcells := own_cells f n (grownCap w n 0 105 - n) hz
  rw [show n + (grownCap w n 0 105 - n) = grownCap w n 0 105 by omega] at hcells
  have hexec : (execOp ρ o).run Try.prog w = .ok (.value (.slice (some ⟨w.heap.size, 0, none⟩) n (grownCap w n 0 105))) (w.drew.alloc (.cells (wa f (grownCap w n 0 105)) 105)) := by
    unfold execOp; rw [h, ← hcells]; simp [resolve, invoke, builtin, hx, hy, hrun]
  unfold Yld
  rw [hexec]
  exact ⟨((Grow.refl w).drew).alloc _, w.heap.size, _, rfl, hB, hcap, hcap2, Blk.new w.drew 105 _⟩
/-- zeros behind a row of one's own that is 0 there -/
theorem yld_append_zeros {r : Nat} (h : o.op = .call { callee := .builtin .append, args := #[x, y], argTypes := #[29, 29] }) (hx : (MR.own B f n).R w (ρ x)) (hy : (MR.lits [0, 0]).R w (ρ y)) (hn0 : 0 < n) (hn : n ≤ 1099511627776) (hB : B ≤ w.heap.size) (hz : ∀ i, n ≤ i → f i = 0) (hr : n + 2 = r) :
    Yld Try.prog o ρ w (fun v w' => Grow w w' ∧ (MR.own B f r).R w' v) := by
  subst hr
  obtain ⟨g, c, ex, hBg, hc, hcm, hblk⟩ := hx
  obtain ⟨q, ey, hS⟩ := hy
  obtain ⟨i0, hi0, hz0, hz1, hz2⟩ := infoParts u64Info
  have hz01 : (words (fun i => [0, 0].getD i 0) 2) = words (fun i => f (n + i)) 2 := by
    simp [words, List.range_succ, hz]
  have hnews : ∀ j v, (words (fun i => f (n + i)) 2)[j]? = some v → w.cell? ((⟨q, 0, none⟩ : Addr).add j) = some v := fun j v hj => by
    rw [← hz01] at hj
    have hlt : j < 2 := by
      have := (List.getElem?_eq_some_iff.1 hj).1
      rwa [words_length] at this
    obtain ⟨g', o', e, _, _, hcell⟩ := hS j hlt
    simp only [Option.some.injEq, Addr.mk.injEq, and_true] at e
    obtain ⟨rfl, rfl⟩ := e
    rw [words_at _ 2 j hlt] at hj
    rw [add_plain, hcell]; exact hj
  rcases Nat.lt_or_ge c (n + 2) with hg | hg
  · have hrun := run_append_grow (P := Try.prog) w 29 o.type 105 i0 (.int .u64 0) Try.underlying29 hi0 hz0 ⟨g, 0, none⟩ n c (words f n) (by rw [words_length, hz1, Nat.mul_one])
      (fun j v hj => by
        have hlt : j < n := by
          have := (List.getElem?_eq_some_iff.1 hj).1
          rwa [words_length] at this
        rw [words_at f n j hlt] at hj
        rw [add_plain, hblk.cell, Nat.zero_add, wa_at f c j (by omega)]; exact hj) ⟨q, 0, none⟩ 2 2 (words (fun i => f (n + i)) 2) (by rw [words_length, hz1])
      hnews hg (by omega) (growslice_fits (by omega) (by rw [hz2]; omega))
    have hcap := grownCap_ge w (n + 2) c 105
    have hcap2 := grownCap_le_maxLen w (n + 2) c 105 (by unfold maxLen; omega)
    have hcells := own_cells f (n + 2) (grownCap w (n + 2) c 105 - (n + 2)) (fun i hi => hz i (by omega))
    rw [show n + 2 + (grownCap w (n + 2) c 105 - (n + 2)) = grownCap w (n + 2) c 105 by omega] at hcells
    have hw2 : (words f n).toArray ++ (words (fun i => f (n + i)) 2).toArray = (words f (n + 2)).toArray := by
      simp [words, List.range_succ]
    rw [hw2, hcells] at hrun
    have hexec : (execOp ρ o).run Try.prog w = .ok (.value (.slice (some ⟨w.heap.size, 0, none⟩) (n + 2) (grownCap w (n + 2) c 105))) (w.drew.alloc (.cells (wa f (grownCap w (n + 2) c 105)) 105)) := by
      unfold execOp; rw [h]; simp [resolve, invoke, builtin, ex, ey, hrun]
    unfold Yld
    rw [hexec]
    exact ⟨((Grow.refl w).drew).alloc _, w.heap.size, _, rfl, hB, hcap, hcap2, Blk.new w.drew 105 _⟩
  · have hsz : (wa f c).size = c := by unfold wa; simp [words_length]
    have hrun := run_append_room (P := Try.prog) w 29 o.type 105 i0 Try.underlying29 hi0 g n c (wa f c) hblk ⟨q, 0, none⟩ 2 2 (words (fun i => f (n + i)) 2) (by rw [words_length, hz1])
      hnews (words_one _ _) hg (by rw [hz1, words_length, hsz]; omega)
    have hsame : ((wa f c).toList.take (n * i0.size) ++ words (fun i => f (n + i)) 2 ++ (wa f c).toList.drop (n * i0.size + (words (fun i => f (n + i)) 2).length)).toArray = wa f c := by
      rw [hz1, Nat.mul_one, words_length]
      apply Array.toList_inj.1
      show _ = (wa f c).toList
      have ew : words (fun i => f (n + i)) 2 = ((wa f c).toList.drop n).take 2 := by
        apply List.ext_getElem?
        intro j
        by_cases hj : j < 2
        · rw [words_at _ 2 j hj, List.getElem?_take_of_lt hj, List.getElem?_drop, Array.getElem?_toList, wa_at f c (n + j) (by omega)]
        · rw [List.getElem?_eq_none (by rw [words_length]; omega), List.getElem?_eq_none (by simp; omega)]
      rw [ew, List.append_assoc]
      have : ((wa f c).toList.drop n).take 2 ++ (wa f c).toList.drop (n + 2) = (wa f c).toList.drop n := by
        rw [← List.drop_drop]
        exact List.take_append_drop 2 _
      rw [this]
      exact List.take_append_drop n _
    rw [hsame] at hrun
    have hheap : w.heap[g]? = some (.cells (wa f c) 105 (0, 0)) := hblk
    have hrow : w.setRow g (wa f c) = w := setRow_same hheap
    rw [hrow] at hrun
    exact yld_val (v := .slice (some ⟨g, 0, none⟩) (n + 2) c) (by unfold execOp; rw [h]; simp [resolve, invoke, builtin, ex, ey, hrun]) ⟨Grow.refl _, g, c, rfl, hBg, hg, hcm, hblk⟩
end
set_option maxHeartbeats 400000 in
theorem clone_own (B : Nat) (F : Nat → Prop) (a : Addr) (n c : Nat) (f : Nat → Nat) (w : World) (h : USlice F w (some a) n f) (hn0 : 0 < n) (hn : n ≤ 1099511627776) (hB : B ≤ w.heap.size) (hz : ∀ i, n ≤ i → f i = 0) :
    Calls Try.prog 100 #[.slice (some a) n c] w fun e w' => ∃ v, e = .returned v ∧ (MR.own B f n).R w' v ∧ Grow w w' := by
  obtain ⟨i0, hi0, hz0, hz1, hz2⟩ := infoParts u64Info
  have hnil := fun (w : World) (n c n' c' : Nat) => Lib.run_eql_slice_nil (P := Try.prog) w 29 105 (some a) n c n' c' Try.underlying29
  have HZ := Lib.hid (And.intro h hz)
  clear h hz
  go_enter Try.func100, Try.ntmps100
  go_wp2_with (
    (at_builtin
     refine wpList_yld rfl ((yld_append_fresh (B := B) rfl rfl rfl (HZ.out.1.keep (Keeps.alloc (Keeps.refl _ _) _)) hn0 hn (by simp; omega) HZ.out.2).mono ?_)))
  intro v' w1 hg hown
  have HOwn := Lib.hid (And.intro hown (((Grow.refl w).alloc _).trans hg))
  clear hg hown hnil HZ
  go_wp2
  go_ret
  exact ⟨v', rfl, HOwn.out.1, HOwn.out.2⟩
set_option maxHeartbeats 400000 in
theorem cWords0 {va : Value} {x B : Nat} {w : World} (ha : (MR.nat x).R w va) (h0 : 0 < nw x) (hn : nw x ≤ 1099511627776) (hB : B ≤ w.heap.size) : Calls Try.prog 99 #[va] w (Ret (.own B (wd x) (nw x)) w) := by
  obtain ⟨A, c, rfl, h1, h2, hsm, h3⟩ : NatAt _ w va x := ha
  have h3 := h3.slice
  obtain ⟨g, oo, rfl, _⟩ := h3 0 h0
  have H3 := Lib.hid h3
  clear h3 h1 h2 hsm
  go_enter Try.func99, Try.ntmps99
  go_wp2_with fail
  refine (clone_own B (fun _ => False) _ _ c (wd x) _ (H3.out.keep (by (repeat (first | with_reducible exact Keeps.refl _ _ | with_reducible assumption | with_reducible refine Keeps.drew ?_ | with_reducible refine Keeps.drewN ?_ _ | with_reducible refine Keeps.alloc ?_ _ | with_reducible refine Keeps.set ?_ (by first | (simp [Own]; done) | exact .inr (by first | (simp; done) | (simp; omega) | omega)) _ | with_reducible refine Keeps.trans ?_ (by assumption))))) h0 hn (by simp; omega) (fun i hi => wd_high x i hi)).mono ?_
  rintro e wM ⟨v0, rfl, hown, hb⟩
  have BW := below_next (w := w) (by (repeat (first | with_reducible exact Below.refl _ _ | with_reducible assumption | with_reducible refine Below.drew ?_ | with_reducible refine below_drewN ?_ _ | with_reducible refine Below.alloc ?_ (by first | exact Nat.le_refl _ | (simp; done) | (simp; omega) | omega) _ | with_reducible refine Below.setCell ?_ (by first | exact Nat.le_refl _ | (simp; done) | (simp; omega) | omega) _))) hb
  have HH := Lib.hid (And.intro hown BW)
  clear hown hb H3 BW
  go_wp2_with fail
  go_ret
  exact ⟨_, rfl, HH.out.2, HH.out.1⟩
section
variable {o : Oper} {ρ : Operand → Value} {w : World} {x y : Operand} {f : Nat → Nat} {n k B : Nat} {z : Int}
theorem yld_lit00 (h : o.op = .buildSlice 29 2 #[(0, x), (1, y)]) (hx : ρ x = .int .u64 ((0 : Nat) : Int)) (hy : ρ y = .int .u64 ((0 : Nat) : Int)) : Yld Try.prog o ρ w (fun v w' => Grow w w' ∧ (MR.lits [0, 0]).R w' v) := by
  obtain ⟨i0, hi0, hz0, hz1, hz2⟩ := infoParts u64Info
  have hrun : (Instr.buildSlice 29 2 #[(0, .int .u64 ((0 : Nat) : Int)), (1, .int .u64 ((0 : Nat) : Int))]).run Try.prog w = .ok (.slice (some ⟨w.heap.size, 0, none⟩) 2 2) (w.alloc (.cells #[.int .u64 ((0 : Nat) : Int), .int .u64 ((0 : Nat) : Int)] 105)) := by
    simp [Instr.buildSlice, Sem.run_bind, run_underlying Try.underlying29 w, sizeOf, zeroValue, typeInfo, hi0, hz0, hz1, newRow, Instr.fill, Value.cells]
    rw [show Array.range 2 = #[0, 1] from by decide]
    simp
  unfold Yld execOp
  rw [h]
  have e : (#[(0, x), (1, y)] : Array (Nat × Operand)).map (fun (i, x) => (i, ρ x)) = #[(0, .int .u64 ((0 : Nat) : Int)), (1, .int .u64 ((0 : Nat) : Int))] := by simp [hx, hy]
  simp only [e, Sem.run_bind, hrun, Result.andThen_ok]
  refine ⟨(Grow.refl w).alloc _, w.heap.size, rfl, fun i hi => ?_⟩
  have hb := Blk.new w 105 #[.int .u64 ((0 : Nat) : Int), .int .u64 ((0 : Nat) : Int)]
  refine ⟨w.heap.size, 0, rfl, id, hb.lt, ?_⟩
  rw [hb.cell]
  simp only [List.length_cons, List.length_nil] at hi
  rcases i with _ | _ | i
  · rfl
  · rfl
  · omega
theorem yld_makeO (h : o.op = .makeSlice 29 x y) (hx : ρ x = .int .i64 ((k : Nat) : Int)) (hy : ρ y = .int .i64 ((k : Nat) : Int)) (hk : k ≤ 35184372088832) (hB : B ≤ w.heap.size) : Yld Try.prog o ρ w (fun v w' => Grow w w' ∧ (MR.own B (fun _ => 0) k).R w' v) := by
  unfold Yld execOp
  rw [h]
  simp only [hx, hy, Sem.run_bind, mk64 k hk, Result.andThen_ok]
  exact ⟨(Grow.refl w).alloc _, _, _, rfl, hB, Nat.le_refl _, by unfold maxLen; omega, Blk.new w _ _⟩
theorem yld_sliceO {y2 : Operand} {m : Nat} (h : o.op = .slice 29 x none (some y2) none) (hx : (MR.own B f n).R w (ρ x)) (hq : ρ y2 = .int .i64 z) (ez : z = ((m : Nat) : Int)) (hm0 : 0 < m) (hm : m ≤ n) :
    Yld Try.prog o ρ w (fun v w' => Grow w w' ∧ (MR.own B f m).R w' v) := by
  subst ez
  obtain ⟨g, c, ex, hB, h1, h2, hb⟩ := hx
  obtain ⟨i0, hi0, _, hz1, _⟩ := infoParts u64Info
  have hE : Try.prog.underlying 29 = some (.slice (Try.prog.elem 29)) := by kernel_rfl
  have hs : (sizeOf (Try.prog.elem 29)).run Try.prog w = .ok 1 w := by
    rw [show Try.prog.elem 29 = 105 by kernel_rfl]
    simp [sizeOf, typeInfo, hi0, hz1]
  have hc : ¬ c = 0 := by omega
  have hrun : (execOp ρ o).run Try.prog w = .ok (.value (.slice (some ⟨g, 0, none⟩) m c)) w := by
    unfold execOp
    rw [h]
    simp only [ex, hq, Option.map_some, Option.map_none, Sem.run_bind, run_sliceAt_slice w _ _ _ _ _ hE]
    rw [run_slice_h w _ _ _ _ hE _ _ (by omega) (by omega), hs]
    simp [sliced, add_plain]
  exact yld_val hrun ⟨Grow.refl _, g, c, rfl, hB, by omega, h2, hb⟩
theorem yld_lenE {A : Option Addr} {c : Nat} (h : o.op = .call { callee := .builtin .len, args := #[x], argTypes := #[29] }) (hx : ρ x = .slice A n c) : Yld Try.prog o ρ w (fun v w' => Grow w w' ∧ (MR.eq (.int .i64 ((n : Nat) : Int))).R w' v) :=
  yld_val (v := .int .i64 (n : Nat)) (by unfold execOp; rw [h]; simp [resolve, invoke, builtin, hx, Builtin.len_, run_underlying Try.underlying29, goInt]) ⟨Grow.refl _, rfl⟩
end
theorem uns_row {w : World} {g n L : Nat} {f : Nat → Nat} (h : Blk w g 105 (wa f L)) (h1 : n ≤ L) (h2 : L ≤ maxLen) : (MR.uns f n).R w (.slice (some ⟨g, 0, none⟩) n L) :=
  ⟨_, _, rfl, fun i hi => ⟨g, 0, rfl, id, h.lt, by rw [Nat.zero_add, h.cell, wa_at f L i (by omega)]⟩, h1, h2, fun e => by cases e⟩
section
variable {va : Value} {x k : Nat} {w : World}
theorem cWord0 (ha : (MR.nat x).R w va) {z : Int} (hz : z = ((k : Nat) : Int)) : Calls Try.prog 92 #[va, .int .i64 z] w (Ret (.eq (.int .u64 ((wd x k : Nat) : Int))) w) := by
  subst hz
  exact (nWord (fun _ => False) va x k (by omega) w ha).mono fun _ _ ⟨e, h2⟩ => ⟨_, e, h2, by simp; rfl⟩
theorem cLead (hx : x < 18446744073709551616) : Calls Try.prog 108 #[.int .u64 ((x : Nat) : Int)] w (Ret (.eq (.int .i64 ((leadz x : Nat) : Int))) w) :=
  (wLead x hx w).mono fun _ _ ⟨e, h2⟩ => ⟨_, e, drawn_grow h2, rfl⟩
theorem cShl (ha : (MR.nat x).R w va) (hk : k < 64) (hs : Small (x * 2 ^ k)) : Calls Try.prog 109 #[va, .int .i64 ((k : Nat) : Int)] w (Ret (.tup2 (.nat (x * 2 ^ k)) (.eq (.bool true))) w) :=
  (nShl (fun _ => False) va x k w (lows0 w) ha hk hs).mono fun _ _ ⟨v, e, h1, h2⟩ => ⟨_, e, h2, v, _, rfl, h1, rfl⟩
theorem cShr (ha : (MR.nat x).R w va) (hk : k < 64) : Calls Try.prog 113 #[va, .int .i64 ((k : Nat) : Int)] w (Ret (.nat (x / 2 ^ k)) w) :=
  (nShr (fun _ => False) va x k w (lows0 w) ha hk).mono fun _ _ ⟨v, e, h1, h2⟩ => ⟨v, e, h2, h1⟩
theorem cByWord {d : Nat} (ha : (MR.nat x).R w va) (hd : d < 18446744073709551616) : Calls Try.prog 107 #[va, .int .u64 ((d : Nat) : Int)] w (Ret (.tup3 (.nat (x / d)) (.eq (.int .u64 ((if d = 0 then 0 else x % d : Nat) : Int))) (.eq (.bool (!decide (d = 0))))) w) := by
  by_cases h : d = 0
  · subst h
    exact (qByWord_no (fun _ => False) va x w ha).mono fun _ _ ⟨e, h2⟩ => ⟨_, e, h2, _, _, _, rfl, by rw [Nat.div_zero]; exact zNat _, rfl, rfl⟩
  · refine (qByWord (fun _ => False) va x d w (lows0 w) ha (by omega) hd).mono fun _ _ ⟨v, e, h1, h2⟩ => ⟨_, e, h2, v, _, _, rfl, h1, ?_, ?_⟩
    · show Value.int _ _ = _
      rw [if_neg h]; congr 2; unfold remV; simp
    · show Value.bool _ = _
      simp [h]
end
end Go.Proofs.Ytngghjhmfpmilaa
