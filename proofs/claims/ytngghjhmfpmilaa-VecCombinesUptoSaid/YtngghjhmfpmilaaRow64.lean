/- Slices of words as relations; make, append, min, max, quo. -/
import Derived.Test.YtngghjhmfpmilaaCon
import Derived.Test.YtngghjhmfpmilaaCut
namespace Go.Proofs.Ytngghjhmfpmilaa
open Go.RowKit
/-- a row that make made -/
def MR.row (f : Nat → Nat) (n : Nat) : MR := ⟨fun w v => ∃ g, v = .slice (some ⟨g, 0, none⟩) n n ∧ Blk w g 105 (wa f n), fun h ⟨g, e, k⟩ => ⟨g, e, k.below h⟩⟩
/-- a slice of words -/
def MR.uns (f : Nat → Nat) (n : Nat) : MR := ⟨fun w v => ∃ A c, v = .slice A n c ∧ USlice (fun _ => False) w A n f ∧ n ≤ c ∧ c ≤ maxLen ∧ Nilled A n c, fun h ⟨A, c, e, k, r⟩ => ⟨A, c, e, k.keep (Keeps.of_below h), r⟩⟩
section
variable {va vb : Value} {x y : Nat} {w : World} {f : Nat → Nat} {n : Nat}
theorem cNatWords (ha : (MR.nat x).R w va) : Calls Try.prog 99 #[va] w (Ret (.uns (wd x) (nw x)) w) :=
  (nWords (fun _ => False) va x w ha).mono fun _ _ ⟨v, e, ⟨A, c, e1, h1, h2, h3, h4, _⟩, hb⟩ => ⟨v, e, hb, A, c, e1, h1 _ (fun _ h => h.elim), h2, h3, h4⟩
theorem cNatOfU (h : (MR.uns f n).R w va) (hw : Wf f n) (hn : n ≤ 1099511627776) : Calls Try.prog 87 #[va] w (Ret (.nat (val f n)) w) := by
  obtain ⟨A, c, rfl, h1, h2, h3, h4⟩ := h
  exact (nOf (fun _ => False) A n c f w (lows0 w) h1 hw hn h4).mono fun _ _ ⟨v, e, h1, h2⟩ => ⟨v, e, h2, h1⟩
theorem cCut (ha : (MR.nat x).R w va) {k : Nat} (h0 : 0 < nw x) (hk : k ≤ 1099511627776) : Calls Try.prog 85 #[va, .int .i64 ((k : Nat) : Int)] w (Ret (.tup2 (.nat (x % 2 ^ (64 * k))) (.nat (x / 2 ^ (64 * k)))) w) :=
  (pCut (fun _ => False) va x k w (lows0 w) ha h0 hk).mono fun _ _ ⟨v, u, e, h1, h2, hb⟩ => ⟨_, e, hb, v, u, rfl, h1, h2⟩
theorem cSchool (ha : (MR.nat x).R w va) (hb : (MR.nat y).R w vb) (hs : nw x + nw y ≤ 1099511627776) : Calls Try.prog 84 #[va, vb] w (Ret (.nat (x * y)) w) :=
  (pSchool (fun _ => False) va vb x y w (lows0 w) ha hb hs).mono fun _ _ ⟨v, e, h1, h2⟩ => ⟨v, e, h2, h1⟩
end
section
variable {o : Oper} {ρ : Operand → Value} {w : World} {x y : Operand}
theorem yld_make64 {k : Nat} (h : o.op = .makeSlice 29 x y) (hx : ρ x = .int .i64 ((k : Nat) : Int)) (hy : ρ y = .int .i64 ((k : Nat) : Int)) (hk : k ≤ 35184372088832) : Yld Try.prog o ρ w (fun v w' => Grow w w' ∧ (MR.row (fun _ => 0) k).R w' v) := by
  unfold Yld execOp
  rw [h]
  simp only [hx, hy, Sem.run_bind, mk64 k hk, Result.andThen_ok]
  exact ⟨(Grow.refl w).alloc _, _, rfl, Blk.new w _ _⟩
theorem wa_cells {f : Nat → Nat} {n : Nat} (j : Nat) (v : Value) (h : (words f n)[j]? = some v) : (wa f n)[j]? = some v := by unfold wa; simpa using h
/-- append of words to a full row -/
theorem yld_append64 {f g : Nat → Nat} {k n : Nat} (h : o.op = .call { callee := .builtin .append, args := #[x, y], argTypes := #[29, 29] }) (hx : (MR.row f k).R w (ρ x)) (hy : (MR.uns g n).R w (ρ y)) (hk : k ≤ 137438953472) (hn : n ≤ 137438953472) :
    Yld Try.prog o ρ w (fun v w' => Grow w w' ∧ (MR.uns (fun i => if i < k then f i else g (i - k)) (k + n)).R w' v) := by
  obtain ⟨r, ex, hB⟩ := hx
  obtain ⟨A, c, ey, hS, hc1, hc2, hnil⟩ := hy
  obtain ⟨i0, hi0, hz0, hz1, hz2⟩ := infoParts u64Info
  rcases Nat.eq_zero_or_pos n with rfl | hn0
  · have hrun : (Builtin.append_ #[29, 29] o.type #[.slice (some ⟨r, 0, none⟩) k k, .slice A 0 c]).run Try.prog w = .ok (.slice (some ⟨r, 0, none⟩) k k) w := by
      cases A <;> simp [Builtin.append_, run_underlying Try.underlying29, sizeOf, typeInfo, hi0, Builtin.lenOf, Builtin.firstCells, storeCells, loadCells, loadCellsFrom]
    refine yld_val (v := .slice (some ⟨r, 0, none⟩) k k) (by unfold execOp; rw [h]; simp [resolve, invoke, builtin, ex, ey, hrun]) ⟨Grow.refl _, some ⟨r, 0, none⟩, k, rfl, fun i hi => ?_, by omega, by unfold maxLen; omega, fun e => by cases e⟩
    exact ⟨r, 0, rfl, id, hB.lt, by rw [Nat.zero_add, hB.cell, wa_at f k i (by omega)]; show _ = some (Value.int _ (((if i < k then f i else g (i - k) : Nat)) : Int)); rw [if_pos (by omega)]⟩
  · obtain ⟨ga, oa, rfl, _, _, _⟩ := hS 0 hn0
    have hrun := run_append_grow (P := Try.prog) w 29 o.type 105 i0 (.int .u64 0) Try.underlying29 hi0 hz0 ⟨r, 0, none⟩ k k (words f k) (by rw [words_length, hz1, Nat.mul_one])
      (fun j v hj => by rw [add_plain, hB.cell, Nat.zero_add]; exact wa_cells j v hj) ⟨ga, oa, none⟩ n c (words g n) (by rw [words_length, hz1, Nat.mul_one])
      (fun j v hj => by
        have hlt : j < n := by
          have := (List.getElem?_eq_some_iff.1 hj).1
          rwa [words_length] at this
        obtain ⟨g', o', e, _, _, hcell⟩ := hS j hlt
        simp only [Option.some.injEq, Addr.mk.injEq, and_true] at e
        obtain ⟨rfl, rfl⟩ := e
        rw [words_at g n j hlt] at hj
        rw [add_plain, hcell]; exact hj)
      (by omega) (by omega) (growslice_fits (by omega) (by rw [hz2]; omega))
    have hcap := grownCap_ge w (k + n) k 105
    have hcap2 := grownCap_le_maxLen w (k + n) k 105 (by unfold maxLen; omega)
    have hexec : (execOp ρ o).run Try.prog w = .ok (.value (.slice (some ⟨w.heap.size, 0, none⟩) (k + n) (grownCap w (k + n) k 105))) (w.drew.alloc (.cells ((words f k).toArray ++ (words g n).toArray ++ Builtin.zeroCells (Value.int .u64 0).cells (grownCap w (k + n) k 105 - (k + n))) 105)) := by
      unfold execOp; rw [h]; simp [resolve, invoke, builtin, ex, ey, hrun]
    unfold Yld
    rw [hexec]
    refine ⟨((Grow.refl w).drew).alloc _, some ⟨w.heap.size, 0, none⟩, _, rfl, fun i hi => ?_, hcap, hcap2, fun e => by cases e⟩
    have hb : Blk (w.drew.alloc (.cells ((words f k).toArray ++ (words g n).toArray ++ Builtin.zeroCells (Value.int .u64 0).cells (grownCap w (k + n) k 105 - (k + n))) 105)) w.heap.size 105 _ := Blk.new w.drew 105 ((words f k).toArray ++ (words g n).toArray ++ Builtin.zeroCells (Value.int .u64 0).cells (grownCap w (k + n) k 105 - (k + n)))
    refine ⟨_, 0, rfl, id, hb.lt, ?_⟩
    rw [Nat.zero_add, hb.cell]
    rw [Array.getElem?_append_left (by simp [words_length]; omega)]
    show _ = some (Value.int _ (((if i < k then f i else g (i - k) : Nat)) : Int))
    by_cases hik : i < k
    · rw [Array.getElem?_append_left (by simpa [words_length] using hik), if_pos hik]
      have := words_at f k i hik
      simpa using this
    · rw [Array.getElem?_append_right (by simp [words_length]; omega), if_neg hik]
      have := words_at g n (i - k) (by omega)
      simpa [words_length] using this
theorem yld_quo {P : Program} {Φ : Value → World → Prop} {t t' : TypeId} {k : IntKind} {p q r : Int} (h : o.op = .binOp .quo t x y t') (hx : ρ x = .int k p) (hy : ρ y = .int k q) (hq : q ≠ 0) (hr : k.wrap (p.tdiv q) = r) (K : Φ (.int k r) w) : Yld P o ρ w Φ :=
  yld_val (v := .int k r) (by unfold execOp; rw [h]; simp [hx, hy, eqGuard, binOp, Op.intDiv, hq, hr]) K
theorem yld_min {P : Program} {Φ : Value → World → Prop} {ts : Array TypeId} {p q : Int} (h : o.op = .call { callee := .builtin .min, args := #[x, y], argTypes := ts }) (hx : ρ x = .int .i64 p) (hy : ρ y = .int .i64 q) (K : Φ (.int .i64 (min p q)) w) : Yld P o ρ w Φ :=
  yld_val (v := .int .i64 (min p q)) (by unfold execOp; rw [h]; simp [resolve, invoke, builtin, hx, hy, Builtin.min_, Builtin.min2]; omega) K
theorem yld_max {P : Program} {Φ : Value → World → Prop} {ts : Array TypeId} {p q : Int} (h : o.op = .call { callee := .builtin .max, args := #[x, y], argTypes := ts }) (hx : ρ x = .int .i64 p) (hy : ρ y = .int .i64 q) (K : Φ (.int .i64 (max p q)) w) : Yld P o ρ w Φ :=
  yld_val (v := .int .i64 (max p q)) (by unfold execOp; rw [h]; simp [resolve, invoke, builtin, hx, hy, Builtin.max_, Builtin.max2]; omega) K
end
end Go.Proofs.Ytngghjhmfpmilaa
