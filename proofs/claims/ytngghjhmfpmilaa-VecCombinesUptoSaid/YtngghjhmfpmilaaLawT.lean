/- What is handed in to the laws (actuarylaw07.Whole, actuarylaw08.Part), slices of words that are looked at. -/
import Derived.Test.YtngghjhmfpmilaaRow64
import Derived.Test.YtngghjhmfpmilaaRatB
namespace Go.Proofs.Ytngghjhmfpmilaa
open Go.RowKit
/-- words that were there ahead of block B -/
def MR.inw (B : Nat) (f : Nat → Nat) (n : Nat) : MR := ⟨fun w v => ∃ A c, v = .slice A n c ∧ USlice (fun k => B ≤ k) w A n f ∧ Nilled A n c, fun h ⟨A, c, e, k, r⟩ => ⟨A, c, e, k.keep (Keeps.of_below h), r⟩⟩
def MR.whole (B : Nat) (b : Bool) (f : Nat → Nat) (n : Nat) : MR := ⟨fun w v => ∃ A c, v = .agg #[.bool b, .slice A n c] ∧ (MR.inw B f n).R w (.slice A n c), fun h ⟨A, c, e, k⟩ => ⟨A, c, e, MR.mono _ h k⟩⟩
def MR.part (B : Nat) (b : Bool) (f : Nat → Nat) (n : Nat) (g : Nat → Nat) (m : Nat) : MR := ⟨fun w v => ∃ A c A' c', v = .agg #[.bool b, .slice A n c, .slice A' m c'] ∧ (MR.inw B f n).R w (.slice A n c) ∧ (MR.inw B g m).R w (.slice A' m c'), fun h ⟨A, c, A', c', e, k, k'⟩ => ⟨A, c, A', c', e, MR.mono _ h k, MR.mono _ h k'⟩⟩
theorem St.inw {B C : Nat} (h : B ≤ C) {f : Nat → Nat} {n : Nat} : St C (.inw B f n) := fun {w w' v} e ⟨A, c, ev, k, r⟩ => ⟨A, c, ev, fun i hi => by
  obtain ⟨g, o, ea, hf, hl, hc⟩ := k i hi
  have hg : g < C := by omega
  exact ⟨g, o, ea, hf, Nat.lt_of_lt_of_le hl e.1, (World.cell?_of_block (w := w) (e.2.2 g hg)).trans hc⟩, r⟩
theorem St.whole {B C : Nat} (h : B ≤ C) {b : Bool} {f : Nat → Nat} {n : Nat} : St C (.whole B b f n) := fun e ⟨A, c, ev, k⟩ => ⟨A, c, ev, St.inw h e k⟩
theorem St.part {B C : Nat} (h : B ≤ C) {b : Bool} {f g : Nat → Nat} {n m : Nat} : St C (.part B b f n g m) := fun e ⟨A, c, A', c', ev, k, k'⟩ => ⟨A, c, A', c', ev, St.inw h e k, St.inw h e k'⟩
section
variable {B : Nat} {b : Bool} {f g : Nat → Nat} {n m : Nat}
theorem shWhole : Shape (.whole B b f n) 2 := fun {w v} h => by
  obtain ⟨A, c, rfl, _⟩ := h
  exact ⟨_, rfl, rfl, by simp [Value.oneCell']⟩
theorem shPart : Shape (.part B b f n g m) 3 := fun {w v} h => by
  obtain ⟨A, c, A', c', rfl, _⟩ := h
  exact ⟨_, rfl, rfl, by simp [Value.oneCell']⟩
theorem paWholeBelow : Part1 (.whole B b f n) 0 (.eq (.bool b)) := fun {w v} h => by
  obtain ⟨A, c, rfl, _⟩ := h
  exact ⟨_, _, rfl, rfl, rfl⟩
theorem paWholeWords : Part1 (.whole B b f n) 1 (.inw B f n) := fun {w v} h => by
  obtain ⟨A, c, rfl, k⟩ := h
  exact ⟨_, _, rfl, rfl, k⟩
theorem paPartP : Part (.part B b f n g m) 0 2 (.whole B b f n) := fun {w v} h => by
  obtain ⟨A, c, A', c', rfl, k, _⟩ := h
  exact ⟨_, rfl, by simp, A, c, rfl, k⟩
theorem paPartD : Part1 (.part B b f n g m) 2 (.inw B g m) := fun {w v} h => by
  obtain ⟨A, c, A', c', rfl, _, k⟩ := h
  exact ⟨_, _, rfl, rfl, k⟩
end
theorem oneU64s : ∃ d, Try.prog.underlying 29 = some d ∧ d.isRow = false := ⟨_, Try.underlying29, rfl⟩
theorem cNatOfIn {B : Nat} {f : Nat → Nat} {n : Nat} {va : Value} {w : World} (h : (MR.inw B f n).R w va) (hw : Wf f n) (hn : n ≤ 1099511627776) : Calls Try.prog 87 #[va] w (Ret (.nat (val f n)) w) := by
  obtain ⟨A, c, rfl, h1, h2⟩ := h
  exact (nOf (fun _ => False) A n c f w (lows0 w) (h1.own fun _ h => h.elim) hw hn h2).mono fun _ _ ⟨v, e, h1, h2⟩ => ⟨v, e, h2, h1⟩
/-- a pointer to a word -/
def MR.wptr (t : Nat) : MR := ⟨fun w v => ∃ g o, v = .pointer (some ⟨g, o, none⟩) ∧ g < w.heap.size ∧ w.cell? ⟨g, o, none⟩ = some (.int .u64 (t : Nat)), fun h ⟨g, o, e, hl, k⟩ => ⟨g, o, e, Nat.lt_of_lt_of_le hl h.size, (h.cell (p := ⟨g, o, none⟩) hl).trans k⟩⟩
section
variable {o : Oper} {ρ : Operand → Value} {w : World} {x y : Operand} {f : Nat → Nat} {n k : Nat}
theorem yld_index {F : Nat → Prop} {A : Option Addr} {c : Nat} (h : o.op = .indexAddr 29 x y) (hx : ρ x = .slice A n c) (hS : USlice F w A n f) (hy : ρ y = .int .i64 ((k : Nat) : Int)) (hk : k < n) : Yld Try.prog o ρ w (fun v w' => Grow w w' ∧ (MR.wptr (f k)).R w' v) := by
  obtain ⟨g, oo, rfl, _, hl, hc⟩ := hS k hk
  obtain ⟨i0, hi0, _, hz1, _⟩ := infoParts u64Info
  have hrun : (execOp ρ o).run Try.prog w = .ok (.value (.pointer (some ⟨g, oo + k, none⟩))) w := by
    unfold execOp
    rw [h]
    have h1 : (0 : Int) ≤ (k : Int) ∧ (k : Int) < (n : Int) := by omega
    simp [Instr.indexAt, hx, hy, asIntOf, run_underlying Try.underlying29, sizeOf, typeInfo, hi0, hz1, hk, add_plain]
  exact yld_val hrun ⟨Grow.refl _, g, oo + k, rfl, hl, hc⟩
theorem yld_indexU (h : o.op = .indexAddr 29 x y) (hx : (MR.uns f n).R w (ρ x)) (hy : ρ y = .int .i64 ((k : Nat) : Int)) (hk : k < n) : Yld Try.prog o ρ w (fun v w' => Grow w w' ∧ (MR.wptr (f k)).R w' v) := by
  obtain ⟨A, c, e, hS, _⟩ := hx
  exact yld_index h e hS hy hk
theorem yld_indexL {l : List Nat} (h : o.op = .indexAddr 29 x y) (hx : (MR.lits l).R w (ρ x)) (hy : ρ y = .int .i64 ((k : Nat) : Int)) (hk : k < l.length) : Yld Try.prog o ρ w (fun v w' => Grow w w' ∧ (MR.wptr (l.getD k 0)).R w' v) := by
  obtain ⟨g, e, hS⟩ := hx
  exact yld_index (f := fun i => l.getD i 0) h e hS hy hk
theorem yld_loadW {t : Nat} (h : o.op = .load 105 x) (hx : (MR.wptr t).R w (ρ x)) : Yld Try.prog o ρ w (fun v w' => Grow w w' ∧ (MR.eq (.int .u64 (t : Nat))).R w' v) := by
  obtain ⟨g, oo, e, hl, hc⟩ := hx
  have hagg : (isAgg 105).run Try.prog w = .ok false w := by
    unfold isAgg
    rw [Sem.run_bind, run_underlying Try.underlying105 w]
    rfl
  exact yld_load (v := .int .u64 (t : Nat)) h (by rw [e]; simp [Instr.loadAt, Instr.sureAddr, loadVar, Sem.run_bind, hagg, hc]) ⟨Grow.refl _, rfl⟩
theorem yld_len {T E : TypeId} {P : Program} {Φ : Value → World → Prop} {A : Option Addr} {c : Nat} (hT : P.underlying T = some (.slice E)) (h : o.op = .call { callee := .builtin .len, args := #[x], argTypes := #[T] }) (hx : ρ x = .slice A n c) (K : Φ (.int .i64 (n : Nat)) w) : Yld P o ρ w Φ :=
  yld_val (v := .int .i64 (n : Nat)) (by unfold execOp; rw [h]; simp [resolve, invoke, builtin, hx, Builtin.len_, run_underlying hT, goInt]) K
theorem yld_lenU (h : o.op = .call { callee := .builtin .len, args := #[x], argTypes := #[29] }) (hx : (MR.uns f n).R w (ρ x)) : Yld Try.prog o ρ w (fun v w' => Grow w w' ∧ (MR.eq (.int .i64 (n : Nat))).R w' v) := by
  obtain ⟨A, c, e, _⟩ := hx
  exact yld_len Try.underlying29 h e ⟨Grow.refl _, rfl⟩
theorem yld_lenL {l : List Nat} (h : o.op = .call { callee := .builtin .len, args := #[x], argTypes := #[29] }) (hx : (MR.lits l).R w (ρ x)) : Yld Try.prog o ρ w (fun v w' => Grow w w' ∧ (MR.eq (.int .i64 (l.length : Nat))).R w' v) := by
  obtain ⟨g, e, _⟩ := hx
  exact yld_len Try.underlying29 h e ⟨Grow.refl _, rfl⟩
end
theorem natAbs_signed (b : Bool) (x : Nat) : (signed b x).natAbs = x := by unfold signed; split <;> omega
theorem signed_small {b : Bool} {x : Nat} (h : nw x < 1099511627776) : nw (signed b x).natAbs < 1099511627776 := by rw [natAbs_signed]; exact h
/-- the fraction that is handed in -/
def partQ (b : Bool) (f : Nat → Nat) (n : Nat) (g : Nat → Nat) (m : Nat) : Rat := Rat.divInt (signed b (val f n)) ((if val g m = 0 then 1 else val g m : Nat) : Int)
theorem szq_part {b : Bool} {f : Nat → Nat} {n : Nat} {g : Nat → Nat} {m : Nat} (hwf : Wf f n) (hwg : Wf g m) : szq (partQ b f n g m) ≤ n + m + 1 := by
  unfold partQ
  have h1 := nw_val f n hwf
  have h2 := nw_val g m hwg
  have h3 : nw 1 ≤ 1 := by decide
  split
  · have h := szq_divInt (signed b (val f n)) ((1 : Nat) : Int) (by decide)
    rw [natAbs_signed, Int.natAbs_natCast] at h
    omega
  · have h := szq_divInt (signed b (val f n)) ((val g m : Nat) : Int) (by omega)
    rw [natAbs_signed, Int.natAbs_natCast] at h
    omega
/-! bounds for the sizes of numbers -/
theorem sb_add {p q : Rat} {a b : Nat} (hp : szq p ≤ a) (hq : szq q ≤ b) : szq (p + q) ≤ 2 * (a + b) + 1 := by have := szq_add p q; omega
theorem sb_sub {p q : Rat} {a b : Nat} (hp : szq p ≤ a) (hq : szq q ≤ b) : szq (p - q) ≤ 2 * (a + b) + 1 := by
  rw [Rat.sub_eq_add_neg]
  exact sb_add hp (by rw [szq_neg]; exact hq)
theorem sb_mul {p q : Rat} {a b : Nat} (hp : szq p ≤ a) (hq : szq q ≤ b) : szq (p * q) ≤ a + b := by have := szq_mul p q; omega
theorem sb_neg {p : Rat} {a : Nat} (hp : szq p ≤ a) : szq (-p) ≤ a := by rw [szq_neg]; exact hp
theorem sb_inv {p : Rat} {a : Nat} (hp : szq p ≤ a) : szq p⁻¹ ≤ a + 1 := by have := szq_inv p; omega
theorem sb_div {p q : Rat} {a b : Nat} (hp : szq p ≤ a) (hq : szq q ≤ b) : szq (p / q) ≤ a + b + 1 := by
  rw [Rat.div_def]
  have := sb_mul hp (sb_inv hq)
  omega
theorem sb_ite {c : Prop} [Decidable c] {p q : Rat} {a b : Nat} (hp : szq p ≤ a) (hq : szq q ≤ b) : szq (if c then p else q) ≤ a + b := by
  split <;> omega
theorem sb_abs {p : Rat} {a : Nat} (hp : szq p ≤ a) : szq (absQ p) ≤ a := by
  unfold absQ
  split
  · exact sb_neg hp
  · exact hp
theorem sb_whole (z : Int) {a : Nat} (h : nw z.natAbs ≤ a) : szq ((z : Int) : Rat) ≤ a + 1 := by
  unfold szq
  rw [Rat.num_intCast, Rat.den_intCast]
  have : nw 1 ≤ 1 := by decide
  omega
theorem sb_int {x : Int} (h1 : -9223372036854775808 ≤ x) (h2 : x < 9223372036854775808) : szq ((x : Int) : Rat) ≤ 2 := sb_whole x (nw_le_of (k := 1) (by omega))
theorem floor_le (q : Rat) : q.floor.natAbs ≤ q.num.natAbs := by
  rw [← floor_fdiv, Int.fdiv_eq_ediv_of_nonneg _ (by omega)]
  exact Int.natAbs_ediv_le_natAbs _ _
theorem sb_floor {q : Rat} {a : Nat} (h : szq q ≤ a) : szq ((q.floor : Int) : Rat) ≤ a + 1 := sb_whole _ (by
  have h1 := nw_mono' (floor_le q)
  have h2 := szq_num q
  omega)
theorem sb_ceil {q : Rat} {a : Nat} (h : szq q ≤ a) : szq ((-(-q).floor : Int) : Rat) ≤ a + 1 := sb_whole _ (by
  rw [Int.natAbs_neg]
  have h1 := nw_mono' (floor_le (-q))
  have h2 := szq_num (-q)
  rw [szq_neg] at h2
  omega)
theorem sz2 {p q : Rat} {a b c : Nat} (hp : szq p ≤ a) (hq : szq q ≤ b) (h : a + b ≤ c) : szq p + szq q ≤ c := by omega
theorem szd {p q : Rat} {a b c : Nat} (hp : szq p ≤ a) (hq : szq q ≤ b) (h : a + b + 1 ≤ c) : szq p + szq q + 1 ≤ c := by omega
theorem sz1 {p : Rat} {a c : Nat} (hp : szq p ≤ a) (h : a ≤ c) : szq p ≤ c := by omega
end Go.Proofs.Ytngghjhmfpmilaa
