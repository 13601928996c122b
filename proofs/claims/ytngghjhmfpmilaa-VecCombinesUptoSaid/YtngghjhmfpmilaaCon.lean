/- What package nat's functions return, as relations. -/
import Derived.Test.YtngghjhmfpmilaaType
import Derived.Test.YtngghjhmfpmilaaNshr
import Derived.Test.YtngghjhmfpmilaaNsub
import Derived.Test.YtngghjhmfpmilaaNadd
namespace Go.Proofs.Ytngghjhmfpmilaa
open Go.RowKit
theorem lows0 (w : World) : Lows (fun _ => False) w := fun _ h => h.elim
/-- a row of words that was typed -/
def MR.lits (l : List Nat) : MR := ⟨fun w v => ∃ g, v = .slice (some ⟨g, 0, none⟩) l.length l.length ∧ USlice (fun _ => False) w (some ⟨g, 0, none⟩) l.length (fun i => l.getD i 0), fun h ⟨g, e, k⟩ => ⟨g, e, k.keep (Keeps.of_below h)⟩⟩
theorem run_lit {w : World} {k : Nat} : (Instr.buildSlice 29 1 #[(0, .int .u64 (k : Nat))]).run Try.prog w = .ok (.slice (some ⟨w.heap.size, 0, none⟩) 1 1) (w.alloc (.cells #[.int .u64 (k : Nat)] 105)) := by
  obtain ⟨i0, hi0, hz0, hz1, hz2⟩ := infoParts u64Info
  simp [Instr.buildSlice, Sem.run_bind, run_underlying Try.underlying29 w, sizeOf, zeroValue, typeInfo, hi0, hz0, hz1, newRow, Instr.fill, Value.cells]
  rw [show Array.range 1 = #[0] from by decide]
  simp
theorem yld_lit {o : Oper} {ρ : Operand → Value} {w : World} {x : Operand} {k : Nat} (h : o.op = .buildSlice 29 1 #[(0, x)]) (hx : ρ x = .int .u64 (k : Nat)) : Yld Try.prog o ρ w (fun v w' => Grow w w' ∧ (MR.lits [k]).R w' v) := by
  unfold Yld execOp
  rw [h]
  have e : (#[(0, x)] : Array (Nat × Operand)).map (fun (i, x) => (i, ρ x)) = #[(0, .int .u64 (k : Nat))] := by simp [hx]
  simp only [e, Sem.run_bind, run_lit, Result.andThen_ok]
  refine ⟨(Grow.refl w).alloc _, w.heap.size, rfl, fun i hi => ?_⟩
  obtain rfl : i = 0 := by simp at hi; omega
  have hb := Blk.new w 105 #[.int .u64 (k : Nat)]
  exact ⟨w.heap.size, 0, rfl, id, hb.lt, by rw [hb.cell]; rfl⟩
theorem cNatOf1 {v : Value} {k : Nat} {w : World} (h : (MR.lits [k]).R w v) (hk : k < 18446744073709551616) : Calls Try.prog 87 #[v] w (Ret (.nat k) w) := by
  obtain ⟨g, rfl, hs⟩ := h
  have e : val (fun i => [k].getD i 0) 1 = k := by simp [val]
  have := nOf (fun _ => False) (some ⟨g, 0, none⟩) 1 1 (fun i => [k].getD i 0) w (lows0 w) hs (fun i hi => by obtain rfl : i = 0 := (by omega); exact hk) (by omega) (fun e => by cases e)
  rw [e] at this
  exact this.mono fun _ _ ⟨v, e, h1, h2⟩ => ⟨v, e, h2, h1⟩
section
variable {va vb : Value} {x y : Nat} {w : World}
theorem cNatAdd (ha : (MR.nat x).R w va) (hb : (MR.nat y).R w vb) (hs : Small (x + y)) : Calls Try.prog 76 #[va, vb] w (Ret (.nat (x + y)) w) :=
  (nAdd (fun _ => False) va vb x y w (lows0 w) ha hb hs).mono fun _ _ ⟨v, e, h1, h2⟩ => ⟨v, e, h2, h1⟩
theorem cNatSub (ha : (MR.nat x).R w va) (hb : (MR.nat y).R w vb) : Calls Try.prog 77 #[va, vb] w (Ret (.tup2 (.nat (x - y)) (.eq (.bool (decide (y ≤ x))))) w) := by
  by_cases h : y ≤ x
  · exact (nSub_yes (fun _ => False) va vb x y w (lows0 w) ha hb h).mono fun _ _ ⟨v, e, h1, h2⟩ => ⟨_, e, h2, v, _, rfl, h1, by rw [decide_eq_true h]; rfl⟩
  · exact (nSub_no (fun _ => False) va vb x y w ha hb (by omega)).mono fun _ _ ⟨e, h2⟩ => ⟨_, e, h2, _, _, rfl, by rw [show x - y = 0 by omega]; exact zNat _, by rw [decide_eq_false h]; rfl⟩
theorem cNatCmp (ha : (MR.nat x).R w va) (hb : (MR.nat y).R w vb) : Calls Try.prog 75 #[va, vb] w (Ret (.eq (.int .i64 (cmpV x y))) w) :=
  (nCmp (fun _ => False) va vb x y w ha hb).mono fun _ _ ⟨e, h2⟩ => ⟨_, e, h2, rfl⟩
theorem cNatLen (ha : (MR.nat x).R w va) : Calls Try.prog 83 #[va] w (Ret (.eq (.int .i64 (nw x))) w) :=
  (nLen (fun _ => False) va x w ha).mono fun _ _ ⟨e, h2⟩ => ⟨_, e, h2, rfl⟩
theorem cNatBits (ha : (MR.nat x).R w va) : Calls Try.prog 88 #[va] w (Ret (.eq (.int .i64 (Wd.blen x))) w) :=
  (nBits (fun _ => False) va x w ha).mono fun _ _ ⟨e, h2⟩ => ⟨_, e, h2, rfl⟩
theorem cNatUint (ha : (MR.nat x).R w va) : Calls Try.prog 97 #[va] w (Ret (.tup2 (.eq (.int .u64 (uintV x))) (.eq (.bool (uintOk x)))) w) :=
  (nUint (fun _ => False) va x w ha).mono fun _ _ ⟨e, h2⟩ => ⟨_, e, h2, _, _, rfl, rfl, rfl⟩
theorem cNatZero (ha : (MR.nat x).R w va) : Calls Try.prog 82 #[va] w (Ret (.eq (.bool (decide (x = 0)))) w) :=
  (nZero (fun _ => False) va x w ha).mono fun _ _ ⟨e, h2⟩ => ⟨_, e, h2, rfl⟩
end
end Go.Proofs.Ytngghjhmfpmilaa
