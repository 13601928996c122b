/- The program's struct types nat.Nat, integer.Int, rat.Rat: their shapes, parts, zeros; how a function's walk begins and ends. -/
import Derived.Test.YtngghjhmfpmilaaFast
import Derived.Test.YtngghjhmfpmilaaInteger
namespace Go.Proofs.Ytngghjhmfpmilaa
open Go.RowKit

theorem hMix : Try.prog.follows .mixedOrders = true := by kernel_rfl
/-! short names for what stands in a frame -/
abbrev u : Value := undef
abbrev us (n : Nat) : List Value := List.replicate n undef
abbrev pt (b : Nat) : Value := .pointer (some ⟨b, 0, none⟩)
abbrev It (n : Nat) : Value := .int .i64 (n : Int)
abbrev Ut (n : Nat) : Value := .int .u64 (n : Int)
section
variable {ops : Array Oper} {Q : Exit → Act → World → Prop}
/-- a region of this program -/
theorem rg {w0 : World} {id : Nat} {draw : Bool} {l : List Value} {os : List Oper} (hQ : NoLook Q) (L : List (Tmp × MR)) (news lz kb : List Nat) (N n : Nat)
    (hst : StepsH Try.prog ops L news lz kb (fun t => l.getD t undef) w0 0 os L)
    (htl : ∀ w, Grow w0 w → ContsL L (fun vs l => ApartL w0 w vs news → wpListS Try.prog ops Q (Kept kb w) (os.drop n) ⟨l.toArray, []⟩ w) [] l w)
    (hops : ops = os.toArray := by rfl) (hn : L.length = n := by rfl) (hc : relOK .any ops n N lz = true := by kernel_rfl) (hw : newsOK n news lz = true := by kernel_rfl) (hd : dstOK ops L = true := by kernel_rfl) (hN : l.length = N := by rfl) : (Code.region id ops draw).wp Try.prog Q ⟨l.toArray, []⟩ w0 :=
  wp_region_fast L news lz kb N n hMix hops hn hc hw hd hN hQ hst htl
theorem nx {P : Program} {S : World → Prop} {K : Act → World → Prop} {a : Act} {w : World} (h : K a w) : wpListS P ops (Exit.then K Q) S [] a w := h
/-- the frame, written out -/
theorem fr {P : Program} {S : World → Prop} {rest : List Oper} {l : List Value} {ds : List Deferred} {w : World} (l' : List Value) (k : wpListS P ops Q S rest ⟨l'.toArray, ds⟩ w) (h : l = l' := by kernel_rfl) : wpListS P ops Q S rest ⟨l.toArray, ds⟩ w := h ▸ k
end
theorem aggNat : Agg Try.prog 31 1 := ⟨⟨_, Try.underlying31, rfl⟩, by kernel_rfl⟩
theorem aggInt : Agg Try.prog 33 2 := ⟨⟨_, Try.underlying33, rfl⟩, by kernel_rfl⟩
theorem aggRat : Agg Try.prog 35 3 := ⟨⟨_, Try.underlying35, rfl⟩, by kernel_rfl⟩
theorem oneBool : ∃ d, Try.prog.underlying 4 = some d ∧ d.isRow = false := ⟨_, Try.underlying4, rfl⟩
theorem oneInt : ∃ d, Try.prog.underlying 3 = some d ∧ d.isRow = false := ⟨_, Try.underlying3, rfl⟩
theorem zeroNat : (Try.prog.info? 31).map (·.zero) = some (some (.agg #[.slice none 0 0])) := by kernel_rfl
theorem zeroInt : (Try.prog.info? 33).map (·.zero) = some (some (.agg #[.bool false, .slice none 0 0])) := by kernel_rfl
theorem zeroRat : (Try.prog.info? 35).map (·.zero) = some (some (.agg #[.bool false, .slice none 0 0, .slice none 0 0])) := by kernel_rfl
theorem fldInt0 : FieldAt Try.prog 33 0 0 := fieldAt_of Try.underlying33 rfl rfl (by kernel_rfl)
theorem fldInt1 : FieldAt Try.prog 33 1 1 := fieldAt_of Try.underlying33 rfl rfl (by kernel_rfl)
theorem fldRat0 : FieldAt Try.prog 35 0 0 := fieldAt_of Try.underlying35 rfl rfl (by kernel_rfl)
theorem fldRat1 : FieldAt Try.prog 35 1 2 := fieldAt_of Try.underlying35 rfl rfl (by kernel_rfl)
theorem fldNat0 : FieldAt Try.prog 31 0 0 := fieldAt_of Try.underlying31 rfl rfl (by kernel_rfl)
theorem shNat (x : Nat) : Shape (.nat x) 1 := fun {w v} h => by
  obtain ⟨A, c, rfl, _⟩ : NatAt _ w v x := h
  exact ⟨_, rfl, rfl, by simp [Value.oneCell']⟩
theorem shInt (z : Int) : Shape (.int z) 2 := fun {w v} h => by
  obtain ⟨b, A, n, c, rfl⟩ := IntAt.form (show IntAt _ w v z from h)
  exact ⟨_, rfl, rfl, by simp [Value.oneCell']⟩
theorem shRat (q : Rat) : Shape (.rat q) 3 := fun {w v} h => by
  obtain ⟨b, A, n, c, A', n', c', rfl⟩ := RatAt.form (show RatAt _ w v q from h)
  exact ⟨_, rfl, rfl, by simp [Value.oneCell']⟩
theorem paIntBelow (z : Int) : Part1 (.int z) 0 (.eq (.bool (decide (z < 0)))) := fun {w v} h => by
  obtain ⟨s, rfl, _⟩ : IntAt _ w v z := h
  exact ⟨_, _, rfl, rfl, rfl⟩
theorem paIntAbs (z : Int) : Part (.int z) 1 1 (.nat z.natAbs) := fun {w v} h => by
  obtain ⟨s, rfl, h1⟩ : IntAt _ w v z := h
  exact ⟨_, rfl, Nat.le_refl _, h1⟩
theorem paRatNum (q : Rat) : Part (.rat q) 0 2 (.int q.num) := fun {w v} h => by
  obtain ⟨s, t, rfl, h1, h2⟩ : RatAt _ w v q := h
  exact ⟨_, rfl, by simp, ⟨s, rfl, h1⟩⟩
theorem paRatDen (q : Rat) : Part (.rat q) 2 1 (.nat (denW q)) := fun {w v} h => by
  obtain ⟨s, t, rfl, h1, h2⟩ : RatAt _ w v q := h
  exact ⟨_, rfl, Nat.le_refl _, h2⟩
theorem zNat (w : World) : (MR.nat 0).R w (.agg #[.slice none 0 0]) := NatAt.zero _ w
theorem zInt (w : World) : (MR.int 0).R w (.agg #[.bool false, .slice none 0 0]) := ⟨_, rfl, NatAt.zero _ w⟩
theorem zRat (w : World) : (MR.rat 0).R w (.agg #[.bool false, .slice none 0 0, .slice none 0 0]) := ⟨_, _, rfl, NatAt.zero _ w, NatAt.zero _ w⟩
/-- a rat.Rat of two parts -/
theorem ratOf {w : World} {q : Rat} {cs ds : Array Value} (hn : (MR.int q.num).R w (.agg cs)) (hd : (MR.nat (denW q)).R w (.agg ds)) : (MR.rat q).R w (.agg (cs ++ ds)) := by
  obtain ⟨s, e, h1⟩ : IntAt _ w (.agg cs) q.num := hn
  obtain ⟨A, c, e2, h2⟩ : NatAt _ w (.agg ds) (denW q) := hd
  simp only [Value.agg.injEq] at e e2
  subst e
  subst e2
  exact ⟨s, _, rfl, h1, ⟨A, c, rfl, h2⟩⟩

/-- it returns what is in R, and memory has grown -/
def Ret (R : MR) (w : World) (e : Ending) (w' : World) : Prop := ∃ v, e = .returned v ∧ Grow w w' ∧ R.R w' v
theorem Ret.imp {R R' : MR} {w w' : World} {e : Ending} (h : Ret R w e w') (k : ∀ w v, R.R w v → R'.R w v) : Ret R' w e w' := by
  obtain ⟨v, h1, h2, h3⟩ := h
  exact ⟨v, h1, h2, k _ _ h3⟩
theorem calls_enter {P : Program} {f : FuncId} {fn : Func} {c : Code} {args : Array Value} {w : World} {R : Ending → World → Prop} {a : Act} (hf : P.funcs[f]? = some fn) (hb : fn.body = some c)
    (ha : ({ tmps := args ++ Array.replicate (fn.ntmps - args.size) undef, defers := [] } : Act) = a) (h : c.wp P (bodyPost P fn R) a w) : Calls P f args w R := by
  subst ha
  exact calls_of_wp hf hb h
theorem callable_of {P : Program} {f : FuncId} {fn : Func} {c : Code} (hf : P.funcs[f]? = some fn) (hb : fn.body = some c) (hn : (fn.name == "runtime.NumGoroutine") = false) : Callable P f := ⟨fn, hf, by simpa using hn, by rw [hb]; exact fun e => by cases e⟩
section
variable {P : Program} {fn : Func} {w0 w : World} {a : Act} {R R' : MR} {T T' U U' : TypeId} {b b' n n' s t u : Nat}
theorem run_asAddr (b k : Nat) : (asAddr (.pointer (some ⟨b, k, none⟩))).run P w = .ok ⟨b, k, none⟩ w := rfl
theorem resCell (hs : a.tmps.getD s undef = .pointer (some ⟨b, 0, none⟩)) (hT : Agg P T n) (hB : Box w b T' R) (hS : Shape R n) :
    ∃ v, (asAddr ((a.tmps[s]?).getD undef)).run P w = .ok ⟨b, 0, none⟩ w ∧ (loadVar T ⟨b, 0, none⟩).run P w = .ok v w ∧ R.R w v := by
  obtain ⟨v, hv, hR⟩ := load_box hT hB hS
  rw [getD_get] at hs
  exact ⟨v, by rw [hs]; rfl, hv, hR⟩
theorem body_cell (hr : fn.results = #[.cell s T]) (hs : a.tmps.getD s undef = .pointer (some ⟨b, 0, none⟩)) (hT : Agg P T n) (hB : Box w b T' R) (hS : Shape R n) (hd : a.defers = []) (hW : Grow w0 w) :
    bodyPost P fn (Ret R w0) .ret a w := by
  obtain ⟨v, ha, hv, hR⟩ := resCell (a := a) hs hT hB hS
  refine bodyPost_ret (v := v) ?_ hd ⟨v, rfl, hW, hR⟩
  unfold results
  rw [hr]
  simp [ha, hv]
theorem body_slot (hr : fn.results = #[.tmp s]) (hR : R.R w (a.tmps.getD s undef)) (hd : a.defers = []) (hW : Grow w0 w) : bodyPost P fn (Ret R w0) .ret a w := by
  refine bodyPost_ret (v := a.tmps.getD s undef) ?_ hd ⟨_, rfl, hW, hR⟩
  unfold results
  rw [hr]
  simp
theorem body_cell_slot (hr : fn.results = #[.cell s T, .tmp t]) (hs : a.tmps.getD s undef = .pointer (some ⟨b, 0, none⟩)) (hT : Agg P T n) (hB : Box w b T' R) (hS : Shape R n) (hR' : R'.R w (a.tmps.getD t undef)) (hd : a.defers = []) (hW : Grow w0 w) :
    bodyPost P fn (Ret (.tup2 R R') w0) .ret a w := by
  obtain ⟨v, ha, hv, hR⟩ := resCell (a := a) hs hT hB hS
  refine bodyPost_ret (v := .tuple #[v, a.tmps.getD t undef]) ?_ hd ⟨_, rfl, hW, v, _, rfl, hR, hR'⟩
  unfold results
  rw [hr]
  simp [ha, hv]
theorem body_cell2 (hr : fn.results = #[.cell s T, .cell t U]) (hs : a.tmps.getD s undef = .pointer (some ⟨b, 0, none⟩)) (hT : Agg P T n) (hB : Box w b T' R) (hS : Shape R n)
    (ht : a.tmps.getD t undef = .pointer (some ⟨b', 0, none⟩)) (hU : Agg P U n') (hB' : Box w b' U' R') (hS' : Shape R' n') (hd : a.defers = []) (hW : Grow w0 w) : bodyPost P fn (Ret (.tup2 R R') w0) .ret a w := by
  obtain ⟨v, ha, hv, hR⟩ := resCell (a := a) hs hT hB hS
  obtain ⟨v', ha', hv', hR'⟩ := resCell (a := a) ht hU hB' hS'
  refine bodyPost_ret (v := .tuple #[v, v']) ?_ hd ⟨_, rfl, hW, v, v', rfl, hR, hR'⟩
  unfold results
  rw [hr]
  simp [ha, hv, ha', hv']
theorem body_cell2_slot {R'' : MR} (hr : fn.results = #[.cell s T, .cell t U, .tmp u]) (hs : a.tmps.getD s undef = .pointer (some ⟨b, 0, none⟩)) (hT : Agg P T n) (hB : Box w b T' R) (hS : Shape R n)
    (ht : a.tmps.getD t undef = .pointer (some ⟨b', 0, none⟩)) (hU : Agg P U n') (hB' : Box w b' U' R') (hS' : Shape R' n') (hR'' : R''.R w (a.tmps.getD u undef)) (hd : a.defers = []) (hW : Grow w0 w) : bodyPost P fn (Ret (.tup3 R R' R'') w0) .ret a w := by
  obtain ⟨v, ha, hv, hR⟩ := resCell (a := a) hs hT hB hS
  obtain ⟨v', ha', hv', hR'⟩ := resCell (a := a) ht hU hB' hS'
  refine bodyPost_ret (v := .tuple #[v, v', a.tmps.getD u undef]) ?_ hd ⟨_, rfl, hW, v, v', _, rfl, hR, hR', hR''⟩
  unfold results
  rw [hr]
  simp [ha, hv, ha', hv']
end

theorem cNew {b : Bool} {v : Value} {x : Nat} {w : World} (h : (MR.nat x).R w v) : Calls Try.prog 54 #[.bool b, v] w (Ret (.int (signed b x)) w) :=
  (iNew (fun _ => False) b v x w h).mono fun _ _ ⟨v', e, h1, h2⟩ => ⟨v', e, h2, h1⟩
theorem cZero {v : Value} {x : Nat} {w : World} (h : (MR.nat x).R w v) : Calls Try.prog 82 #[v] w (Ret (.eq (.bool (decide (x = 0)))) w) :=
  (nZero (fun _ => False) v x w h).mono fun _ _ ⟨e, h2⟩ => ⟨_, e, h2, rfl⟩
end Go.Proofs.Ytngghjhmfpmilaa
