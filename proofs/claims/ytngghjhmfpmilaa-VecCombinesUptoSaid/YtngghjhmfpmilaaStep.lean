/- One operation after the other, and a whole region. -/
import Derived.Test.YtngghjhmfpmilaaBox
namespace Go.Proofs.Ytngghjhmfpmilaa
open Go.RowKit

section
variable {P : Program} {ops : Array Oper} {Q : Exit → Act → World → Prop} {ρ : Operand → Value} {w : World} {o : Oper} {Φ : Value → World → Prop} {R R' : MR} {T T' : TypeId} {b n m off : Nat} {x y : Operand}
theorem yld_val {v : Value} (h : (execOp ρ o).run P w = .ok (.value v) w) (k : Φ v w) : Yld P o ρ w Φ := by
  unfold Yld; rw [h]; exact k
theorem yld_move (h : o.op = .move x) (k : Φ (ρ x) w) : Yld P o ρ w Φ := yld_val (by unfold execOp; rw [h]; rfl) k
theorem yld_assign (h : o.op = .assign x) (k : Φ (ρ x) w) : Yld P o ρ w Φ := yld_val (by unfold execOp; rw [h]; rfl) k
theorem pure_move (h : o.op = .move x) (w : World) : (execOp ρ o).run P w = .ok (.value (ρ x)) w := by unfold execOp; rw [h]; rfl
theorem pure_assign (h : o.op = .assign x) (w : World) : (execOp ρ o).run P w = .ok (.value (ρ x)) w := by unfold execOp; rw [h]; rfl
theorem yld_pick {c : Operand} {t : Bool} (h : o.op = .pick c x y) (hc : ρ c = .bool t) (k : Φ (if t then ρ x else ρ y) w) : Yld P o ρ w Φ :=
  yld_val (v := if t then ρ x else ρ y) (by unfold execOp; rw [h]; simp only [hc]; cases t <;> simp [asBool]) k
theorem yld_pick_and {c : Operand} {t u : Bool} (h : o.op = .pick c x y) (hc : ρ c = .bool t) (hx : t = true → ρ x = .bool u) (hy : ρ y = .bool false) (k : Φ (.bool (t && u)) w) : Yld P o ρ w Φ :=
  yld_pick h hc (by cases t with
    | true => simpa [hx rfl] using k
    | false => simpa [hy] using k)
theorem yld_pick_or {c : Operand} {t u : Bool} (h : o.op = .pick c x y) (hc : ρ c = .bool t) (hx : ρ x = .bool true) (hy : t = false → ρ y = .bool u) (k : Φ (.bool (t || u)) w) : Yld P o ρ w Φ :=
  yld_pick h hc (by cases t with
    | true => simpa [hx] using k
    | false => simpa [hy rfl] using k)
theorem yld_not {t : TypeId} {c : Bool} (h : o.op = .unOp .not t x) (hx : ρ x = .bool c) (k : Φ (.bool !c) w) : Yld P o ρ w Φ :=
  yld_val (v := .bool !c) (by unfold execOp; rw [h]; simp only [hx]; rfl) k
theorem pure_extract {vs : Array Value} {i : Nat} {v : Value} (h : o.op = .extract x i) (hx : ρ x = .tuple vs) (hv : vs[i]? = some v) (w : World) : (execOp ρ o).run P w = .ok (.value v) w := by
  unfold execOp; rw [h]; simp only [hx, Instr.extract, hv]; rfl
theorem yld_extract {vs : Array Value} {i : Nat} {v : Value} (h : o.op = .extract x i) (hx : ρ x = .tuple vs) (hv : vs[i]? = some v) (k : Φ v w) : Yld P o ρ w Φ := yld_val (pure_extract h hx hv w) k
theorem run_cmp {op : BinOp} {t t' : TypeId} {k : IntKind} {p q : Int} (h : o.op = .binOp op t x y t') (hx : ρ x = .int k p) (hy : ρ y = .int k q) (hop : op ≠ .shl ∧ op ≠ .shr ∧ op ≠ .add ∧ op ≠ .sub ∧ op ≠ .mul ∧ op ≠ .quo ∧ op ≠ .rem ∧ op ≠ .and ∧ op ≠ .or ∧ op ≠ .xor ∧ op ≠ .andNot) :
    (execOp ρ o).run P w = ((Op.intCmp op p q).run P w).andThen fun v w => .ok (.value v) w := by
  unfold execOp
  rw [h]
  simp only [hx, hy]
  cases op <;> simp_all [eqGuard, binOp]
theorem yld_eql {t t' : TypeId} {k : IntKind} {p q : Int} (h : o.op = .binOp .eql t x y t') (hx : ρ x = .int k p) (hy : ρ y = .int k q) (K : Φ (.bool (p == q)) w) : Yld P o ρ w Φ :=
  yld_val (v := .bool (p == q)) (by rw [run_cmp h hx hy (by decide)]; rfl) K
theorem yld_neq {t t' : TypeId} {k : IntKind} {p q : Int} (h : o.op = .binOp .neq t x y t') (hx : ρ x = .int k p) (hy : ρ y = .int k q) (K : Φ (.bool (p != q)) w) : Yld P o ρ w Φ :=
  yld_val (v := .bool (p != q)) (by rw [run_cmp h hx hy (by decide)]; rfl) K
theorem yld_lss {t t' : TypeId} {k : IntKind} {p q : Int} (h : o.op = .binOp .lss t x y t') (hx : ρ x = .int k p) (hy : ρ y = .int k q) (K : Φ (.bool (decide (p < q))) w) : Yld P o ρ w Φ :=
  yld_val (v := .bool (decide (p < q))) (by rw [run_cmp h hx hy (by decide)]; rfl) K
theorem yld_leq {t t' : TypeId} {k : IntKind} {p q : Int} (h : o.op = .binOp .leq t x y t') (hx : ρ x = .int k p) (hy : ρ y = .int k q) (K : Φ (.bool (decide (p ≤ q))) w) : Yld P o ρ w Φ :=
  yld_val (v := .bool (decide (p ≤ q))) (by rw [run_cmp h hx hy (by decide)]; rfl) K
theorem yld_gtr {t t' : TypeId} {k : IntKind} {p q : Int} (h : o.op = .binOp .gtr t x y t') (hx : ρ x = .int k p) (hy : ρ y = .int k q) (K : Φ (.bool (decide (p > q))) w) : Yld P o ρ w Φ :=
  yld_val (v := .bool (decide (p > q))) (by rw [run_cmp h hx hy (by decide)]; rfl) K
theorem yld_geq {t t' : TypeId} {k : IntKind} {p q : Int} (h : o.op = .binOp .geq t x y t') (hx : ρ x = .int k p) (hy : ρ y = .int k q) (K : Φ (.bool (decide (p ≥ q))) w) : Yld P o ρ w Φ :=
  yld_val (v := .bool (decide (p ≥ q))) (by rw [run_cmp h hx hy (by decide)]; rfl) K
theorem guard_bool (op : BinOp) (t : TypeId) (x y : Operand) (p q : Bool) : eqGuard op t x y (.bool p) (.bool q) = pure () := by
  unfold eqGuard; split <;> rfl
theorem equal_bool {t : TypeId} {p q : Bool} (ht : P.underlying t = some .bool) : (Op.equal t (.bool p) (.bool q)).run P w = .ok (p == q) w := by
  have key : ∀ d, (Op.equalIn (d + 1) t (.bool p) (.bool q)).run P w = .ok (p == q) w := fun d => by
    rw [Op.equalIn]
    simp only [Sem.run_bind, run_underlying ht w, Result.andThen_ok, Sem.run_pure]
  exact key 9999
theorem yld_beq {t t' : TypeId} {p q : Bool} (h : o.op = .binOp .eql t x y t') (ht : P.underlying t = some .bool) (hx : ρ x = .bool p) (hy : ρ y = .bool q) (K : Φ (.bool (p == q)) w) : Yld P o ρ w Φ :=
  yld_val (v := .bool (p == q)) (by
    unfold execOp; rw [h]; simp only [hx, hy]
    show ((do eqGuard .eql t x y (.bool p) (.bool q); binOp .eql t (.bool p) (.bool q)) >>= fun v => pure (Next.value v) : Sem Next).run P w = _
    simp only [Sem.run_bind, guard_bool, Sem.run_pure, Result.andThen_ok]
    rw [show binOp .eql t (.bool p) (.bool q) = (do pure (.bool (← Op.equal t (.bool p) (.bool q)))) from rfl]
    simp only [Sem.run_bind, equal_bool ht, Result.andThen_ok, Sem.run_pure]) K
theorem yld_bneq {t t' : TypeId} {p q : Bool} (h : o.op = .binOp .neq t x y t') (ht : P.underlying t = some .bool) (hx : ρ x = .bool p) (hy : ρ y = .bool q) (K : Φ (.bool (p != q)) w) : Yld P o ρ w Φ :=
  yld_val (v := .bool (p != q)) (by
    unfold execOp; rw [h]; simp only [hx, hy]
    show ((do eqGuard .neq t x y (.bool p) (.bool q); binOp .neq t (.bool p) (.bool q)) >>= fun v => pure (Next.value v) : Sem Next).run P w = _
    simp only [Sem.run_bind, guard_bool, Sem.run_pure, Result.andThen_ok]
    rw [show binOp .neq t (.bool p) (.bool q) = (do pure (.bool (!(← Op.equal t (.bool p) (.bool q))))) from rfl]
    simp only [Sem.run_bind, equal_bool ht, Result.andThen_ok, Sem.run_pure]
    rfl) K
theorem run_arith {op : BinOp} {t t' : TypeId} {k : IntKind} {p q : Int} (h : o.op = .binOp op t x y t') (hx : ρ x = .int k p) (hy : ρ y = .int k q) (hop : op = .add ∨ op = .sub ∨ op = .mul) :
    (execOp ρ o).run P w = ((Op.intArith op k p q).run P w).andThen fun v w => .ok (.value v) w := by
  unfold execOp
  rw [h]
  simp only [hx, hy]
  rcases hop with rfl | rfl | rfl <;> simp [eqGuard, binOp]
theorem yld_add {t t' : TypeId} {k : IntKind} {p q : Int} (h : o.op = .binOp .add t x y t') (hx : ρ x = .int k p) (hy : ρ y = .int k q) {r : Int} (hr : k.wrap (p + q) = r) (K : Φ (.int k r) w) : Yld P o ρ w Φ :=
  yld_val (v := .int k r) (by rw [run_arith h hx hy (by simp), ← hr]; rfl) K
theorem yld_sub {t t' : TypeId} {k : IntKind} {p q : Int} (h : o.op = .binOp .sub t x y t') (hx : ρ x = .int k p) (hy : ρ y = .int k q) {r : Int} (hr : k.wrap (p - q) = r) (K : Φ (.int k r) w) : Yld P o ρ w Φ :=
  yld_val (v := .int k r) (by rw [run_arith h hx hy (by simp), ← hr]; rfl) K
theorem yld_mul {t t' : TypeId} {k : IntKind} {p q : Int} (h : o.op = .binOp .mul t x y t') (hx : ρ x = .int k p) (hy : ρ y = .int k q) {r : Int} (hr : k.wrap (p * q) = r) (K : Φ (.int k r) w) : Yld P o ρ w Φ :=
  yld_val (v := .int k r) (by rw [run_arith h hx hy (by simp), ← hr]; rfl) K
theorem yld_neg {t : TypeId} {k : IntKind} {p : Int} (h : o.op = .unOp .neg t x) (hx : ρ x = .int k p) {r : Int} (hr : k.wrap (0 - p) = r) (K : Φ (.int k r) w) : Yld P o ρ w Φ :=
  yld_val (v := .int k r) (by unfold execOp; rw [h, ← hr]; simp only [hx]; rfl) K
/-- field f of a struct of type T lies at offset off -/
def FieldAt (P : Program) (T : TypeId) (f off : Nat) : Prop := ∀ b k w, (Instr.fieldAt T (.pointer (some ⟨b, k, none⟩)) f).run P w = .ok (.pointer (some ⟨b, k + off, none⟩)) w
theorem fieldAt_of {fs : Array Field} {f : Nat} {fd : Field} (hu : P.underlying T = some (.struct fs)) (hf : fs[f]? = some fd) (ho : fd.offset = off) (hs0 : (((P.info? fd.type).map (·.size)).getD 0 == 0) = false) : FieldAt P T f off := by
  subst ho
  have hs : ((P.info? fd.type).map (·.size)).getD 0 ≠ 0 := by simpa using hs0
  intro b k w
  cases hi : P.info? fd.type with
  | none => rw [hi] at hs; exact absurd rfl hs
  | some i =>
    rw [hi] at hs
    have hs' : i.size ≠ 0 := hs
    simp only [Instr.fieldAt, Sem.run_bind, run_underlying hu w, Result.andThen_ok, hf, Instr.sureAddr, Sem.run_pure, fieldPlace, sizeOf, typeInfo, run_program, hi, hs', if_false]
    unfold Addr.add
    split <;> simp_all
theorem yld_fieldAddr {f : Nat} (h : o.op = .fieldAddr T x f) (hx : ρ x = .pointer (some ⟨b, m, none⟩)) (hf : FieldAt P T f off) (K : Φ (.pointer (some ⟨b, m + off, none⟩)) w) : Yld P o ρ w Φ :=
  yld_val (v := .pointer (some ⟨b, m + off, none⟩)) (by unfold execOp; rw [h]; simp only [hx, Sem.run_bind, hf b m w]; rfl) K
theorem yld_load {v : Value} (h : o.op = .load T x) (hv : (Instr.loadAt T (ρ x)).run P w = .ok v w) (K : Φ v w) : Yld P o ρ w Φ :=
  yld_val (by unfold execOp; rw [h]; simp only [Sem.run_bind, hv]; rfl) K
theorem yld_loadBox (h : o.op = .load T x) (hx : ρ x = .pointer (some ⟨b, 0, none⟩)) (hT : Agg P T n) (hB : Box w b T' R) (hs : Shape R n) : Yld P o ρ w (fun v w' => Grow w w' ∧ R.R w' v) := by
  obtain ⟨v, hv, hR⟩ := load_box hT hB hs
  exact yld_load h (by rw [hx]; exact hv) ⟨Grow.refl _, hR⟩
theorem yld_loadPart (h : o.op = .load T x) (hx : ρ x = .pointer (some ⟨b, off, none⟩)) (hT : Agg P T n) (hB : Box w b T' R) (hp : Part R off n R') : Yld P o ρ w (fun v w' => Grow w w' ∧ R'.R w' v) := by
  obtain ⟨v, hv, hR⟩ := load_part hT hB hp
  exact yld_load h (by rw [hx]; exact hv) ⟨Grow.refl _, hR⟩
theorem yld_loadOne (h : o.op = .load T x) (hx : ρ x = .pointer (some ⟨b, off, none⟩)) (hT : ∃ d, P.underlying T = some d ∧ d.isRow = false) (hB : Box w b T' R) (hp : Part1 R off R') : Yld P o ρ w (fun v w' => Grow w w' ∧ R'.R w' v) := by
  obtain ⟨v, hv, hR⟩ := load_one hT hB hp
  exact yld_load h (by rw [hx]; exact hv) ⟨Grow.refl _, hR⟩
/-- f is a function with a body -/
def Callable (P : Program) (f : FuncId) : Prop := ∃ fn, P.funcs[f]? = some fn ∧ fn.name ≠ "runtime.NumGoroutine" ∧ fn.body ≠ none
theorem yld_call {f : FuncId} {xs : List Operand} {ts : Array TypeId} (h : o.op = .call { callee := .value (.func f), args := xs.toArray, argTypes := ts }) (hf : Callable P f) (hρ : ρ (.func f) = .func (.func f) #[] #[])
    (K : Calls P f (xs.map ρ).toArray w fun e w' => ∃ v, e = .returned v ∧ Φ v w') : Yld P o ρ w Φ := by
  obtain ⟨fn, hfn, hn, hb⟩ := hf
  have hrun : (execOp ρ o).run P w = .ok (.enter f (xs.map ρ).toArray) w := by
    unfold execOp
    rw [h]
    simp [resolve, hρ, Deferred.ofValue, invoke, callFunc, Sem.run_bind, hfn, hn, hb]
  unfold Yld
  rw [hrun]
  exact K
theorem yld_alloc {z : Value} (h : o.op = .alloc T) (hz : (P.info? T).map (·.zero) = some (some z)) (K : Φ (.pointer (some ⟨w.heap.size, 0, none⟩)) (w.alloc (.cells z.cells T))) : Yld P o ρ w Φ := by
  cases hi : P.info? T with
  | none => rw [hi] at hz; cases hz
  | some i =>
    rw [hi] at hz
    have hz' : i.zero = some z := Option.some.inj hz
    unfold Yld execOp
    rw [h]
    simp [Instr.alloc, zeroValue, typeInfo, hi, hz', newVar, newRow, Sem.run_bind]
    exact K
theorem yld_box {v : Value} (h : o.op = .box T x) (hx : ρ x = v) (K : Φ (.pointer (some ⟨w.heap.size, 0, none⟩)) (w.alloc (.cells v.cells T))) : Yld P o ρ w Φ := by
  unfold Yld execOp
  rw [h]
  simp [Instr.box, newVar, newRow, hx]
  exact K
/-- what a new variable is -/
def MR.ptr (T : TypeId) (R : MR) : MR := ⟨fun w v => ∃ b, v = .pointer (some ⟨b, 0, none⟩) ∧ Box w b T R, fun h ⟨b, e, k⟩ => ⟨b, e, k.grow h⟩⟩
theorem fresh_box {v : Value} (hR : R.R w v) : Grow w (w.alloc (.cells v.cells T)) ∧ (MR.ptr T R).R (w.alloc (.cells v.cells T)) (.pointer (some ⟨w.heap.size, 0, none⟩)) ∧ Fresh w (w.alloc (.cells v.cells T)) (.pointer (some ⟨w.heap.size, 0, none⟩)) :=
  ⟨(Grow.refl w).alloc _, ⟨_, rfl, v, Blk.new w T v.cells, R.mono ((Grow.refl w).alloc _) hR⟩, by show w.heap.size ≤ w.heap.size ∧ w.heap.size < _; simp⟩
theorem yld_newBox {v : Value} (h : o.op = .box T x) (hx : ρ x = v) (hR : R.R w v) : Yld P o ρ w (fun v w' => Grow w w' ∧ (MR.ptr T R).R w' v ∧ Fresh w w' v) := yld_box h hx (fresh_box hR)
theorem yld_newAlloc {z : Value} (h : o.op = .alloc T) (hz : (P.info? T).map (·.zero) = some (some z)) (hR : ∀ w, R.R w z) : Yld P o ρ w (fun v w' => Grow w w' ∧ (MR.ptr T R).R w' v ∧ Fresh w w' v) := yld_alloc h hz (fresh_box (hR w))
theorem yld_build {ps : List (Nat × Operand)} {l : List (Nat × Value)} {cs : Array Value} (h : o.op = .build T ps.toArray) (hl : ps.map (fun p => (p.1, ρ p.2)) = l) (hb : P.built T l = some cs) (K : Φ (.agg cs) w) : Yld P o ρ w Φ :=
  yld_val (v := .agg cs) (by
    unfold execOp; rw [h]
    have := run_build (P := P) w T (ps.toArray.map fun (i, x) => (i, ρ x)) cs (by rw [← hb, ← hl]; congr 1; simp)
    simp only [Sem.run_bind, this]; rfl) K
theorem yld_convert {k k' : IntKind} {p r : Int} (h : o.op = .convert T T' x) (hx : ρ x = .int k' p) (hT : P.underlying T' = some (.int k)) (hS : ∃ k2, P.underlying T = some (.int k2)) (hr : k.wrap p = r) (K : Φ (.int k r) w) : Yld P o ρ w Φ :=
  yld_val (v := .int k r) (by
    obtain ⟨k2, hS⟩ := hS
    unfold execOp; rw [h]
    simp only [hx, convert, Sem.run_bind, run_underlying hS w, run_underlying hT w, Result.andThen_ok, Conv.intToInt, ← hr]
    rfl) K
theorem yld_eqTo {c c' : Value} (h : Yld P o ρ w (fun v w' => Grow w w' ∧ (MR.eq c).R w' v)) (e : c = c') : Yld P o ρ w (fun v w' => Grow w w' ∧ (MR.eq c').R w' v) := by subst e; exact h
theorem yld_as {R R2 : MR} (h : Yld P o ρ w (fun v w' => Grow w w' ∧ R.R w' v)) (e : ∀ {w v}, R.R w v → R2.R w v) : Yld P o ρ w (fun v w' => Grow w w' ∧ R2.R w' v) := h.mono fun _ _ k => ⟨k.1, e k.2⟩
theorem yld_store {w' : World} (h : o.op = .store T x y) (hs : (Instr.storeAt T (ρ x) (ρ y)).run P w = .ok () w') (K : Φ undef w') : Yld P o ρ w Φ := by
  unfold Yld execOp
  rw [h]
  simp [hs]
  exact K
theorem yld_storeBox (h : o.op = .store T x y) (hx : ρ x = .pointer (some ⟨b, 0, none⟩)) (hT : (P.info? T).map (·.size) = some n) (hB : Box w b T' R) (hs : Shape R n) (hR : R'.R w (ρ y)) (hs' : Shape R' n) {B : Nat} (hst : St B R') (hu : T' ≠ 105) (hBb : B ≤ b)
    (K : ∀ w', Put w w' b → Ext B w w' → Box w' b T' R' → Φ undef w') : Yld P o ρ w Φ := by
  obtain ⟨w', h1, h2, h3, h4⟩ := store_box hT hB hs hR hs' hst hu hBb
  exact yld_store h (by rw [hx]; exact h1) (K w' h2 h3 h4)
/-- at the list of the stores -/
theorem wpListS_yld {S : World → Prop} {rest : List Oper} {a : Act} (hg : o.guard = none) (h : Yld P o a.eval w (fun v w' => (rest ≠ [] → S w') ∧ wpListS P ops Q S rest (a.put o.dst v) w')) : wpListS P ops Q S (o :: rest) a w := by
  unfold wpListS
  rw [if_pos (by simp [Region.wanted, hg])]
  exact .inl (Yld.wp h fun _ _ hv => hv)
theorem wpListS_nil {S : World → Prop} {a : Act} (h : Q .normal a w) : wpListS P ops Q S [] a w := h
theorem Kept.put {kb : List Nat} {w a b : World} {c : Nat} (h : Kept kb w a) (p : Put a b c) (hn : ∀ k ∈ kb, k ≠ c) : Kept kb w b := fun k hk => (p.other k (hn k hk)).trans (h k hk)
theorem lazy_move {kb : List Nat} {v : Value} (h : o.op = .move x) (hx : ρ x = v) (hR : R.R w v) : ∃ v, (∀ w2, Kept kb w w2 → (execOp ρ o).run P w2 = .ok (.value v) w2) ∧ R.R w v := ⟨v, fun w2 _ => hx ▸ pure_move h w2, hR⟩
theorem lazy_assign {kb : List Nat} {v : Value} (h : o.op = .assign x) (hx : ρ x = v) (hR : R.R w v) : ∃ v, (∀ w2, Kept kb w w2 → (execOp ρ o).run P w2 = .ok (.value v) w2) ∧ R.R w v := ⟨v, fun w2 _ => hx ▸ pure_assign h w2, hR⟩
theorem pure_build {ps : List (Nat × Operand)} {l : List (Nat × Value)} {cs : Array Value} (h : o.op = .build T ps.toArray) (hl : ps.map (fun p => (p.1, ρ p.2)) = l) (hb : P.built T l = some cs) (w : World) : (execOp ρ o).run P w = .ok (.value (.agg cs)) w := by
  unfold execOp; rw [h]
  have := run_build (P := P) w T (ps.toArray.map fun (i, x) => (i, ρ x)) cs (by rw [← hb, ← hl]; congr 1; simp)
  simp only [Sem.run_bind, this]; rfl
theorem lazy_build {kb : List Nat} {ps : List (Nat × Operand)} {l : List (Nat × Value)} {cs : Array Value} (h : o.op = .build T ps.toArray) (hl : ps.map (fun p => (p.1, ρ p.2)) = l) (hb : P.built T l = some cs) (hR : R.R w (.agg cs)) : ∃ v, (∀ w2, Kept kb w w2 → (execOp ρ o).run P w2 = .ok (.value v) w2) ∧ R.R w v := ⟨_, fun w2 _ => pure_build h hl hb w2, hR⟩
theorem lazy_loadBox {kb : List Nat} (h : o.op = .load T x) (hx : ρ x = .pointer (some ⟨b, 0, none⟩)) (hT : Agg P T n) (hB : Box w b T' R) (hs : Shape R n) (hb : b ∈ kb) :
    ∃ v, (∀ w2, Kept kb w w2 → (execOp ρ o).run P w2 = .ok (.value v) w2) ∧ R.R w v := by
  obtain ⟨v, hB, hR⟩ := hB
  obtain ⟨cs, rfl, hcs, _⟩ := hs hR
  obtain ⟨⟨d, hu, hd⟩, hi⟩ := hT
  refine ⟨_, fun w2 hw2 => ?_, hR⟩
  have hB2 : Blk w2 b T' cs := (hw2 b hb).trans hB
  have := run_loadAt_mid (P := P) w2 b 0 T cs.toList d (fun j v hj => by rw [Array.getElem?_toList] at hj; rw [hB2.cell, Nat.zero_add]; exact hj) hu hd (by rw [hi, Array.length_toList, hcs])
  rw [Array.toArray_toList] at this
  unfold execOp
  rw [h]
  simp only [hx, Sem.run_bind, this]
  rfl
end

section
variable {P : Program} {ops : Array Oper} {Rs : Nat → MR} {n : Nat} {news lz kb : List Nat} {a0 : Act} {w0 : World} {i : Nat} {o : Oper} {nd : List Nat}
theorem conts_mono {K K' : Act → Prop} {w : World} (hK : ∀ a, K a → K' a) : ∀ (l : List Nat) (a : Act), Conts ops Rs l K a w → Conts ops Rs l K' a w
  | [], _, h => hK _ h
  | _ :: l, _, h => fun v hv => conts_mono hK l _ (h v hv)
theorem wanted_none {y : Nat → Option Bool} (hg : o.guard = none) : Region.wanted o y = true := by simp [Region.wanted, hg]
def guardV : Value → Option Bool
  | .bool b => some b
  | _ => none
theorem yielded_of {g : Nat} {t : Tmp} {tmps : Array Value} {v : Value} (hd : dstOf ops g = some t) (ht : tmps[t]? = some v) : yielded ops tmps g = guardV v := by
  unfold yielded
  unfold dstOf at hd
  rw [hd]
  simp only [Option.bind_some, ht]
  cases v <;> rfl

/-- operands, read off a table of slots -/
def evalE (e : Tmp → Value) : Operand → Value
  | .tmp t => e t
  | .const v => v
  | .global g => .pointer (some ⟨g, 0, none⟩)
  | .func f => .func (.func f) #[] #[]
def upE (e : Tmp → Value) (d : Tmp) (v : Value) : Tmp → Value := fun t => bif Nat.beq t d then v else e t
def DL (L : List (Tmp × MR)) (j : Nat) : Tmp := (L.getD j (0, .any)).1
def RL (L : List (Tmp × MR)) (j : Nat) : MR := (L.getD j (0, .any)).2
def ContsE (L : List (Tmp × MR)) : List Nat → ((Tmp → Value) → Prop) → (Tmp → Value) → World → Prop
  | [], K, e, _ => K e
  | j :: js, K, e, w => ∀ v, (RL L j).R w v → ContsE L js K (upE e (DL L j) v) w
theorem ContsE.fin {L : List (Tmp × MR)} {K : (Tmp → Value) → Prop} {e : Tmp → Value} {w : World} (h : K e) : ContsE L [] K e w := h
/-- R if c, and nothing if not -/
def MR.opt (c : Bool) (A : MR) : MR := ⟨fun w v => (c = true → A.R w v) ∧ (c = false → v = undef), fun h k => ⟨fun hc => A.mono h (k.1 hc), k.2⟩⟩
def wantE (L : List (Tmp × MR)) (o : Oper) (e : Tmp → Value) : Bool := match o.guard with
  | none => true
  | some (g, want) => guardV (e (DL L g)) == some want
def StepE (P : Program) (ops : Array Oper) (L : List (Tmp × MR)) (news lz kb : List Nat) (e0 : Tmp → Value) (w0 : World) (i : Nat) : Prop :=
  match ops.toList[i]? with
  | none => False
  | some o => ∀ w, Grow w0 w → ContsE L (needs ops L.length i) (fun e =>
      if lz.contains i then
        (if wantE L o e = true then ∃ v, (∀ w2, Kept kb w w2 → (execOp (evalE e) o).run P w2 = .ok (.value v) w2) ∧ (RL L i).R w v else (RL L i).R w undef)
      else
        (if wantE L o e = true then Yld P o (evalE e) w (fun v w' => Grow w w' ∧ (RL L i).R w' v ∧ (news.contains i = true → Fresh w w' v)) else (RL L i).R w undef ∧ news.contains i = false)) e0 w
section
variable {L : List (Tmp × MR)} {e0 : Tmp → Value}
theorem contsE_mono {K K' : (Tmp → Value) → Prop} {w : World} (hK : ∀ e, K e → K' e) : ∀ (l : List Nat) (e : Tmp → Value), ContsE L l K e w → ContsE L l K' e w
  | [], _, h => hK _ h
  | _ :: l, _, h => fun v hv => contsE_mono hK l _ (h v hv)
theorem StepE.of (ho : ops.toList[i]? = some o) (hnd : needs ops L.length i = nd) (hlz : lz.contains i = false) (hg : o.guard = none) (hn : news.contains i = false)
    (h : ∀ w, Grow w0 w → ContsE L nd (fun e => Yld P o (evalE e) w (fun v w' => Grow w w' ∧ (RL L i).R w' v)) e0 w) : StepE P ops L news lz kb e0 w0 i := by
  unfold StepE
  rw [ho]
  intro w hw
  rw [hnd]
  refine contsE_mono (fun e hK => ?_) nd e0 (h w hw)
  rw [hlz]
  simp only [Bool.false_eq_true, if_false, wantE, hg, if_true]
  exact hK.mono fun v w' ⟨h1, h2⟩ => ⟨h1, h2, fun e => by rw [hn] at e; cases e⟩
theorem StepE.new (ho : ops.toList[i]? = some o) (hnd : needs ops L.length i = nd) (hlz : lz.contains i = false) (hg : o.guard = none)
    (h : ∀ w, Grow w0 w → ContsE L nd (fun e => Yld P o (evalE e) w (fun v w' => Grow w w' ∧ (RL L i).R w' v ∧ Fresh w w' v)) e0 w) : StepE P ops L news lz kb e0 w0 i := by
  unfold StepE
  rw [ho]
  intro w hw
  rw [hnd]
  refine contsE_mono (fun e hK => ?_) nd e0 (h w hw)
  rw [hlz]
  simp only [Bool.false_eq_true, if_false, wantE, hg, if_true]
  exact hK.mono fun v w' ⟨h1, h2, h3⟩ => ⟨h1, h2, fun _ => h3⟩
theorem StepE.opt {g : Nat} {want c : Bool} {A : MR} (ho : ops.toList[i]? = some o) (hnd : needs ops L.length i = nd) (hlz : lz.contains i = false) (hg : o.guard = some (g, want)) (hn : news.contains i = false) (hR : RL L i = .opt c A)
    (h : ∀ w, Grow w0 w → ContsE L nd (fun e => (guardV (e (DL L g)) == some want) = c ∧ (c = true → Yld P o (evalE e) w (fun v w' => Grow w w' ∧ A.R w' v))) e0 w) : StepE P ops L news lz kb e0 w0 i := by
  unfold StepE
  rw [ho]
  intro w hw
  rw [hnd]
  refine contsE_mono (fun e hK => ?_) nd e0 (h w hw)
  have hwt : wantE L o e = c := by rw [← hK.1]; simp [wantE, hg]
  rw [hlz]
  simp only [Bool.false_eq_true, if_false, hwt, hR]
  cases c with
  | true =>
    simp only [if_true]
    exact (hK.2 rfl).mono fun v w' ⟨h1, h2⟩ => ⟨h1, ⟨fun _ => h2, fun e => (by cases e)⟩, fun e => (by rw [hn] at e; cases e)⟩
  | false =>
    simp only [Bool.false_eq_true, if_false]
    exact ⟨⟨fun e => (by cases e), fun _ => rfl⟩, hn⟩
theorem StepE.lazy (ho : ops.toList[i]? = some o) (hnd : needs ops L.length i = nd) (hlz : lz.contains i = true) (hg : o.guard = none)
    (h : ∀ w, Grow w0 w → ContsE L nd (fun e => ∃ v, (∀ w2, Kept kb w w2 → (execOp (evalE e) o).run P w2 = .ok (.value v) w2) ∧ (RL L i).R w v) e0 w) : StepE P ops L news lz kb e0 w0 i := by
  unfold StepE
  rw [ho]
  intro w hw
  rw [hnd]
  refine contsE_mono (fun e hK => ?_) nd e0 (h w hw)
  rw [hlz]
  simp only [if_true, wantE, hg]
  exact hK
end
/-- the guard, as it is known -/
theorem guard_opt {v : Value} {w : World} {c b want : Bool} (h : (MR.opt c (.eq (.bool b))).R w v) : (guardV v == some want) = (c && (b == want)) := by
  cases c with
  | true => rw [show v = .bool b from h.1 rfl]; simp [guardV]
  | false => rw [h.2 rfl]; rfl
theorem guard_eq {b want : Bool} : (guardV (.bool b) == some want) = (b == want) := by simp [guardV]
inductive Steps (P : Program) (ops : Array Oper) (L : List (Tmp × MR)) (news lz kb : List Nat) (e0 : Tmp → Value) (w0 : World) : Nat → Nat → Prop
  | nil (k : Nat) : Steps P ops L news lz kb e0 w0 k 0
  | cons {k m : Nat} (h : StepE P ops L news lz kb e0 w0 k) (t : Steps P ops L news lz kb e0 w0 (k + 1) m) : Steps P ops L news lz kb e0 w0 k (m + 1)
theorem Steps.at {L : List (Tmp × MR)} {e0 : Tmp → Value} : ∀ {m k : Nat}, Steps P ops L news lz kb e0 w0 k m → ∀ i, k ≤ i → i < k + m → StepE P ops L news lz kb e0 w0 i
  | 0, _, _, i, h1, h2 => by omega
  | m + 1, k, .cons h t, i, h1, h2 => by
    by_cases e : i = k
    · subst e; exact h
    · exact t.at i (by omega) (by omega)
/-- a panic does not look at the frame -/
def NoLook (Q : Exit → Act → World → Prop) : Prop := ∀ c d v a w, Q (.panic c) (Act.put a d v) w → Q (.panic c) a w
theorem noLook_body {P : Program} {fn : Func} {R : Ending → World → Prop} : NoLook (bodyPost P fn R) := fun c d v a w h => by
  cases d <;> exact h
def newsOK (n : Nat) (news lz : List Nat) : Bool := news.all (fun i => decide (i < n)) && decide news.Nodup && lz.all (fun i => !news.contains i)
variable {Q : Exit → Act → World → Prop}
theorem wpList_rel {md : Region.Mode} {N : Nat} (hc : relOK md ops n N lz = true) (hN : a0.tmps.size = N) (hnw : ∀ i ∈ news, i < n) (hnd : news.Nodup) (hnz : ∀ i, lz.contains i = true → news.contains i = false)
    (hst : ∀ i, i < n → StepOK P ops Rs n news lz kb a0 w0 i)
    (htl : ∀ w, Grow w0 w → Conts ops Rs (List.range n) (fun a => Apart ops a w0 w news → wpList P ops Q (ops.toList.drop n) a w) a0 w) :
    ∀ (m k : Nat) (listed : Array Bool) (a : Act) (w : World), k + m = n → At md ops Rs n news a0 w0 listed a w → (∀ i, i < k → listed.getD i false = true) → (∀ i, k ≤ i → listed.getD i false = false) → wpList P ops Q (ops.toList.drop k) a w := by
  obtain ⟨hns, hok, htail, hlz, hsel⟩ := rel_spec hc
  have dlt : ∀ j ∈ List.range n, ∃ d, dstOf ops j = some d ∧ d < a0.tmps.size := fun j hj => by
    obtain ⟨_, d, _, _, e, hlt, _⟩ := head_spec (hok j (by simpa using hj))
    exact ⟨d, e, by rw [hN]; exact hlt⟩
  intro m
  induction m with
  | zero =>
    intro k listed a w hk h hall _
    obtain rfl : k = n := by omega
    obtain ⟨c, hK, hdef, hsz, hcs⟩ := conts_use Rs (b := a) (List.range k) _ a0 (htl w h.grow) dlt h.size.symm (fun j hj => h.rel j (by simpa using hj) (hall j (by simpa using hj)))
    have hca : c = a := act_ext (fun t => by
      rw [hcs t]
      by_cases hx : ∃ j ∈ List.range k, dstOf ops j = some t
      · rw [if_pos hx]
      · rw [if_neg hx]
        exact (h.same t fun i hi e => hx ⟨i, by simpa using hi, e⟩).symm) (by rw [hdef, h.defers])
    subst hca
    exact hK (apart_of h hall news (fun i hi => ⟨by simpa using hi, hnw i hi⟩) hnd)
  | succ m ih =>
    intro k listed a w hk h hall hun
    have hkn : k < n := by omega
    have hks : k < ops.size := by omega
    obtain ⟨o, d, ho, hd, _, _, _, hsl, _, hlt⟩ := head_spec (hok k hkn)
    have hs := hst k hkn
    unfold StepOK at hs
    rw [ho] at hs
    obtain ⟨c, hK, hcs⟩ := h.step hN hok hkn ho (fun e he hb => hall _ (hlt e he hb)) (hs w h.grow)
    have hdrop : ops.toList.drop k = o :: ops.toList.drop (k + 1) := by
      rw [List.drop_eq_getElem_cons (by simpa using hks)]
      congr 1
      have := (Array.getElem?_eq_some_iff.1 ho).2
      simpa using this
    have hut : listed.getD k true = false := by rw [getD_tf (by rw [h.lsize]; exact hks)]; exact hun k (Nat.le_refl _)
    have hnext : ∀ v w', Grow w w' → (Rs k).R w' v → (news.contains k = true → Fresh w w' v) → wpList P ops Q (ops.toList.drop (k + 1)) (a.put o.dst v) w' := fun v w' hg hR hfr => by
      rw [hd]
      refine ih (k + 1) _ _ w' (by omega) (h.put (fun e he hb => hall _ (hlt e he hb)) hN hok hkn ho hd hks hut hg hR hfr) (fun j hj => ?_) (fun j hj => ?_)
      · by_cases e : j = k
        · subst e; simp [show j < listed.size by rw [h.lsize]; exact hks]
        · rw [getD_set_ne false (Ne.symm e)]; exact hall j (by omega)
      · rw [getD_set_ne false (by omega)]; exact hun j (by omega)
    have hexec : execOp c.eval o = execOp a.eval o := same_exec (ops := ops) o hsl hcs
    have hwant := same_wanted o hcs
    rw [hdrop]
    unfold wpList
    cases hz : lz.contains k with
    | true =>
      simp only [hz, if_true] at hK
      rw [hwant, hexec] at hK
      have hno : news.contains k = true → ∀ v w', Fresh w w' v := fun hb => absurd hb (by rw [hnz k hz]; exact Bool.false_ne_true)
      by_cases hw : Region.wanted o (yielded ops a.tmps) = true
      · rw [if_pos hw] at hK
        obtain ⟨v, hv, hR⟩ := hK
        rw [if_pos hw]
        refine .inl ?_
        unfold Oper.wp
        rw [hv w fun _ _ => rfl]
        exact hnext v w (Grow.refl _) hR (fun hb => hno hb _ _)
      · rw [if_neg hw] at hK
        rw [if_neg hw]
        exact hnext undef w (Grow.refl _) hK (fun hb => hno hb _ _)
    | false =>
      simp only [hz] at hK
      rw [hwant] at hK
      by_cases hw : Region.wanted o (yielded ops a.tmps) = true
      · simp only [hw, if_true, Bool.false_eq_true, if_false] at hK
        rw [if_pos hw]
        refine .inl ?_
        unfold Yld at hK
        rw [hexec] at hK
        exact Yld.wp (Φ := fun v w' => Grow w w' ∧ (Rs k).R w' v ∧ (news.contains k = true → Fresh w w' v)) hK fun v w' ⟨hg, hR, hfr⟩ => hnext v w' hg hR hfr
      · simp only [hw, Bool.false_eq_true, if_false] at hK
        rw [if_neg hw]
        exact hnext undef w (Grow.refl _) hK.1 (fun hb => absurd hb (by rw [hK.2]; exact Bool.false_ne_true))
theorem at_start {md : Region.Mode} {w1 : World} (hg : Grow w0 w1) : At md ops Rs n news a0 w0 (Array.replicate ops.size false) a0 w1 where
  grow := hg
  defers := rfl
  size := rfl
  lsize := by simp
  same := fun _ _ => rfl
  rel := fun i _ h => by simp [Array.getElem?_replicate] at h; split at h <;> cases h
  tail := fun i _ => by simp [Array.getElem?_replicate]; split <;> rfl
  closed := fun i _ h => by simp [Array.getElem?_replicate] at h; split at h <;> cases h
  fresh := fun i _ _ h => by simp [Array.getElem?_replicate] at h; split at h <;> cases h
  apart := fun i j _ _ _ _ _ h => by simp [Array.getElem?_replicate] at h; split at h <;> cases h
/-- do the slots fit, and do guards look at operations ahead of the stores? -/
def dstOK (ops : Array Oper) (L : List (Tmp × MR)) : Bool := (List.range L.length).all fun i => dstOf ops i == some (DL L i) && match ops[i]? with | some o => (match o.guard with | some (g, _) => decide (g < L.length) | none => true) | none => false
theorem dst_spec {L : List (Tmp × MR)} (h : dstOK ops L = true) {i : Nat} (hi : i < L.length) : dstOf ops i = some (DL L i) ∧ ∀ o g want, ops[i]? = some o → o.guard = some (g, want) → g < L.length := by
  have := List.all_eq_true.1 h i (by simpa using hi)
  simp only [Bool.and_eq_true, beq_iff_eq] at this
  refine ⟨this.1, fun o g want ho hg => ?_⟩
  have h2 := this.2
  rw [ho] at h2
  simp only [hg, decide_eq_true_eq] at h2
  exact h2
theorem evalE_act (a : Act) : a.eval = evalE fun t => a.tmps.getD t undef := funext fun x => by cases x <;> rfl
theorem upE_put (a : Act) (d : Tmp) (v : Value) (hd : d < a.tmps.size) : (fun t => (a.put (some d) v).tmps.getD t undef) = upE (fun t => a.tmps.getD t undef) d v := funext fun t => by
  simp only [upE, getD_get, put_get]
  by_cases e : d = t
  · subst e; rw [if_pos rfl, if_pos hd, show Nat.beq d d = true from Nat.beq_refl d]; rfl
  · rw [if_neg e, show Nat.beq t d = false from by cases hb : Nat.beq t d with | false => rfl | true => exact absurd (Nat.eq_of_beq_eq_true hb).symm e]; rfl
theorem conts_of_E {L : List (Tmp × MR)} {K : (Tmp → Value) → Prop} {w : World} : ∀ (l : List Nat) (a : Act), (∀ j ∈ l, dstOf ops j = some (DL L j) ∧ DL L j < a.tmps.size) → ContsE L l K (fun t => a.tmps.getD t undef) w → Conts ops (RL L) l (fun a => K fun t => a.tmps.getD t undef) a w
  | [], _, _, h => h
  | j :: l, a, hd, h => fun v hv => by
    obtain ⟨e, hlt⟩ := hd j (by simp)
    rw [e]
    refine conts_of_E l _ (fun j' hj' => ?_) (by rw [upE_put a _ v hlt]; exact h v hv)
    obtain ⟨e', hlt'⟩ := hd j' (by simp [hj'])
    exact ⟨e', by rw [put_size]; exact hlt'⟩
theorem wantE_act {L : List (Tmp × MR)} {a : Act} {o : Oper} (h : ∀ g want, o.guard = some (g, want) → dstOf ops g = some (DL L g) ∧ DL L g < a.tmps.size) : Region.wanted o (yielded ops a.tmps) = wantE L o fun t => a.tmps.getD t undef := by
  unfold Region.wanted wantE
  cases hg : o.guard with
  | none => rfl
  | some gw =>
    obtain ⟨g, want⟩ := gw
    obtain ⟨e, hlt⟩ := h g want hg
    simp only
    rw [yielded_of e (Array.getElem?_eq_getElem hlt), getD_get, Array.getElem?_eq_getElem hlt]
    rfl
theorem step_of_E {L : List (Tmp × MR)} {N : Nat} (hs : a0.tmps.size = N) (hd : dstOK ops L = true) (hok : ∀ i, i < L.length → headOK .any ops L.length N i = true) (hi : i < L.length)
    (h : StepE P ops L news lz kb (fun t => a0.tmps.getD t undef) w0 i) : StepOK P ops (RL L) L.length news lz kb a0 w0 i := by
  have dl : ∀ j, j < L.length → dstOf ops j = some (DL L j) ∧ DL L j < N := fun j hj => by
    obtain ⟨_, d, _, _, e, hlt, _⟩ := head_spec (hok j hj)
    have e2 := (dst_spec hd hj).1
    rw [e2] at e
    exact ⟨e2, Option.some.inj e ▸ hlt⟩
  unfold StepE at h
  unfold StepOK
  rw [Array.getElem?_toList] at h
  cases ho : ops[i]? with
  | none => rw [ho] at h; exact h
  | some o =>
    rw [ho] at h
    intro w hw
    -- the frame keeps its size
    have key : ∀ (l : List Nat) (a : Act), a.tmps.size = N → (∀ j ∈ l, j < L.length) → Conts ops (RL L) l (fun a => (fun e => if lz.contains i then
        (if wantE L o e = true then ∃ v, (∀ w2, Kept kb w w2 → (execOp (evalE e) o).run P w2 = .ok (.value v) w2) ∧ (RL L i).R w v else (RL L i).R w undef)
      else
        (if wantE L o e = true then Yld P o (evalE e) w (fun v w' => Grow w w' ∧ (RL L i).R w' v ∧ (news.contains i = true → Fresh w w' v)) else (RL L i).R w undef ∧ news.contains i = false)) fun t => a.tmps.getD t undef) a w → Conts ops (RL L) l (fun a => if lz.contains i then
        (if Region.wanted o (yielded ops a.tmps) = true then ∃ v, (∀ w2, Kept kb w w2 → (execOp a.eval o).run P w2 = .ok (.value v) w2) ∧ (RL L i).R w v else (RL L i).R w undef)
      else
        (if Region.wanted o (yielded ops a.tmps) = true then Yld P o a.eval w (fun v w' => Grow w w' ∧ (RL L i).R w' v ∧ (news.contains i = true → Fresh w w' v)) else (RL L i).R w undef ∧ news.contains i = false)) a w := by
      intro l
      induction l with
      | nil =>
        intro a hsz _ hK
        show ite _ _ _
        rw [wantE_act (L := L) (fun g want hg => by
          have := dl g ((dst_spec hd hi).2 o g want ho hg)
          rw [hsz]; exact this), evalE_act]
        exact hK
      | cons j l ih =>
        intro a hsz hl hK v hv
        exact ih _ (by rw [put_size]; exact hsz) (fun j' hj' => hl j' (by simp [hj'])) (hK v hv)
    refine key _ a0 hs (fun j hj => needs_lt hj) (conts_of_E _ a0 (fun j hj => ?_) (h w hw))
    have := dl j (needs_lt hj)
    rw [hs]; exact this
def ContsL : List (Tmp × MR) → (List Value → List Value → Prop) → List Value → List Value → World → Prop
  | [], K, vs, l, _ => K vs l
  | (d, R) :: L, K, vs, l, w => ∀ v, R.R w v → ContsL L K (vs ++ [v]) (l.set d v) w
/-- what is new lies apart -/
def ApartL (w0 w : World) (vs : List Value) : List Nat → Prop
  | [] => True
  | i :: l => (w0.heap.size ≤ blkN (vs.getD i undef) ∧ blkN (vs.getD i undef) < w.heap.size) ∧ (∀ j ∈ l, blkN (vs.getD i undef) ≠ blkN (vs.getD j undef)) ∧ ApartL w0 w vs l
theorem apartL_of {a : Act} {w0 w : World} {vs : List Value} : ∀ (l : List Nat), (∀ i ∈ l, valOf ops a i = vs.getD i undef) → Apart ops a w0 w l → ApartL w0 w vs l
  | [], _, _ => trivial
  | i :: l, hv, h => by
    have hi := hv i (by simp)
    refine ⟨?_, fun j hj => ?_, apartL_of l (fun j hj => hv j (by simp [hj])) h.2.2⟩
    · rw [← hi]; exact h.1
    · rw [← hi, ← hv j (by simp [hj])]; exact h.2.1 j hj
theorem conts_of_L {L0 : List (Tmp × MR)} {N : Nat} (hok : ∀ i, i < L0.length → headOK .any ops L0.length N i = true) (hd : dstOK ops L0 = true) {K : List Value → List Value → Prop} {w : World} :
    ∀ (L : List (Tmp × MR)) (k : Nat) (vs l : List Value), L0.drop k = L → k ≤ L0.length → vs.length = k → l.length = N → (∀ i, i < k → valOf ops ⟨l.toArray, []⟩ i = vs.getD i undef) → ContsL L K vs l w →
      Conts ops (RL L0) (List.range' k L.length) (fun a => ∃ vs l, a = ⟨l.toArray, []⟩ ∧ (∀ i, i < L0.length → valOf ops a i = vs.getD i undef) ∧ K vs l) ⟨l.toArray, []⟩ w
  | [], k, vs, l, hL, hk, hvs, hl, hv, h => by
    have : L0.length ≤ k := by simpa using hL
    obtain rfl : k = L0.length := by omega
    exact ⟨vs, l, rfl, hv, h⟩
  | (d, R) :: L, k, vs, l, hL, hk, hvs, hl, hv, h => by
    have hk' : k < L0.length := by
      rcases Nat.lt_or_ge k L0.length with h' | h'
      · exact h'
      · rw [List.drop_eq_nil_of_le h'] at hL; cases hL
    have hLk : L0[k]? = some (d, R) := by
      rw [List.drop_eq_getElem_cons hk'] at hL
      rw [List.getElem?_eq_getElem hk', (List.cons.inj hL).1]
    have hgd : L0.getD k (0, .any) = (d, R) := by simp [hLk]
    have hDL : DL L0 k = d := by unfold DL; rw [hgd]
    have hRL : RL L0 k = R := by unfold RL; rw [hgd]
    obtain ⟨_, d', _, _, e, hlt, hne, _⟩ := head_spec (hok k hk')
    have e2 := (dst_spec hd hk').1
    rw [hDL] at e2
    rw [e2] at e
    obtain rfl := Option.some.inj e
    intro v hv'
    rw [hRL] at hv'
    have hput : (⟨l.toArray, []⟩ : Act).put (dstOf ops k) v = ⟨(l.set d v).toArray, []⟩ := by rw [e2]; simp [Act.put]
    rw [hput]
    refine conts_of_L hok hd L (k + 1) (vs ++ [v]) (l.set d v) ?_ hk' (by simp [hvs]) (by simpa using hl) (fun i hi => ?_) (h v hv')
    · rw [List.drop_eq_getElem_cons hk'] at hL
      exact (List.cons.inj hL).2
    · rw [← hput, e2]
      by_cases ei : i = k
      · subst ei
        rw [val_put_self v e2 (by simpa [hl] using hlt)]
        simp [hvs]
      · rw [val_put_other v (hne i (by omega) ei), hv i (by omega)]
        simp [List.getElem?_append, show i < vs.length by omega]
/-- the frame, written out -/
theorem wpList_frame {P : Program} {ops : Array Oper} {S : World → Prop} {rest : List Oper} {l l' : List Value} {ds : List Deferred} {w : World} (h : l = l') (k : wpListS P ops Q S rest ⟨l'.toArray, ds⟩ w) : wpListS P ops Q S rest ⟨l.toArray, ds⟩ w := h ▸ k
/-- THE REGION -/
theorem wp_region_go {id : Nat} {draw : Bool} {l : List Value} (L : List (Tmp × MR)) (news lz kb : List Nat) (N : Nat) (hm : P.follows .mixedOrders = true) (hc : relOK .any ops L.length N lz = true) (hw : newsOK L.length news lz = true) (hd : dstOK ops L = true) (hN : l.length = N) (hQ : NoLook Q)
    (hst : Steps P ops L news lz kb (fun t => l.getD t undef) w0 0 L.length)
    (htl : ∀ w, Grow w0 w → ContsL L (fun vs l => ApartL w0 w vs news → wpListS P ops Q (Kept kb w) (ops.toList.drop L.length) ⟨l.toArray, []⟩ w) [] l w) : (Code.region id ops draw).wp P Q ⟨l.toArray, []⟩ w0 := by
  have hw0 := hw
  unfold newsOK at hw
  simp only [Bool.and_eq_true, decide_eq_true_eq, List.all_eq_true, Bool.not_eq_true'] at hw
  obtain ⟨⟨h1, h2⟩, h3⟩ := hw
  have h3' : ∀ i, lz.contains i = true → news.contains i = false := fun i hi => h3 i (by simpa using hi)
  obtain ⟨_, hok, _⟩ := rel_spec hc
  have hsz : (⟨l.toArray, []⟩ : Act).tmps.size = N := by simpa using hN
  have hst' : ∀ i, i < L.length → StepOK P ops (RL L) L.length news lz kb ⟨l.toArray, []⟩ w0 i := fun i hi => by
    refine step_of_E hsz hd hok hi ?_
    have := hst.at i (Nat.zero_le _) (by omega)
    have e : (fun t => (⟨l.toArray, []⟩ : Act).tmps.getD t undef) = fun t => l.getD t undef := funext fun t => by simp
    rw [e]
    exact this
  have htl' : ∀ w, Grow w0 w → Conts ops (RL L) (List.range L.length) (fun a => Apart ops a w0 w news → wpListS P ops Q (Kept kb w) (ops.toList.drop L.length) a w) ⟨l.toArray, []⟩ w := fun w hg => by
    have := conts_of_L hok hd L 0 [] l (by simp) (Nat.zero_le _) rfl hN (fun i hi => by omega) (htl w hg)
    rw [← List.range_eq_range'] at this
    refine conts_mono (fun a hK => ?_) _ _ this
    obtain ⟨vs, l', rfl, hv, hK⟩ := hK
    intro hA
    exact hK (apartL_of news (fun i hi => hv i (h1 i hi)) hA)
  cases draw with
  | true =>
    refine wp_region_any hm (wpAny_rel hc hsz hQ h1 h2 h3' hst' htl' _ _ _ _ (at_start ((Grow.refl w0).drew)) ?_)
    have := left_tail (ops := ops) (n := 0) (listed := Array.replicate ops.size false) (by simp) (fun i hi => by omega) (fun i _ => by simp [Array.getElem?_replicate]; split <;> rfl)
    simpa using this
  | false =>
    refine wp_region_list ?_
    have := wpList_rel (Q := Q) hc hsz h1 h2 h3' hst' (fun w hg => conts_mono (fun a hK hA => wpList_of_S _ _ _ (hK hA)) _ _ (htl' w hg)) L.length 0 (Array.replicate ops.size false) ⟨l.toArray, []⟩ w0 (by omega) (at_start (Grow.refl w0)) (fun i hi => by omega) (fun i _ => by simp [Array.getElem?_replicate]; split <;> rfl)
    simpa using this
end
end Go.Proofs.Ytngghjhmfpmilaa
