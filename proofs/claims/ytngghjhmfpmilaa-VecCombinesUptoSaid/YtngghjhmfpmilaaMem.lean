/- What a value of the program is worth in a world: plain words of memory. F: the blocks that whoever calls may still write. -/
import Derived.Test.YtngghjhmfpmilaaWord
import Derived.WalkLawsBesides
import Derived.WalkSpells
import Derived.Deep.RegionHeld3
import Derived.Deep.QuietTactic
import Derived.BigQuiet
import Derived.BigRegion
import Derived.Deep.RegionWith
import Derived.WalkSmall
import Derived.Handy
import Derived.OpenShut
import Derived.Maps.AppendAt
namespace Go.Proofs.Ytngghjhmfpmilaa
open Go.RowKit

/-- how many words of 64 bits a number has -/
def nw (x : Nat) : Nat := (Wd.blen x + 63) / 64
/-- one of its words -/
def wd (x i : Nat) : Nat := x / 2 ^ (64 * i) % 18446744073709551616
theorem nw_le (x k : Nat) : nw x ≤ k ↔ x < 2 ^ (64 * k) := by
  rw [← Wd.blen_le]; unfold nw; omega
theorem lt_nw (x : Nat) : x < 2 ^ (64 * nw x) := (nw_le x _).1 (Nat.le_refl _)
theorem nw_zero : nw 0 = 0 := rfl
theorem nw_eq_zero (x : Nat) : nw x = 0 ↔ x = 0 := by
  constructor
  · intro h
    have := lt_nw x
    rw [h] at this
    simpa using this
  · rintro rfl; rfl
theorem wd_lt (x i : Nat) : wd x i < 18446744073709551616 := Nat.mod_lt _ (by omega)
theorem wd_high (x i : Nat) (h : nw x ≤ i) : wd x i = 0 := by
  have := (nw_le x i).1 h
  unfold wd
  rw [Nat.div_eq_of_lt this]

/-- the world has grown; what is not in F is as it was -/
def Keeps (F : Nat → Prop) (w w' : World) : Prop := w.heap.size ≤ w'.heap.size ∧ ∀ k, k < w.heap.size → ¬ F k → w'.heap[k]? = w.heap[k]?
section
variable {F G : Nat → Prop} {a b c w w' : World}
theorem Keeps.refl (F : Nat → Prop) (w : World) : Keeps F w w := ⟨Nat.le_refl _, fun _ _ _ => rfl⟩
theorem Keeps.trans (h : Keeps F a b) (k : Keeps F b c) : Keeps F a c :=
  ⟨Nat.le_trans h.1 k.1, fun i hi hf => (k.2 i (Nat.lt_of_lt_of_le hi h.1) hf).trans (h.2 i hi hf)⟩
theorem Keeps.below (h : Keeps F a b) (k : Below b.heap.size b c) : Keeps F a c :=
  h.trans ⟨k.size, fun i hi _ => k.block i hi⟩
theorem Keeps.of_below (k : Below b.heap.size b c) : Keeps F b c := (Keeps.refl _ _).below k
theorem Keeps.drew (h : Keeps F a b) : Keeps F a b.drew := h
theorem Keeps.drewN (h : Keeps F a b) (n : Nat) : Keeps F a (b.drewN n) := h
theorem Keeps.drawn (h : Keeps F a b) (k : Drawn b c) : Keeps F a c := by
  obtain ⟨n, rfl⟩ := k
  exact h
theorem Keeps.alloc (h : Keeps F a b) (o : Obj) : Keeps F a (b.alloc o) :=
  h.trans ⟨by simp, fun k hk _ => Below.heap_alloc _ _ _ hk⟩
theorem Keeps.set (h : Keeps F a b) {p : Addr} (hp : F p.block ∨ a.heap.size ≤ p.block) (u : Value) : Keeps F a (b.setCell p u) := by
  refine ⟨by simpa [World.setCell] using h.1, fun k hk hf => ?_⟩
  rw [Below.heap_setCell _ _ _ _ (by rintro rfl; rcases hp with hp | hp; exact hf hp; omega)]
  exact h.2 k hk hf
theorem Keeps.sub (h : Keeps F a b) (hs : ∀ k, F k → G k) : Keeps G a b := ⟨h.1, fun k hk hg => h.2 k hk fun hf => hg (hs k hf)⟩
end
theorem below_of_keeps {F : Nat → Prop} {w w' : World} (h : Keeps F w w') (hs : ∀ k, F k → w.heap.size ≤ k) (h1 : w'.os = w.os) (h2 : w'.tape = w.tape) (h3 : w'.output = w.output) : Below w.heap.size w w' :=
  ⟨h1, h2, h3, h.1, fun k hk => h.2 k hk fun hf => by have := hs k hf; omega⟩

/-- block g is a row of words -/
def U64 (w : World) (g : Nat) : Prop := ∃ cs m, w.heap[g]? = some (.cells cs 105 m)
/-- block g is a row of words, and not in F -/
def Off (F : Nat → Prop) (w : World) (g : Nat) : Prop := ¬ F g ∧ U64 w g
/-- the words of x lie at A -/
def WordsAt (F : Nat → Prop) (w : World) (A : Option Addr) (x : Nat) : Prop :=
  ∀ i, i < nw x → ∃ g o, A = some ⟨g, o, none⟩ ∧ Off F w g ∧ g < w.heap.size ∧ w.cell? ⟨g, o + i, none⟩ = some (.int .u64 (wd x i : Nat))
/-- a number that the memory has room for, and all that is reckoned of it -/
def Small (x : Nat) : Prop := nw x ≤ 1099511627776
/-- v is the nat.Nat x -/
def NatAt (F : Nat → Prop) (w : World) (v : Value) (x : Nat) : Prop :=
  ∃ A c, v = .agg #[.slice A (nw x) c] ∧ nw x ≤ c ∧ c ≤ maxLen ∧ Small x ∧ WordsAt F w A x
section
variable {F G : Nat → Prop} {w w' : World} {A : Option Addr} {v : Value} {x : Nat}
theorem WordsAt.keep (h : WordsAt F w A x) (k : Keeps F w w') : WordsAt F w' A x := fun i hi => by
  obtain ⟨g, o, e, ⟨hf, cs, m, hu⟩, hl, hc⟩ := h i hi
  exact ⟨g, o, e, ⟨hf, cs, m, (k.2 g hl hf).trans hu⟩, Nat.lt_of_lt_of_le hl k.1, (World.cell?_of_block (w := w) (k.2 g hl hf)).trans hc⟩
theorem WordsAt.own (h : WordsAt F w A x) (hs : ∀ k, G k → F k ∨ w.heap.size ≤ k) : WordsAt G w A x := fun i hi => by
  obtain ⟨g, o, e, ⟨hf, hu⟩, hl, hc⟩ := h i hi
  exact ⟨g, o, e, ⟨fun hg => by rcases hs g hg with h1 | h1; exact hf h1; omega, hu⟩, hl, hc⟩
theorem NatAt.keep (h : NatAt F w v x) (k : Keeps F w w') : NatAt F w' v x := by
  obtain ⟨A, c, e, h1, h2, hs, h3⟩ := h
  exact ⟨A, c, e, h1, h2, hs, h3.keep k⟩
theorem NatAt.own (h : NatAt F w v x) (hs : ∀ k, G k → F k ∨ w.heap.size ≤ k) : NatAt G w v x := by
  obtain ⟨A, c, e, h1, h2, hm, h3⟩ := h
  exact ⟨A, c, e, h1, h2, hm, h3.own hs⟩
theorem NatAt.sub (h : NatAt F w v x) (hs : ∀ k, G k → F k) : NatAt G w v x := h.own fun k hk => .inl (hs k hk)
theorem NatAt.zero (F : Nat → Prop) (w : World) : NatAt F w (.agg #[.slice none 0 0]) 0 := ⟨none, 0, rfl, Nat.le_refl _, by unfold maxLen; omega, Nat.zero_le _, fun i hi => by rw [nw_zero] at hi; omega⟩
theorem NatAt.small (h : NatAt F w v x) : Small x := by
  obtain ⟨_, _, _, _, _, h, _⟩ := h
  exact h
end

theorem NatAt.form {F : Nat → Prop} {w : World} {v : Value} {x : Nat} (h : NatAt F w v x) : ∃ A n c, v = .agg #[.slice A n c] := by
  obtain ⟨A, c, e, _⟩ := h
  exact ⟨A, _, c, e⟩
/-- v is the integer.Int z -/
def IntAt (F : Nat → Prop) (w : World) (v : Value) (z : Int) : Prop :=
  ∃ s, v = .agg #[.bool (decide (z < 0)), s] ∧ NatAt F w (.agg #[s]) z.natAbs
/-- v is the rat.Rat q -/
def denW (q : Rat) : Nat := if q.den = 1 then 0 else q.den
def RatAt (F : Nat → Prop) (w : World) (v : Value) (q : Rat) : Prop :=
  ∃ s t, v = .agg #[.bool (decide (q.num < 0)), s, t] ∧ NatAt F w (.agg #[s]) q.num.natAbs ∧ NatAt F w (.agg #[t]) (denW q)
section
variable {F G : Nat → Prop} {w w' : World} {v : Value} {z : Int} {q : Rat}
theorem IntAt.keep (h : IntAt F w v z) (k : Keeps F w w') : IntAt F w' v z := by
  obtain ⟨s, e, h1⟩ := h
  exact ⟨s, e, h1.keep k⟩
theorem IntAt.own (h : IntAt F w v z) (hs : ∀ k, G k → F k ∨ w.heap.size ≤ k) : IntAt G w v z := by
  obtain ⟨s, e, h1⟩ := h
  exact ⟨s, e, h1.own hs⟩
theorem IntAt.sub (h : IntAt F w v z) (hs : ∀ k, G k → F k) : IntAt G w v z := h.own fun k hk => .inl (hs k hk)
theorem IntAt.form (h : IntAt F w v z) : ∃ b A n c, v = .agg #[.bool b, .slice A n c] := by
  obtain ⟨s, e, h1⟩ := h
  obtain ⟨A, n, c, e1⟩ := h1.form
  simp only [Value.agg.injEq, Array.mk.injEq, List.cons.injEq, and_true] at e1
  subst e1
  exact ⟨_, A, n, c, e⟩
theorem RatAt.keep (h : RatAt F w v q) (k : Keeps F w w') : RatAt F w' v q := by
  obtain ⟨s, t, e, h1, h2⟩ := h
  exact ⟨s, t, e, h1.keep k, h2.keep k⟩
theorem RatAt.own (h : RatAt F w v q) (hs : ∀ k, G k → F k ∨ w.heap.size ≤ k) : RatAt G w v q := by
  obtain ⟨s, t, e, h1, h2⟩ := h
  exact ⟨s, t, e, h1.own hs, h2.own hs⟩
theorem RatAt.sub (h : RatAt F w v q) (hs : ∀ k, G k → F k) : RatAt G w v q := h.own fun k hk => .inl (hs k hk)
theorem RatAt.form (h : RatAt F w v q) : ∃ b A n c A' n' c', v = .agg #[.bool b, .slice A n c, .slice A' n' c'] := by
  obtain ⟨s, t, e, h1, h2⟩ := h
  obtain ⟨A, n, c, e1⟩ := h1.form
  obtain ⟨A', n', c', e2⟩ := h2.form
  simp only [Value.agg.injEq, Array.mk.injEq, List.cons.injEq, and_true] at e1 e2
  subst e1
  subst e2
  exact ⟨_, A, n, c, A', n', c', e⟩
/-- the parts of one, as they lie -/
theorem IntAt.parts {b : Bool} {s : Value} (h : IntAt F w (.agg #[.bool b, s]) z) : b = decide (z < 0) ∧ NatAt F w (.agg #[s]) z.natAbs := by
  obtain ⟨s', e, h1⟩ := h
  simp only [Value.agg.injEq, Array.mk.injEq, List.cons.injEq, and_true, Value.bool.injEq] at e
  obtain ⟨rfl, rfl⟩ := e
  exact ⟨rfl, h1⟩
theorem RatAt.parts {b : Bool} {s t : Value} (h : RatAt F w (.agg #[.bool b, s, t]) q) : b = decide (q.num < 0) ∧ IntAt F w (.agg #[.bool b, s]) q.num ∧ NatAt F w (.agg #[s]) q.num.natAbs ∧ NatAt F w (.agg #[t]) (denW q) := by
  obtain ⟨s', t', e, h1, h2⟩ := h
  simp only [Value.agg.injEq, Array.mk.injEq, List.cons.injEq, and_true, Value.bool.injEq] at e
  obtain ⟨rfl, rfl, rfl⟩ := e
  exact ⟨rfl, ⟨_, rfl, h1⟩, h1, h2⟩
end

theorem NatAt.words {F : Nat → Prop} {w : World} {A : Option Addr} {n c x : Nat} (h : NatAt F w (.agg #[.slice A n c]) x) : WordsAt F w A x := by
  obtain ⟨A', c', e, _, _, _, h⟩ := h
  simp only [Value.agg.injEq, Array.mk.injEq, List.cons.injEq, and_true, Value.slice.injEq] at e
  obtain ⟨rfl, _, _⟩ := e
  exact h
/-- n cells at A hold the words f -/
def USlice (F : Nat → Prop) (w : World) (A : Option Addr) (n : Nat) (f : Nat → Nat) : Prop :=
  ∀ i, i < n → ∃ g o, A = some ⟨g, o, none⟩ ∧ ¬ F g ∧ g < w.heap.size ∧ w.cell? ⟨g, o + i, none⟩ = some (.int .u64 (f i : Nat))
theorem USlice.keep {F : Nat → Prop} {w w' : World} {A : Option Addr} {n : Nat} {f : Nat → Nat} (h : USlice F w A n f) (k : Keeps F w w') : USlice F w' A n f := fun i hi => by
  obtain ⟨g, o, e, hf, hl, hc⟩ := h i hi
  exact ⟨g, o, e, hf, Nat.lt_of_lt_of_le hl k.1, (World.cell?_of_block (w := w) (k.2 g hl hf)).trans hc⟩
theorem USlice.own {F G : Nat → Prop} {w : World} {A : Option Addr} {n : Nat} {f : Nat → Nat} (h : USlice F w A n f) (hs : ∀ k, G k → F k ∨ w.heap.size ≤ k) : USlice G w A n f := fun i hi => by
  obtain ⟨g, o, e, hf, hl, hc⟩ := h i hi
  exact ⟨g, o, e, fun hg => by rcases hs g hg with h1 | h1; exact hf h1; omega, hl, hc⟩
theorem WordsAt.slice {F : Nat → Prop} {w : World} {A : Option Addr} {x : Nat} (h : WordsAt F w A x) : USlice F w A (nw x) (wd x) := fun i hi => by
  obtain ⟨g, o, e, ⟨hf, _⟩, hl, hc⟩ := h i hi
  exact ⟨g, o, e, hf, hl, hc⟩
/-- what lies at A, if there is something, is a row of words -/
def Typ (w : World) (A : Option Addr) (n : Nat) : Prop := 0 < n → ∀ g o, A = some ⟨g, o, none⟩ → U64 w g
theorem U64.lt {w : World} {g : Nat} (h : U64 w g) : g < w.heap.size := by
  obtain ⟨cs, m, h⟩ := h
  rcases Nat.lt_or_ge g w.heap.size with hlt | hge
  · exact hlt
  · rw [Array.getElem?_eq_none hge] at h; cases h
theorem Typ.alloc {w : World} {A : Option Addr} {n : Nat} (h : Typ w A n) (o : Obj) : Typ (w.alloc o) A n := fun hn g o' e => by
  have hu := h hn g o' e
  obtain ⟨cs, m, hh⟩ := id hu
  exact ⟨cs, m, (Below.heap_alloc w o g hu.lt).trans hh⟩
theorem Typ.le {w : World} {A : Option Addr} {n k : Nat} (h : Typ w A n) (hk : k ≤ n) : Typ w A k := fun hn => h (by omega)

/-- block g is just these cells, none of them frozen -/
def Blk (w : World) (g : Nat) (t : TypeId) (cs : Array Value) : Prop := w.heap[g]? = some (.cells cs t (0, 0))
section
variable {w w' : World} {g : Nat} {t : TypeId} {cs : Array Value}
theorem Blk.lt (h : Blk w g t cs) : g < w.heap.size := by
  rcases Nat.lt_or_ge g w.heap.size with hlt | hge
  · exact hlt
  · unfold Blk at h; rw [Array.getElem?_eq_none hge] at h; cases h
theorem Blk.cell (h : Blk w g t cs) (i : Nat) : w.cell? ⟨g, i, none⟩ = cs[i]? := cell_of_row w g i cs t (0, 0) h
theorem Blk.frozen (h : Blk w g t cs) (i : Nat) : w.frozen? ⟨g, i, none⟩ = false := by
  unfold Blk at h
  simp [World.frozen?, h]
theorem Blk.new (w : World) (t : TypeId) (cs : Array Value) : Blk (w.alloc (.cells cs t)) w.heap.size t cs := heap_alloc_new w _
theorem Blk.new_at (w : World) (t : TypeId) (cs : Array Value) (n : Nat) (hn : n = w.heap.size) : Blk (w.alloc (.cells cs t)) n t cs := by subst hn; exact heap_alloc_new w _
theorem Blk.drew (h : Blk w g t cs) : Blk w.drew g t cs := h
theorem Blk.drewN (h : Blk w g t cs) (n : Nat) : Blk (w.drewN n) g t cs := h
theorem Blk.alloc (h : Blk w g t cs) (o : Obj) : Blk (w.alloc o) g t cs := (Below.heap_alloc w o g h.lt).trans h
theorem Blk.set_ (h : Blk w g t cs) (i : Nat) (u : Value) : Blk (w.setCell ⟨g, i, none⟩ u) g t (cs.setIfInBounds i u) := by
  unfold Blk at h ⊢
  simp [World.setCell, Array.getElem?_modify, h]
theorem Blk.far (h : Blk w g t cs) {p : Addr} (hp : g ≠ p.block) (u : Value) : Blk (w.setCell p u) g t cs := (Below.heap_setCell w p u g hp).trans h
theorem blk_typ {w : World} {O n : Nat} {cs : Array Value} (h : Blk w O 105 cs) : Typ w (some ⟨O, 0, none⟩) n := fun _ g o e => by
  simp only [Option.some.injEq, Addr.mk.injEq, and_true] at e
  obtain ⟨rfl, _⟩ := e
  exact ⟨cs, _, h⟩
theorem Blk.below (h : Blk w g t cs) (hb : Below w.heap.size w w') : Blk w' g t cs := (hb.block g h.lt).trans h
end
/-- F, and some blocks of one's own -/
def Own (F : Nat → Prop) (l : List Nat) (k : Nat) : Prop := F k ∨ k ∈ l
theorem Own.sub {F : Nat → Prop} {l : List Nat} : ∀ k, F k → Own F l k := fun _ h => .inl h
theorem Own.new {F : Nat → Prop} {l : List Nat} {n : Nat} (h : ∀ k ∈ l, n ≤ k) : ∀ k, Own F l k → F k ∨ n ≤ k := fun k hk => hk.imp id (h k)
/-- the blocks of F are there already -/
def Lows (F : Nat → Prop) (w : World) : Prop := ∀ k, F k → k < w.heap.size
theorem Lows.own {F : Nat → Prop} {w W : World} {l : List Nat} (h : Lows F w) (h1 : ∀ k ∈ l, k < W.heap.size) (h2 : w.heap.size ≤ W.heap.size) : Lows (Own F l) W := fun k hk => by
  rcases hk with hk | hk
  · exact Nat.lt_of_lt_of_le (h k hk) h2
  · exact h1 k hk
theorem Lows.new {F : Nat → Prop} {w : World} (h : Lows F w) {g : Nat} (hg : w.heap.size ≤ g) : ¬ F g := fun hf => by have := h g hf; omega
/-- where the walk has come to: w' is the last call's world -/
def Cur (F : Nat → Prop) (w w' : World) : Prop := Keeps F w w'
theorem Cur.mk {F : Nat → Prop} {w w' : World} (h : Keeps F w w') : Cur F w w' := h
theorem Cur.start (F : Nat → Prop) (w : World) : Cur F w w := Keeps.refl _ _
theorem Cur.step {F : Nat → Prop} {w a W b : World} (h : Cur F w a) (k : Keeps F a W) (hb : Below W.heap.size W b) : Keeps F a b ∧ Cur F w b := ⟨k.below hb, Keeps.trans h (k.below hb)⟩
theorem Blk.next {w W w' : World} {g : Nat} {t : TypeId} {cs : Array Value} (h : Blk w g t cs) (k : Blk w g t cs → Blk W g t cs) (hb : Below W.heap.size W w') : Blk w' g t cs := (k h).below hb
theorem below_next {w W w' : World} (h : Below w.heap.size w W) (hb : Below W.heap.size W w') : Below w.heap.size w w' := h.trans (hb.mono h.size)
theorem quiet_add_left {P : Program} {f : FuncId} {args : Array Value} {w : World} {a n : Nat} {v : Value}
    (h : Calls P f args (w.drewN (a + n)) fun e w' => e = .returned v ∧ w.drewN (a + n) = w') :
    Calls P f args (w.drewN (a + n)) fun e w'' => e = .returned v ∧ ∃ m, w'' = w.drewN (a + m) :=
  h.mono fun _ _ ⟨he, hm⟩ => ⟨he, n, hm.symm⟩
theorem quiet_left {P : Program} {f : FuncId} {args : Array Value} {w : World} {n : Nat} {v : Value}
    (h : Calls P f args (w.drewN n) fun e w' => e = .returned v ∧ w.drewN n = w') : Calls P f args (w.drewN n) fun e w'' => e = .returned v ∧ ∃ m, w'' = w.drewN m :=
  h.mono fun _ _ ⟨he, hm⟩ => ⟨he, n, hm.symm⟩
theorem bcell {W w1 : World} (hb : Below W.heap.size W w1) : (∀ b o, b < W.heap.size → w1.cell? ⟨b, o, none⟩ = W.cell? ⟨b, o, none⟩) ∧ (∀ b o, b < W.heap.size → w1.frozen? ⟨b, o, none⟩ = W.frozen? ⟨b, o, none⟩) :=
  ⟨fun b o h => hb.cell (p := ⟨b, o, none⟩) h, fun b o h => hb.frozen (p := ⟨b, o, none⟩) h⟩
theorem keepC {W w1 : World} {p : Addr} {v : Value} (hb : Below W.heap.size W w1) (h : W.cell? p = some v) : w1.cell? p = some v := (hb.cell (World.block_lt_of_cell? W p h)).trans h
theorem keepF {W w1 : World} {p : Addr} {v : Value} (hb : Below W.heap.size W w1) (h : W.cell? p = some v) (hf : W.frozen? p = false) : w1.frozen? p = false := (hb.frozen (World.block_lt_of_cell? W p h)).trans hf
end Go.Proofs.Ytngghjhmfpmilaa
