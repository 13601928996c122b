/- SyP: SyA, SyB, SyC, SyD, SyE, SyF, SyG, SyH, SyI, SyJ, SyK, SyL. -/
import Derived.Test.YtngghjhmfpmilaaOwn
import Derived.Deep.LoopGhost
/- What values are, told in terms; what of it stays as a function changes its own memory. -/
namespace Go.Proofs.Ytngghjhmfpmilaa
open Go.RowKit

/-- the headers of a function's own blocks, as they come to be -/
abbrev Eta := Nat → Nat → Option Value
/-- what a value is: sl: a row that is shared; ep: a pointer to what is shared; own k i: the header of an own block; ref: an address in one; nl, cn: lists -/
inductive SV where
  | any
  | ex (v : Value)
  | nat (x : Nat)
  | int (z : Int)
  | rat (q : Rat)
  | sl (s : Nat) (E : Nat → SV) (n : Nat)
  | ep (a : SV)
  | own (k i : Nat)
  | ref (k i s j off : Nat)
  | nl
  | cn (a b : SV)
  | agg (l : SV)
  | opt (c : Bool) (a : SV)
def hb : Value → Option Nat
  | .pointer (some a) => some a.block
  | .slice (some a) _ _ => some a.block
  | _ => none
/-- all its cells are cells -/
def One (e : Value) : Prop := ∀ u ∈ e.cells.toList, u.oneCell' = true
def flat (vs : List Value) : List Value := vs.flatMap fun v => v.cells.toList
def SV.R : SV → Eta → (Nat → Prop) → World → Value → Prop
  | .any, _, _, _, _ => True
  | .ex u, _, _, _, v => v = u
  | .nat x, _, _, w, v => NatAt (fun _ => False) w v x
  | .int z, _, _, w, v => IntAt (fun _ => False) w v z
  | .rat q, _, _, w, v => RatAt (fun _ => False) w v q
  | .sl s E n, η, A, w, v => ∃ A0 c, v = .slice A0 n c ∧ Nilled A0 n c ∧ n ≤ c ∧ c ≤ maxLen ∧ ∀ i, i < n → ∃ g o, A0 = some ⟨g, o, none⟩ ∧ ¬ A g ∧ g < w.heap.size ∧
      ∃ e : Value, (e.cells.size = s ∧ One e) ∧ (E i).R η A w e ∧ ∀ j u, e.cells[j]? = some u → w.cell? ⟨g, (o + s * i) + j, none⟩ = some u
  | .ep a, η, A, w, v => ∃ g o, v = .pointer (some ⟨g, o, none⟩) ∧ ¬ A g ∧ g < w.heap.size ∧ ∃ e : Value, a.R η A w e ∧ ∀ j u, e.cells[j]? = some u → w.cell? ⟨g, o + j, none⟩ = some u
  | .own k i, η, _, _, v => η k i = some v ∧ v.oneCell' = true
  | .ref k i s j off, η, _, _, v => ∃ h b, η k i = some h ∧ hb h = some b ∧ v = .pointer (some ⟨b, s * j + off, none⟩)
  | .nl, _, _, _, v => v = .tuple #[]
  | .cn a b, η, A, w, v => ∃ x xs, v = .tuple (x :: xs).toArray ∧ a.R η A w x ∧ b.R η A w (.tuple xs.toArray)
  | .agg l, η, A, w, v => ∃ vs : List Value, v = .agg (flat vs).toArray ∧ l.R η A w (.tuple vs.toArray)
  | .opt c a, η, A, w, v => (c = true → a.R η A w v) ∧ (c = false → v = undef)
/-- what stays from one world to another -/
structure Keep (η η' : Eta) (A A' : Nat → Prop) (w w' : World) : Prop where
  eta : ∀ k i v, η k i = some v → η' k i = some v
  size : w.heap.size ≤ w'.heap.size
  u64 : ∀ k, U64 w k → w'.heap[k]? = w.heap[k]?
  blk : ∀ g, g < w.heap.size → ¬ A g → w'.heap[g]? = w.heap[g]?
  avoid : ∀ g, g < w.heap.size → ¬ A g → ¬ A' g
section
variable {η η' η'' : Eta} {A A' A'' : Nat → Prop} {w w' w'' : World}
theorem Keep.ext0 (h : Keep η η' A A' w w') : Ext 0 w w' := ⟨h.size, h.u64, fun k hk => by omega⟩
theorem SV.keep (h : Keep η η' A A' w w') : ∀ (a : SV) (v : Value), a.R η A w v → a.R η' A' w' v := by
  intro a
  induction a with
  | any => intro v _; trivial
  | ex u => intro v hv; exact hv
  | nat x => intro v hv; exact NatAt.ext hv h.ext0
  | int z => intro v hv; exact IntAt.ext hv h.ext0
  | rat q => intro v hv; exact RatAt.ext hv h.ext0
  | sl s E n ih =>
    rintro v ⟨A0, c, e, h1, h2, h3, k⟩
    refine ⟨A0, c, e, h1, h2, h3, fun i hi => ?_⟩
    obtain ⟨g, o, ea, hf, hl, e0, hs, hr, hc⟩ := k i hi
    exact ⟨g, o, ea, h.avoid g hl hf, Nat.lt_of_lt_of_le hl h.size, e0, hs, ih i _ hr, fun j u hj => (World.cell?_of_block (w := w) (h.blk g hl hf)).trans (hc j u hj)⟩
  | ep a ih =>
    rintro v ⟨g, o, ea, hf, hl, e0, hr, hc⟩
    exact ⟨g, o, ea, h.avoid g hl hf, Nat.lt_of_lt_of_le hl h.size, e0, ih _ hr, fun j u hj => (World.cell?_of_block (w := w) (h.blk g hl hf)).trans (hc j u hj)⟩
  | own k i => intro v hv; exact ⟨h.eta k i v hv.1, hv.2⟩
  | ref k i s j off =>
    rintro v ⟨hd, b, h1, h2, h3⟩
    exact ⟨hd, b, h.eta k i hd h1, h2, h3⟩
  | nl => intro v hv; exact hv
  | cn a b iha ihb =>
    rintro v ⟨x, xs, e, h1, h2⟩
    exact ⟨x, xs, e, iha _ h1, ihb _ h2⟩
  | agg l ih =>
    rintro v ⟨vs, e, h1⟩
    exact ⟨vs, e, ih _ h1⟩
  | opt c a ih =>
    intro v hv
    exact ⟨fun hc => ih _ (hv.1 hc), hv.2⟩
theorem Keep.trans (h : Keep η η' A A' w w') (k : Keep η' η'' A' A'' w' w'') : Keep η η'' A A'' w w'' where
  eta := fun i j v hv => k.eta i j v (h.eta i j v hv)
  size := Nat.le_trans h.size k.size
  u64 := fun g hg => (k.u64 g (by obtain ⟨cs, m, e⟩ := hg; exact ⟨cs, m, (h.u64 g ⟨cs, m, e⟩).trans e⟩)).trans (h.u64 g hg)
  blk := fun g hg ha => (k.blk g (Nat.lt_of_lt_of_le hg h.size) (h.avoid g hg ha)).trans (h.blk g hg ha)
  avoid := fun g hg ha => k.avoid g (Nat.lt_of_lt_of_le hg h.size) (h.avoid g hg ha)
/-- what is in the relation, of what there is -/
def SV.mr (a : SV) (η : Eta) (A : Nat → Prop) : MR := ⟨fun w v => a.R η A w v, fun {w w' v} h k => SV.keep (⟨fun _ _ _ e => e, h.size, fun g hg => h.block g hg.lt, fun g hg _ => h.block g hg, fun _ _ e => e⟩ : Keep η η A A w w') a v k⟩
theorem SV.keep_of {a : SV} {v : Value} (h : Keep η η' A A' w w') (k : a.R η A w v) : a.R η' A' w' v := SV.keep h a v k
theorem Keep.weak (h : ∀ g, g < w.heap.size → ¬ A g → ¬ A' g) : Keep η η A A' w w := ⟨fun _ _ _ e => e, Nat.le_refl _, fun _ _ => rfl, fun _ _ _ => rfl, h⟩
end
/-- what an own block holds -/
inductive OB where
  | var (T : TypeId) (a : SV)
  | row (T : TypeId) (s : Nat) (E : Nat → SV) (n : Nat)
def EltS (a : SV) (η : Eta) (A : Nat → Prop) (w : World) (g o s : Nat) : Prop := ∃ e : Value, (e.cells.size = s ∧ One e) ∧ a.R η A w e ∧ ∀ j u, e.cells[j]? = some u → w.cell? ⟨g, o + j, none⟩ = some u
def OB.ok : OB → Eta → (Nat → Prop) → World → Value → Prop
  | .var T a, η, A, w, h => ∃ b v, h = .pointer (some ⟨b, 0, none⟩) ∧ Blk w b T v.cells ∧ a.R η A w v ∧ T ≠ 105
  | .row T s E n, η, A, w, h => ∃ A0 c, h = .slice A0 n c ∧ n ≤ c ∧ c ≤ maxLen ∧ T ≠ 105 ∧ ((A0 = none ∧ n = 0 ∧ c = 0) ∨ ∃ g cs, A0 = some ⟨g, 0, none⟩ ∧ Blk w g T cs ∧ cs.size = s * c ∧ ∀ i, i < n → EltS (E i) η A w g (s * i) s)
inductive Hl where
  | unborn
  | dead
  | one (o : OB)
  | fam (n : Nat) (f : Nat → OB)
  | hole (n : Nat) (f : Nat → OB) (m : Nat)
def Hl.get : Hl → Nat → Option OB
  | .one o, 0 => some o
  | .fam n f, i => if i < n then some (f i) else none
  | .hole n f m, i => if i < n ∧ i ≠ m then some (f i) else none
  | _, _ => none
/-- member i, if these hold -/
def Hl.gs : Hl → Nat → Option OB × List Prop
  | .one o, 0 => (some o, [])
  | .fam n f, i => (some (f i), [i < n])
  | .hole n f m, i => (some (f i), [i < n, i ≠ m])
  | _, _ => (none, [])
/-- c' is c, but for member i, which is o' -/
structure Alt (c c' : Hl) (i : Nat) (o' : OB) : Prop where
  a : ∀ j o1, c'.get j = some o1 → (j = i ∧ o1 = o') ∨ (j ≠ i ∧ c.get j = some o1)
  b : ∀ j o2, c.get j = some o2 → ∃ o1, c'.get j = some o1
  u : c' ≠ .unborn
theorem fam_get {n : Nat} {f : Nat → OB} {i : Nat} : (Hl.fam n f).get i = if i < n then some (f i) else none := by cases i <;> rfl
theorem hole_get {n m : Nat} {f : Nat → OB} {i : Nat} : (Hl.hole n f m).get i = if i < n ∧ i ≠ m then some (f i) else none := by cases i <;> rfl
theorem Alt.one {o o' : OB} : Alt (.one o) (.one o') 0 o' := by
  refine ⟨fun j o1 h => ?_, fun j o2 h => ?_, fun e => by cases e⟩
  · cases j with
    | zero => exact .inl ⟨rfl, (Option.some.inj h).symm⟩
    | succ j => cases h
  · cases j with
    | zero => exact ⟨_, rfl⟩
    | succ j => cases h
theorem Alt.fam {n i : Nat} {f f' : Nat → OB} {o' : OB} (h1 : f' i = o') (h2 : ∀ t, t < n → t ≠ i → f' t = f t) : Alt (.fam n f) (.fam n f') i o' := by
  refine ⟨fun j o1 h => ?_, fun j o2 h => ?_, fun e => by cases e⟩
  · rw [fam_get] at h
    split at h
    · rename_i hj
      have e := Option.some.inj h
      by_cases hji : j = i
      · subst hji; exact .inl ⟨rfl, e.symm.trans h1⟩
      · refine .inr ⟨hji, ?_⟩
        rw [fam_get, if_pos hj, ← e, h2 j hj hji]
    · cases h
  · rw [fam_get] at h
    split at h
    · rename_i hj; exact ⟨f' j, by rw [fam_get, if_pos hj]⟩
    · cases h
section
variable {η η' : Eta} {A A' : Nat → Prop} {w w' : World} {o : OB} {h : Value} {g b off s : Nat}
theorem EltS.keep {a : SV} (k : EltS a η A w g off s) (K : Keep η η' A A' w w') (hg : w'.heap[g]? = w.heap[g]?) : EltS a η' A' w' g off s := by
  obtain ⟨e, hs, hr, hc⟩ := k
  exact ⟨e, hs, SV.keep K _ _ hr, fun j u hj => (World.cell?_of_block (w := w) hg).trans (hc j u hj)⟩
theorem OB.blk_lt (k : o.ok η A w h) (hb' : hb h = some b) : b < w.heap.size ∧ ¬ U64 w b := by
  have key : ∀ {T cs}, Blk w b T cs → T ≠ 105 → b < w.heap.size ∧ ¬ U64 w b := fun {T cs} hb hT => ⟨hb.lt, fun ⟨cs', m, hk⟩ => by
    unfold Blk at hb
    rw [hb] at hk
    simp only [Option.some.injEq, Obj.cells.injEq] at hk
    exact hT hk.2.1⟩
  cases o with
  | var T a =>
    obtain ⟨b', v, rfl, hB, _, hT⟩ := k
    simp only [hb, Option.some.injEq] at hb'
    subst hb'
    exact key hB hT
  | row T s E n =>
    obtain ⟨A0, c, rfl, _, _, hT, h3⟩ := k
    rcases h3 with ⟨rfl, _, _⟩ | ⟨g, cs, rfl, hB, _, _⟩
    · cases hb'
    · simp only [hb, Option.some.injEq] at hb'
      subst hb'
      exact key hB hT
theorem OB.keep (k : o.ok η A w h) (K : Keep η η' A A' w w') (hg : ∀ b, hb h = some b → w'.heap[b]? = w.heap[b]?) : o.ok η' A' w' h := by
  cases o with
  | var T a =>
    obtain ⟨b', v, rfl, hB, hr, hT⟩ := k
    exact ⟨b', v, rfl, (hg b' rfl).trans hB, SV.keep K _ _ hr, hT⟩
  | row T s E n =>
    obtain ⟨A0, c, rfl, h1, h2, hT, h3⟩ := k
    refine ⟨A0, c, rfl, h1, h2, hT, h3.imp id fun ⟨g, cs, ea, hB, hs, he⟩ => ?_⟩
    subst ea
    exact ⟨g, cs, rfl, (hg g rfl).trans hB, hs, fun i hi => (he i hi).keep K (hg g rfl)⟩
theorem OB.hdr (k : o.ok η A w h) : h.oneCell' = true := by
  cases o with
  | var T a => obtain ⟨b', v, rfl, _⟩ := k; rfl
  | row T s E n => obtain ⟨A0, c, rfl, _⟩ := k; rfl
end
/-- the blocks that are not shared: F, and all that is one's own -/
def Av (F : Nat → Prop) (own : Nat → Hl) (η : Eta) : Nat → Prop := fun b => F b ∨ ∃ k i o h, (own k).get i = some o ∧ η k i = some h ∧ hb h = some b
/-- memory since the function began: what was there is as it was, but for what lies in M -/
structure ModM (M : Nat → Prop) (w w' : World) : Prop where
  os : w'.os = w.os
  tape : w'.tape = w.tape
  output : w'.output = w.output
  size : w.heap.size ≤ w'.heap.size
  low : ∀ b, b < w.heap.size → ¬ M b → w'.heap[b]? = w.heap[b]?
  u64 : ∀ b, U64 w b → w'.heap[b]? = w.heap[b]?
theorem ModM.refl (M : Nat → Prop) (w : World) : ModM M w w := ⟨rfl, rfl, rfl, Nat.le_refl _, fun _ _ _ => rfl, fun _ _ => rfl⟩
theorem ModM.trans {M : Nat → Prop} {a b c : World} (h : ModM M a b) (k : ModM M b c) : ModM M a c where
  os := k.os.trans h.os
  tape := k.tape.trans h.tape
  output := k.output.trans h.output
  size := Nat.le_trans h.size k.size
  low := fun g hg hm => (k.low g (Nat.lt_of_lt_of_le hg h.size) hm).trans (h.low g hg hm)
  u64 := fun g hg => (k.u64 g (by obtain ⟨cs, m, e⟩ := hg; exact ⟨cs, m, (h.u64 g ⟨cs, m, e⟩).trans e⟩)).trans (h.u64 g hg)
theorem ModM.of_grow {M : Nat → Prop} {a b : World} (h : Grow a b) : ModM M a b := ⟨h.os, h.tape, h.output, h.size, fun g hg _ => h.block g hg, fun g hg => h.block g hg.lt⟩
theorem ModM.grow {a b : World} (h : ModM (fun _ => False) a b) : Grow a b := ⟨h.os, h.tape, h.output, h.size, fun g hg => h.low g hg id⟩
/-- the heap, as the own blocks are told -/
structure Hp (M F : Nat → Prop) (w0 : World) (own : Nat → Hl) (η : Eta) (w : World) : Prop where
  mod : ModM M w0 w
  ob : ∀ k i o, (own k).get i = some o → ∃ h, η k i = some h ∧ o.ok η (Av F own η) w h
  low : ∀ k i o h b, (own k).get i = some o → η k i = some h → hb h = some b → (w0.heap.size ≤ b ∨ M b) ∧ ¬ F b
  apart : ∀ k i o k' i' o' h h' b, (own k).get i = some o → (own k').get i' = some o' → η k i = some h → η k' i' = some h' → hb h = some b → hb h' = some b → k = k' ∧ i = i'
  born : ∀ k, own k = .unborn → ∀ i, η k i = none
  fl : ∀ b, F b → b < w0.heap.size
def upOwn (own : Nat → Hl) (k : Nat) (c : Hl) : Nat → Hl := fun j => if j = k then c else own j
def upEta (η : Eta) (k : Nat) (f : Nat → Option Value) : Eta := fun j => if j = k then f else η j
section
variable {M F : Nat → Prop} {w0 w w' : World} {own own' : Nat → Hl} {η η' : Eta}
theorem Hp.av_lt (H : Hp M F w0 own η w) {b : Nat} (h : Av F own η b) : b < w.heap.size := by
  rcases h with h | ⟨k, i, o, h, h1, h2, h3⟩
  · exact Nat.lt_of_lt_of_le (H.fl b h) H.mod.size
  · obtain ⟨h', e, hok⟩ := H.ob k i o h1
    rw [h2] at e
    obtain rfl := Option.some.inj e
    exact (OB.blk_lt hok h3).1
/-- memory has grown -/
theorem Hp.grow (H : Hp M F w0 own η w) (g : Grow w w') : Hp M F w0 own η w' ∧ Keep η η (Av F own η) (Av F own η) w w' := by
  have K : Keep η η (Av F own η) (Av F own η) w w' := ⟨fun _ _ _ e => e, g.size, fun k hk => g.block k hk.lt, fun k hk _ => g.block k hk, fun _ _ e => e⟩
  refine ⟨⟨H.mod.trans (.of_grow g), fun k i o hk => ?_, H.low, H.apart, H.born, H.fl⟩, K⟩
  obtain ⟨h, e, hok⟩ := H.ob k i o hk
  exact ⟨h, e, OB.keep hok K fun b hb => g.block b (OB.blk_lt hok hb).1⟩
theorem at_up_ne {k j i : Nat} {c : Hl} (h : j ≠ k) : (upOwn own k c j).get i = (own j).get i := by unfold upOwn; rw [if_neg h]
/-- an own block is let go of -/
theorem Hp.drop (H : Hp M F w0 own η w) (own' : Nat → Hl) (h : ∀ k i o, (own' k).get i = some o → (own k).get i = some o) (hu : ∀ k, own' k = .unborn → own k = .unborn) :
    Hp M F w0 own' η w ∧ Keep η η (Av F own η) (Av F own' η) w w := by
  have hav : ∀ b, Av F own' η b → Av F own η b := fun b hb => hb.imp id fun ⟨k, i, o, hd, h1, h2⟩ => ⟨k, i, o, hd, h _ _ _ h1, h2⟩
  have K : Keep η η (Av F own η) (Av F own' η) w w := Keep.weak fun g _ hg hg' => hg (hav g hg')
  refine ⟨⟨H.mod, fun k i o hk => ?_, fun k i o hd b hk => H.low k i o hd b (h _ _ _ hk), fun k i o k' i' o' hd hd' b h1 h2 => H.apart k i o k' i' o' hd hd' b (h _ _ _ h1) (h _ _ _ h2), fun k hk => H.born k (hu k hk), H.fl⟩, K⟩
  obtain ⟨hd, e, hok⟩ := H.ob k i o (h _ _ _ hk)
  exact ⟨hd, e, OB.keep hok K fun _ _ => rfl⟩
/-- a new own block -/
theorem Hp.add (H : Hp M F w0 own η w) (g : Grow w w') {k : Nat} {o : OB} {h : Value} (hk : own k = .unborn)
    (hn : ∀ b, hb h = some b → w.heap.size ≤ b)
    (hok : Keep η (upEta η k fun i => if i = 0 then some h else none) (Av F own η) (Av F (upOwn own k (.one o)) (upEta η k fun i => if i = 0 then some h else none)) w w' → o.ok (upEta η k fun i => if i = 0 then some h else none) (Av F (upOwn own k (.one o)) (upEta η k fun i => if i = 0 then some h else none)) w' h) :
    Hp M F w0 (upOwn own k (.one o)) (upEta η k fun i => if i = 0 then some h else none) w' ∧ Keep η (upEta η k fun i => if i = 0 then some h else none) (Av F own η) (Av F (upOwn own k (.one o)) (upEta η k fun i => if i = 0 then some h else none)) w w' := by
  have hle : ∀ j i v, η j i = some v → (upEta η k fun i => if i = 0 then some h else none) j i = some v := fun j i v hv => by
    unfold upEta
    split
    · rename_i e; subst e; rw [H.born j hk i] at hv; cases hv
    · exact hv
  have hne : ∀ j i o', j ≠ k → (upOwn own k (.one o) j).get i = some o' → (own j).get i = some o' := fun j i o' hj hh => by rwa [at_up_ne hj] at hh
  have hself : ∀ i o', (upOwn own k (.one o) k).get i = some o' → i = 0 ∧ o' = o := fun i o' hh => by
    unfold upOwn at hh
    rw [if_pos rfl] at hh
    cases i with
    | zero => exact ⟨rfl, (Option.some.inj hh).symm⟩
    | succ i => cases hh
  have heta : ∀ j i v, j ≠ k → (upEta η k fun i => if i = 0 then some h else none) j i = some v → η j i = some v := fun j i v hj hv => by
    unfold upEta at hv
    rwa [if_neg hj] at hv
  have hek : ∀ v, (upEta η k fun i => if i = 0 then some h else none) k 0 = some v → v = h := fun v hv => by
    unfold upEta at hv
    rw [if_pos rfl] at hv
    exact (Option.some.inj hv).symm
  have hav : ∀ b, b < w.heap.size → ¬ Av F own η b → ¬ Av F (upOwn own k (.one o)) (upEta η k fun i => if i = 0 then some h else none) b := fun b hb ha hx => by
    rcases hx with hx | ⟨j, i, o', hd, h1, h2, h3⟩
    · exact ha (.inl hx)
    · by_cases e : j = k
      · subst e
        obtain ⟨rfl, rfl⟩ := hself i o' h1
        obtain rfl := hek hd h2
        have := hn b h3
        omega
      · exact ha (.inr ⟨j, i, o', hd, hne j i o' e h1, heta j i hd e h2, h3⟩)
  have K : Keep η (upEta η k fun i => if i = 0 then some h else none) (Av F own η) (Av F (upOwn own k (.one o)) (upEta η k fun i => if i = 0 then some h else none)) w w' := ⟨hle, g.size, fun j hj => g.block j hj.lt, fun j hj _ => g.block j hj, hav⟩
  have hltw : ∀ j i o' hd b, (own j).get i = some o' → η j i = some hd → hb hd = some b → b < w.heap.size := fun j i o' hd b h1 h2 h3 => by
    obtain ⟨hd', e, hk'⟩ := H.ob j i o' h1
    rw [h2] at e
    obtain rfl := Option.some.inj e
    exact ((OB.blk_lt hk') h3).1
  refine ⟨⟨H.mod.trans (.of_grow g), fun j i o' hj => ?_, fun j i o' hd b hj he hb => ?_, fun j i o1 j' i' o2 h1 h2 b a1 a2 e1 e2 b1 b2 => ?_, fun j hj i => ?_, H.fl⟩, K⟩
  · by_cases e : j = k
    · subst e
      obtain ⟨rfl, rfl⟩ := hself i o' hj
      exact ⟨h, by unfold upEta; rw [if_pos rfl]; rfl, hok K⟩
    · obtain ⟨hd, e1, hk1⟩ := H.ob j i o' (hne j i o' e hj)
      exact ⟨hd, hle _ _ _ e1, OB.keep hk1 K fun b hb => g.block b (OB.blk_lt hk1 hb).1⟩
  · by_cases e : j = k
    · subst e
      obtain ⟨rfl, rfl⟩ := hself i o' hj
      obtain rfl := hek hd he
      have := hn b hb
      exact ⟨.inl (Nat.le_trans H.mod.size this), fun hF => by have := H.fl b hF; have := H.mod.size; omega⟩
    · exact H.low j i o' hd b (hne j i o' e hj) (heta j i hd e he) hb
  · by_cases e : j = k
    · by_cases e' : j' = k
      · subst e; subst e'
        exact ⟨rfl, (hself i o1 a1).1.trans (hself i' o2 a2).1.symm⟩
      · subst e
        obtain ⟨rfl, rfl⟩ := hself i o1 a1
        obtain rfl := hek h1 e1
        have := hn b b1
        have := hltw j' i' o2 h2 b (hne j' i' o2 e' a2) (heta j' i' h2 e' e2) b2
        omega
    · by_cases e' : j' = k
      · subst e'
        obtain ⟨rfl, rfl⟩ := hself i' o2 a2
        obtain rfl := hek h2 e2
        have := hn b b2
        have := hltw j i o1 h1 b (hne j i o1 e a1) (heta j i h1 e e1) b1
        omega
      · exact H.apart j i o1 j' i' o2 h1 h2 b (hne j i o1 e a1) (hne j' i' o2 e' a2) (heta j i h1 e e1) (heta j' i' h2 e' e2) b1 b2
  · unfold upOwn at hj
    unfold upEta
    split at hj
    · cases hj
    · rename_i e
      rw [if_neg e]
      exact H.born j hj i
/-- an own block is changed; it stays the same block -/
theorem Hp.change (H : Hp M F w0 own η w) {k i : Nat} {o o' : OB} {h : Value} {c' : Hl} (hc : Alt (own k) c' i o') (hk : (own k).get i = some o) (he : η k i = some h)
    (psize : w'.heap.size = w.heap.size) (pother : ∀ b, hb h ≠ some b → w'.heap[b]? = w.heap[b]?) (pos : w'.os = w.os) (ptape : w'.tape = w.tape) (pout : w'.output = w.output) (hok : Keep η η (Av F own η) (Av F own η) w w' → o'.ok η (Av F own η) w' h) :
    Hp M F w0 (upOwn own k c') η w' ∧ Keep η η (Av F own η) (Av F (upOwn own k c') η) w w' := by
  obtain ⟨h', e1, hok0⟩ := H.ob k i o hk
  rw [he] at e1
  obtain rfl := Option.some.inj e1
  have hnu : ∀ b, hb h = some b → ¬ U64 w b := fun b hb0 => (OB.blk_lt hok0 hb0).2
  have hmem : ∀ j i' o1, (upOwn own k c' j).get i' = some o1 → (∃ o2, (own j).get i' = some o2) ∧ (j = k → i' = i → o1 = o') ∧ (¬ (j = k ∧ i' = i) → (own j).get i' = some o1) := fun j i' o1 hj => by
    by_cases e : j = k
    · subst e
      unfold upOwn at hj
      rw [if_pos rfl] at hj
      rcases hc.a i' o1 hj with ⟨rfl, rfl⟩ | ⟨e1, e2⟩
      · exact ⟨⟨_, hk⟩, fun _ _ => rfl, fun hn => absurd ⟨rfl, rfl⟩ hn⟩
      · exact ⟨⟨_, e2⟩, fun _ e => absurd e e1, fun _ => e2⟩
    · rw [at_up_ne e] at hj
      exact ⟨⟨_, hj⟩, fun e' => absurd e' e, fun _ => hj⟩
  have hat : ∀ j i' o2, (own j).get i' = some o2 → ∃ o1, (upOwn own k c' j).get i' = some o1 := fun j i' o2 hj => by
    by_cases e : j = k
    · subst e
      unfold upOwn
      rw [if_pos rfl]
      exact hc.b i' o2 hj
    · exact ⟨o2, by rw [at_up_ne e]; exact hj⟩
  have havi : ∀ b, Av F (upOwn own k c') η b ↔ Av F own η b := fun b => ⟨fun hx => hx.imp id fun ⟨j, i', o1, hd, a1, a2⟩ => by
      obtain ⟨⟨o2, a3⟩, _⟩ := hmem j i' o1 a1
      exact ⟨j, i', o2, hd, a3, a2⟩, fun hx => hx.imp id fun ⟨j, i', o1, hd, a1, a2⟩ => by
      obtain ⟨o2, a3⟩ := hat j i' o1 a1
      exact ⟨j, i', o2, hd, a3, a2⟩⟩
  have have' : Av F (upOwn own k c') η = Av F own η := funext fun b => propext (havi b)
  have K : Keep η η (Av F own η) (Av F own η) w w' := ⟨fun _ _ _ e => e, by rw [psize]; exact Nat.le_refl _, fun j hj => pother j fun e => hnu j e hj, fun j _ hj => pother j fun e => hj (.inr ⟨k, i, o, h, hk, he, e⟩), fun _ _ e => e⟩
  rw [have']
  refine ⟨⟨⟨pos.trans H.mod.os, ptape.trans H.mod.tape, pout.trans H.mod.output, by rw [psize]; exact H.mod.size, fun b hb0 hM => (pother b fun e => ?_).trans (H.mod.low b hb0 hM), fun b hb0 => (pother b fun e => ?_).trans (H.mod.u64 b hb0)⟩, fun j i' o1 hj => ?_, fun j i' o1 hd b hj => ?_, fun j i1 o1 j' i2 o2 h1 h2 b a1 a2 => ?_, fun j hj => ?_, H.fl⟩, K⟩
  · rcases (H.low k i o h b hk he e).1 with e | e
    · omega
    · exact hM e
  · obtain ⟨cs, m, e'⟩ := hb0
    exact hnu b e ⟨cs, m, (H.mod.u64 b ⟨cs, m, e'⟩).trans e'⟩
  · rw [have']
    obtain ⟨⟨o2, a2⟩, a3, a4⟩ := hmem j i' o1 hj
    by_cases e : j = k ∧ i' = i
    · obtain ⟨rfl, rfl⟩ := e
      rw [a3 rfl rfl]
      exact ⟨h, he, hok K⟩
    · obtain ⟨hd, e1, hk1⟩ := H.ob j i' o1 (a4 e)
      refine ⟨hd, e1, OB.keep hk1 K fun b hb => pother b fun e' => ?_⟩
      exact e (H.apart j i' o1 k i o hd h b (a4 e) hk e1 he hb e')
  · obtain ⟨⟨o2, a2⟩, _⟩ := hmem j i' o1 hj
    exact H.low j i' o2 hd b a2
  · obtain ⟨⟨o3, a3⟩, _⟩ := hmem j i1 o1 a1
    obtain ⟨⟨o4, a4⟩, _⟩ := hmem j' i2 o2 a2
    exact H.apart j i1 o3 j' i2 o4 h1 h2 b a3 a4
  · refine H.born j ?_
    unfold upOwn at hj
    split at hj
    · exact absurd hj hc.u
    · exact hj
/-- an own row becomes another one: in its place, or in new memory -/
def Hl.kill : Hl → Nat → Hl
  | .one _, _ => .dead
  | .fam n f, i => .hole n f i
  | .hole .., _ => .dead
  | x, _ => x
theorem kill_get {c : Hl} {i j : Nat} {o : OB} (h : (c.kill i).get j = some o) : c.get j = some o ∧ ∀ o', c.get i = some o' → j ≠ i := by
  cases c with
  | unborn => cases j <;> cases h
  | dead => cases j <;> cases h
  | one x => cases j <;> cases h
  | hole n f m => cases j <;> cases h
  | fam n f =>
    have h' : (if j < n ∧ j ≠ i then some (f j) else none) = some o := by rw [← hole_get]; exact h
    split at h'
    · rename_i e
      exact ⟨by rw [fam_get, if_pos e.1]; exact h', fun _ _ => e.2⟩
    · cases h'
theorem kill_unborn {c : Hl} {i : Nat} (h : c.kill i = .unborn) : c = .unborn := by cases c <;> first | rfl | cases h
theorem Hp.turn (H : Hp M F w0 own η w) {k i k' : Nat} {o o' : OB} {h h' : Value} (hk : (own k).get i = some o) (he : η k i = some h) (hk' : own k' = .unborn)
    (hs : w.heap.size ≤ w'.heap.size) (hw : ∀ b, b < w.heap.size → hb h ≠ some b → w'.heap[b]? = w.heap[b]?) (hos : w'.os = w.os) (htp : w'.tape = w.tape) (hou : w'.output = w.output)
    (hn : ∀ b, hb h' = some b → hb h = some b ∨ w.heap.size ≤ b)
    (hok : Keep η (upEta η k' fun i => if i = 0 then some h' else none) (Av F own η) (Av F (upOwn (upOwn own k ((own k).kill i)) k' (.one o')) (upEta η k' fun i => if i = 0 then some h' else none)) w w' →
      o'.ok (upEta η k' fun i => if i = 0 then some h' else none) (Av F (upOwn (upOwn own k ((own k).kill i)) k' (.one o')) (upEta η k' fun i => if i = 0 then some h' else none)) w' h') :
    Hp M F w0 (upOwn (upOwn own k ((own k).kill i)) k' (.one o')) (upEta η k' fun i => if i = 0 then some h' else none) w' ∧ Keep η (upEta η k' fun i => if i = 0 then some h' else none) (Av F own η) (Av F (upOwn (upOwn own k ((own k).kill i)) k' (.one o')) (upEta η k' fun i => if i = 0 then some h' else none)) w w' := by
  obtain ⟨hh, e1, hok0⟩ := H.ob k i o hk
  rw [he] at e1
  obtain rfl := Option.some.inj e1
  have hkk : k' ≠ k := fun e => by rw [e] at hk'; rw [hk'] at hk; cases i <;> cases hk
  have hle : ∀ j i v, η j i = some v → (upEta η k' fun i => if i = 0 then some h' else none) j i = some v := fun j i v hv => by
    unfold upEta
    split
    · rename_i e; subst e; rw [H.born j hk' i] at hv; cases hv
    · exact hv
  have hself : ∀ i o1, (upOwn (upOwn own k ((own k).kill i)) k' (.one o') k').get i = some o1 → i = 0 ∧ o1 = o' := fun i o1 hh => by
    unfold upOwn at hh
    rw [if_pos rfl] at hh
    cases i with
    | zero => exact ⟨rfl, (Option.some.inj hh).symm⟩
    | succ i => cases hh
  have hself' : ∀ j o1, (upOwn (upOwn own k ((own k).kill i)) k' (.one o') k').get j = some o1 → j = 0 ∧ o1 = o' := fun j o1 hh => by
    unfold upOwn at hh
    rw [if_pos rfl] at hh
    cases j with
    | zero => exact ⟨rfl, (Option.some.inj hh).symm⟩
    | succ i => cases hh
  have hne : ∀ j i' o1, j ≠ k' → (upOwn (upOwn own k ((own k).kill i)) k' (.one o') j).get i' = some o1 → (own j).get i' = some o1 ∧ ¬ (j = k ∧ i' = i) := fun j i' o1 hj hh => by
    rw [at_up_ne hj] at hh
    by_cases e : j = k
    · subst e
      unfold upOwn at hh
      rw [if_pos rfl] at hh
      obtain ⟨a1, a2⟩ := kill_get hh
      exact ⟨a1, fun e => a2 o hk e.2⟩
    · rw [at_up_ne e] at hh
      exact ⟨hh, fun e' => e e'.1⟩
  have heta : ∀ j i v, j ≠ k' → (upEta η k' fun i => if i = 0 then some h' else none) j i = some v → η j i = some v := fun j i v hj hv => by
    unfold upEta at hv
    rwa [if_neg hj] at hv
  have hek : ∀ v, (upEta η k' fun i => if i = 0 then some h' else none) k' 0 = some v → v = h' := fun v hv => by
    unfold upEta at hv
    rw [if_pos rfl] at hv
    exact (Option.some.inj hv).symm
  have hav : ∀ b, b < w.heap.size → ¬ Av F own η b → ¬ Av F (upOwn (upOwn own k ((own k).kill i)) k' (.one o')) (upEta η k' fun i => if i = 0 then some h' else none) b := fun b hb0 ha hx => by
    rcases hx with hx | ⟨j, i', o1, hd, h1, h2, h3⟩
    · exact ha (.inl hx)
    · by_cases e : j = k'
      · subst e
        obtain ⟨rfl, rfl⟩ := hself' i' o1 h1
        obtain rfl := hek hd h2
        rcases hn b h3 with e | e
        · exact ha (.inr ⟨k, i, o, h, hk, he, e⟩)
        · omega
      · exact ha (.inr ⟨j, i', o1, hd, (hne j i' o1 e h1).1, heta j i' hd e h2, h3⟩)
  have hnu : ∀ b, hb h = some b → ¬ U64 w b := fun b hb0 => (OB.blk_lt hok0 hb0).2
  have K : Keep η (upEta η k' fun i => if i = 0 then some h' else none) (Av F own η) (Av F (upOwn (upOwn own k ((own k).kill i)) k' (.one o')) (upEta η k' fun i => if i = 0 then some h' else none)) w w' :=
    ⟨hle, hs, fun j hj => hw j hj.lt fun e => hnu j e hj, fun j hj ha => hw j hj fun e => ha (.inr ⟨k, i, o, h, hk, he, e⟩), hav⟩
  have hltw : ∀ j i o' hd b, (own j).get i = some o' → η j i = some hd → hb hd = some b → b < w.heap.size := fun j i o' hd b h1 h2 h3 => by
    obtain ⟨hd', e, hk'⟩ := H.ob j i o' h1
    rw [h2] at e
    obtain rfl := Option.some.inj e
    exact (OB.blk_lt hk' h3).1
  have hapn : ∀ j i2 o2 h2 b, (own j).get i2 = some o2 → ¬ (j = k ∧ i2 = i) → η j i2 = some h2 → hb h2 = some b → hb h' ≠ some b := fun j i2 o2 h2 b a1 a2 a3 a4 a5 => by
    rcases hn b a5 with e | e
    · exact a2 (H.apart j i2 o2 k i o h2 h b a1 hk a3 he a4 e)
    · have := hltw j i2 o2 h2 b a1 a3 a4; omega
  refine ⟨⟨⟨hos.trans H.mod.os, htp.trans H.mod.tape, hou.trans H.mod.output, Nat.le_trans H.mod.size hs, fun b hb0 hM => (hw b (Nat.lt_of_lt_of_le hb0 H.mod.size) fun e => ?_).trans (H.mod.low b hb0 hM), fun b hb0 => ?_⟩, fun j i' o1 hj => ?_, fun j i' o1 hd b hj he' hb' => ?_, fun j i1 o1 j' i2 o2 h1 h2 b a1 a2 e1 e2 b1 b2 => ?_, fun j hj i' => ?_, H.fl⟩, K⟩
  · rcases (H.low k i o h b hk he e).1 with e | e
    · omega
    · exact hM e
  · have hu : U64 w b := by obtain ⟨cs, m, e⟩ := hb0; exact ⟨cs, m, (H.mod.u64 b ⟨cs, m, e⟩).trans e⟩
    exact (hw b hu.lt fun e => hnu b e hu).trans (H.mod.u64 b hb0)
  · by_cases e : j = k'
    · subst e
      obtain ⟨rfl, rfl⟩ := hself' i' o1 hj
      exact ⟨h', by unfold upEta; rw [if_pos rfl]; rfl, hok K⟩
    · obtain ⟨a1, a2⟩ := hne j i' o1 e hj
      obtain ⟨hd, e1, hk1⟩ := H.ob j i' o1 a1
      exact ⟨hd, hle _ _ _ e1, OB.keep hk1 K fun b hb0 => hw b (OB.blk_lt hk1 hb0).1 fun e' => a2 (H.apart j i' o1 k i o hd h b a1 hk e1 he hb0 e')⟩
  · by_cases e : j = k'
    · subst e
      obtain ⟨rfl, rfl⟩ := hself' i' o1 hj
      obtain rfl := hek hd he'
      rcases hn b hb' with e | e
      · exact H.low k i o h b hk he e
      · exact ⟨.inl (Nat.le_trans H.mod.size e), fun hF => by have := H.fl b hF; have := H.mod.size; omega⟩
    · exact H.low j i' o1 hd b (hne j i' o1 e hj).1 (heta j i' hd e he') hb'
  · by_cases e : j = k'
    · by_cases e' : j' = k'
      · subst e; subst e'
        exact ⟨rfl, (hself' i1 o1 a1).1.trans (hself' i2 o2 a2).1.symm⟩
      · subst e
        obtain ⟨rfl, rfl⟩ := hself' i1 o1 a1
        obtain rfl := hek h1 e1
        obtain ⟨c1, c2⟩ := hne j' i2 o2 e' a2
        exact absurd b1 (hapn j' i2 o2 h2 b c1 c2 (heta j' i2 h2 e' e2) b2)
    · by_cases e' : j' = k'
      · subst e'
        obtain ⟨rfl, rfl⟩ := hself' i2 o2 a2
        obtain rfl := hek h2 e2
        obtain ⟨c1, c2⟩ := hne j i1 o1 e a1
        exact absurd b2 (hapn j i1 o1 h1 b c1 c2 (heta j i1 h1 e e1) b1)
      · exact H.apart j i1 o1 j' i2 o2 h1 h2 b (hne j i1 o1 e a1).1 (hne j' i2 o2 e' a2).1 (heta j i1 h1 e e1) (heta j' i2 h2 e' e2) b1 b2
  · unfold upOwn at hj
    unfold upEta
    split at hj
    · cases hj
    · rename_i e
      rw [if_neg e]
      split at hj
      · rename_i e2
        subst e2
        exact H.born j (kill_unborn hj) i'
      · exact H.born j hj i'
end
end Go.Proofs.Ytngghjhmfpmilaa
/- A region by terms: what its operations lead to one after the other in the text's order is what they lead to in every order that Go may choose, if what clashes is ordered. -/
namespace Go.Proofs.Ytngghjhmfpmilaa
open Go.RowKit
structure SSt where
  fr : Tmp → SV
  own : Nat → Hl
/-- frame and heap are as told -/
structure Sat (M F : Nat → Prop) (w0 : World) (N : Nat) (ψ : SSt) (η : Eta) (a : Act) (w : World) : Prop where
  hp : Hp M F w0 ψ.own η w
  sl : ∀ t, (ψ.fr t).R η (Av F ψ.own η) w (a.tmps.getD t undef)
  size : a.tmps.size = N
  dfr : a.defers = []
/-- the slots that an operation looks at or writes, the own blocks that it reads (rd) and writes (wr): do two of them clash? -/
def clash (ops : Array Oper) (wr rd : Nat → List Nat) (i j : Nat) : Bool :=
  (match dstOf ops i, ops[j]? with | some t, some o => (o.looksAt ops).contains t || dstOf ops j == some t | _, _ => false) ||
  (match dstOf ops j, ops[i]? with | some t, some o => (o.looksAt ops).contains t | _, _ => false) ||
  (wr i).any (fun k => (rd j).contains k || (wr j).contains k) || (rd i).any (fun k => (wr j).contains k)
def regOK (md : Region.Mode) (ops : Array Oper) (N : Nat) (wr rd : Nat → List Nat) : Bool :=
  (List.range ops.size).all fun j => (match ops[j]? with | none => false | some o => o.after.all (fun e => !Region.binds md e || decide (e.on < j)) && (match o.dst with | some d => decide (d < N) | none => true)) &&
    (let S := reachL md ops j; (List.range j).all fun i => !clash ops wr rd i j || S.contains i)
section
variable {P : Program} {ops : Array Oper} {Q : Exit → Act → World → Prop} {md : Region.Mode} {σ : Nat → SSt} {wr rd : Nat → List Nat} {M F : Nat → Prop} {w0 : World} {N : Nat}
/-- what is told behind operation i, where ψ is told ahead of it -/
def SSt.step (ψ : SSt) (ops : Array Oper) (σ : Nat → SSt) (wr : Nat → List Nat) (i : Nat) : SSt :=
  { fr := fun t => if dstOf ops i = some t then (σ (i + 1)).fr t else ψ.fr t, own := fun k => if k ∈ wr i then (σ (i + 1)).own k else ψ.own k }
/-- operation i does what is told of it, where the frame is as it looks at it -/
def OpOK (P : Program) (ops : Array Oper) (σ : Nat → SSt) (wr rd : Nat → List Nat) (M F : Nat → Prop) (w0 : World) (N i : Nat) : Prop :=
  ∀ (o : Oper) (ψ : SSt) (η : Eta) (a : Act) (w : World), ops[i]? = some o → (∀ t ∈ o.looksAt ops, ψ.fr t = (σ i).fr t) → (∀ k, k ∈ rd i ∨ k ∈ wr i → ψ.own k = (σ i).own k) → Sat M F w0 N ψ η a w →
    if Region.wanted o (yielded ops a.tmps) = true then Yld P o a.eval w (fun v w' => ∃ η', Sat M F w0 N (ψ.step ops σ wr i) η' (a.put o.dst v) w')
    else ∃ η', Sat M F w0 N (ψ.step ops σ wr i) η' (a.put o.dst undef) w
/-- all that is said of what an operation leaves as it was -/
structure Chain (ops : Array Oper) (σ : Nat → SSt) (wr : Nat → List Nat) : Prop where
  fr : ∀ i, i < ops.size → ∀ t, dstOf ops i ≠ some t → (σ (i + 1)).fr t = (σ i).fr t
  own : ∀ i, i < ops.size → ∀ k, k ∉ wr i → (σ (i + 1)).own k = (σ i).own k
theorem between {α : Type} {f : Nat → α} {W : Nat → Prop} {n : Nat} (hf : ∀ i, i < n → ¬ W i → f (i + 1) = f i) {a : Nat} : ∀ d, a + d ≤ n → (∀ i, a ≤ i → i < a + d → ¬ W i) → f (a + d) = f a
  | 0, _, _ => rfl
  | d + 1, h, hw => by
    rw [show a + (d + 1) = (a + d) + 1 by omega, hf (a + d) (by omega) (hw (a + d) (by omega) (by omega))]
    exact between hf d (by omega) fun i h1 h2 => hw i h1 (by omega)
def CutAt (n : Nat) (listed : Array Bool) (W : Nat → Prop) (k : Nat) : Prop := k ≤ n ∧ (∀ i, i < k → W i → listed.getD i false = true) ∧ ∀ i, k ≤ i → W i → listed.getD i false = false
theorem cut_read {α : Type} {f : Nat → α} {W : Nat → Prop} {n i k : Nat} {listed : Array Bool} (hf : ∀ i, i < n → ¬ W i → f (i + 1) = f i) (hc : CutAt n listed W k) (hi : i < n) (hun : listed.getD i false = false)
    (h1 : ∀ j, j < i → W j → listed.getD j false = true) (h2 : ∀ j, i < j → W j → listed.getD j false = false) : f k = f i := by
  obtain ⟨hk, c1, c2⟩ := hc
  rcases Nat.le_total k i with h | h
  · have := between hf (a := k) (i - k) (by omega) fun j a b hw => by
      have e1 := c2 j a hw
      rw [h1 j (by omega) hw] at e1
      cases e1
    rw [show k + (i - k) = i by omega] at this
    exact this.symm
  · have := between hf (a := i) (k - i) (by omega) fun j a b hw => by
      have e1 := c1 j (by omega) hw
      rcases Nat.lt_or_eq_of_le a with h | h
      · rw [h2 j h hw] at e1; cases e1
      · subst h; rw [hun] at e1; cases e1
    rw [show i + (k - i) = k by omega] at this
    exact this
structure View (ops : Array Oper) (σ : Nat → SSt) (wr : Nat → List Nat) (listed : Array Bool) (ψ : SSt) : Prop where
  fr : ∀ t, ∃ k, CutAt ops.size listed (fun i => dstOf ops i = some t) k ∧ ψ.fr t = (σ k).fr t
  own : ∀ b, ∃ k, CutAt ops.size listed (fun i => b ∈ wr i) k ∧ ψ.own b = (σ k).own b
theorem reg_spec (h : regOK md ops N wr rd = true) : (∀ j o, ops[j]? = some o → (∀ e ∈ o.after, Region.binds md e = true → e.on < j) ∧ ∀ d, o.dst = some d → d < N) ∧ ∀ i j, i < j → j < ops.size → clash ops wr rd i j = true → Dep md ops j i := by
  have h' := fun j hj => List.all_eq_true.1 h j (by simpa using hj)
  refine ⟨fun j o ho => ?_, fun i j hij hj hc => ?_⟩
  · have hj := (Array.getElem?_eq_some_iff.1 ho).1
    have h1 := (Bool.and_eq_true _ _ ▸ h' j hj).1
    rw [ho] at h1
    simp only [Bool.and_eq_true] at h1
    refine ⟨fun e he hb => ?_, fun d hd => ?_⟩
    · have := Array.all_eq_true_iff_forall_mem.1 h1.1 e he
      simp only [hb, Bool.not_true, Bool.false_or, decide_eq_true_eq] at this
      exact this
    · have := h1.2
      rw [hd] at this
      simpa using this
  · have h1 := (Bool.and_eq_true _ _ ▸ h' j hj).2
    have := List.all_eq_true.1 h1 i (by simpa using hij)
    rw [hc] at this
    simp only [Bool.not_true, Bool.false_or] at this
    exact reach_dep j _ [j] (fun x hx => by rw [List.mem_singleton.1 hx]; exact .refl j) i (by rw [List.contains_iff_mem] at this; exact this)
theorem dep_closed {listed : Array Bool} (hcl : ∀ i k, listed.getD i false = true → bindsOn md ops i k = true → listed.getD k false = true) {j : Nat} (hj : listed.getD j false = true) : ∀ {i : Nat}, Dep md ops j i → listed.getD i false = true := by
  intro i h
  induction h with
  | refl => exact hj
  | step h b ih => exact hcl _ _ ih b
theorem clash_slot {i j : Nat} {t : Tmp} {o : Oper} (ho : ops[j]? = some o) (h : dstOf ops i = some t) (h2 : t ∈ o.looksAt ops ∨ dstOf ops j = some t) : clash ops wr rd i j = true := by
  unfold clash
  rw [h, ho]
  simp only [Bool.or_eq_true, List.contains_iff_mem, beq_iff_eq]
  exact .inl (.inl (.inl h2))
theorem clash_slot2 {i j : Nat} {t : Tmp} {o : Oper} (ho : ops[i]? = some o) (h : dstOf ops j = some t) (h2 : t ∈ o.looksAt ops) : clash ops wr rd i j = true := by
  unfold clash
  rw [h, ho]
  simp only [Bool.or_eq_true, List.contains_iff_mem]
  exact .inl (.inl (.inr h2))
theorem clash_own {i j k : Nat} (h : k ∈ wr i) (h2 : k ∈ rd j ∨ k ∈ wr j) : clash ops wr rd i j = true := by
  unfold clash
  simp only [Bool.or_eq_true, List.any_eq_true, List.contains_iff_mem]
  exact .inl (.inr ⟨k, h, h2⟩)
theorem clash_own2 {i j k : Nat} (h : k ∈ rd i) (h2 : k ∈ wr j) : clash ops wr rd i j = true := by
  unfold clash
  simp only [Bool.or_eq_true, List.any_eq_true, List.contains_iff_mem]
  exact .inr ⟨k, h, h2⟩
theorem region_any (hc : regOK md ops N wr rd = true) (hch : Chain ops σ wr) (hop : ∀ i, i < ops.size → OpOK P ops σ wr rd M F w0 N i)
    (hfin : ∀ η a w, Sat M F w0 N (σ ops.size) η a w → Q .normal a w) :
    ∀ (fuel : Nat) (listed : Array Bool) (ψ : SSt) (η : Eta) (a : Act) (w : World), listed.size = ops.size → left ops listed = fuel → View ops σ wr listed ψ → (∀ i j, listed.getD i false = true → bindsOn md ops i j = true → listed.getD j false = true) → Sat M F w0 N ψ η a w → wpAny P md ops Q fuel listed a w := by
  obtain ⟨hlt, hdep⟩ := reg_spec hc
  have fin : ∀ (listed : Array Bool) (ψ : SSt) (η : Eta) (a : Act) (w : World), View ops σ wr listed ψ → (∀ i, i < ops.size → listed.getD i false = true) → Sat M F w0 N ψ η a w → Q .normal a w := by
    intro listed ψ η a w hv hall hs
    have e : ψ = σ ops.size := by
      cases ψ with
      | mk fr own =>
        have e1 : fr = (σ ops.size).fr := funext fun t => by
          obtain ⟨k, ⟨hk, _, c2⟩, e⟩ := hv.fr t
          have := between (W := fun i => dstOf ops i = some t) (f := fun i => (σ i).fr t) (fun i hi hw => hch.fr i hi t hw) (a := k) (ops.size - k) (by omega) fun i h1 h2 hw => by
            have := c2 i h1 hw
            rw [hall i (by omega)] at this
            cases this
          rw [show k + (ops.size - k) = ops.size by omega] at this
          exact e.trans this.symm
        have e2 : own = (σ ops.size).own := funext fun b => by
          obtain ⟨k, ⟨hk, _, c2⟩, e⟩ := hv.own b
          have := between (W := fun i => b ∈ wr i) (f := fun i => (σ i).own b) (fun i hi hw => hch.own i hi b hw) (a := k) (ops.size - k) (by omega) fun i h1 h2 hw => by
            have := c2 i h1 hw
            rw [hall i (by omega)] at this
            cases this
          rw [show k + (ops.size - k) = ops.size by omega] at this
          exact e.trans this.symm
        subst e1; subst e2; rfl
    subst e
    exact hfin η a w hs
  intro fuel
  induction fuel with
  | zero =>
    intro listed ψ η a w hsz hl hv hcl hs
    have hall : ∀ i, i < ops.size → listed.getD i false = true := fun i hi => by
      cases hb : listed.getD i true with
      | true => rw [← getD_tf (by omega)]; exact hb
      | false => exact absurd hl (left_pos hi hb)
    refine ⟨?_, fin listed ψ η a w hv hall hs⟩
    refine List.eq_nil_iff_forall_not_mem.2 fun i hi => ?_
    obtain ⟨h1, o, ho, _⟩ := mem_ready.1 hi
    have := hall i (Array.getElem?_eq_some_iff.1 ho).1
    rw [← getD_tf (by have := (Array.getElem?_eq_some_iff.1 ho).1; omega), h1] at this
    cases this
  | succ fuel ih =>
    intro listed ψ η a w hsz hl hv hcl hs
    refine ⟨fun h0 => ?_, fun i hi => ?_⟩
    · obtain ⟨i, his, hun, hbef⟩ := first_left (ops := ops) (listed := listed) (by omega)
      have ho : ops[i]? = some ops[i] := Array.getElem?_eq_getElem his
      have := ready_of (md := md) ho hun fun e he hb => by
        have := (hlt i _ ho).1 e he hb
        rw [← getD_tf (by omega)]
        exact hbef _ this
      rw [h0] at this
      cases this
    · obtain ⟨hun, o, ho, hpre⟩ := mem_ready.1 hi
      have his := (Array.getElem?_eq_some_iff.1 ho).1
      have hunf : listed.getD i false = false := by rw [← getD_tf (by omega)]; exact hun
      have before : ∀ j, j < i → clash ops wr rd j i = true → listed.getD j false = true := fun j hj hcl2 => by
        rcases dep_listed ho hpre hcl (hdep j i hj his hcl2) with e | e
        · omega
        · exact e
      have behind : ∀ j, i < j → j < ops.size → clash ops wr rd i j = true → listed.getD j false = false := fun j hj hjs hcl2 => by
        cases hb : listed.getD j false with
        | false => rfl
        | true =>
          have := dep_closed hcl hb (hdep i j hj hjs hcl2)
          rw [hunf] at this
          cases this
      have hsome : ∀ j t, dstOf ops j = some t → j < ops.size := fun j t h => by
        unfold dstOf at h
        cases hj : ops[j]? with
        | none => rw [hj] at h; cases h
        | some _ => exact (Array.getElem?_eq_some_iff.1 hj).1
      have hslot : ∀ t ∈ o.looksAt ops, ψ.fr t = (σ i).fr t := fun t ht => by
        obtain ⟨k, hk, e⟩ := hv.fr t
        rw [e]
        exact cut_read (f := fun i => (σ i).fr t) (fun i hi hw => hch.fr i hi t hw) hk his hunf (fun j hj hw => before j hj (clash_slot ho hw (.inl ht))) fun j hj hw => behind j hj (hsome j t hw) (clash_slot2 ho hw ht)
      have hown : ∀ b, b ∈ rd i ∨ b ∈ wr i → ψ.own b = (σ i).own b := fun b hbm => by
        obtain ⟨k, hk, e⟩ := hv.own b
        rw [e]
        refine cut_read (f := fun i => (σ i).own b) (fun i hi hw => hch.own i hi b hw) hk his hunf (fun j hj hw => before j hj (clash_own hw hbm)) fun j hj hw => ?_
        rcases Nat.lt_or_ge j ops.size with hjs | hjs
        · exact behind j hj hjs (by rcases hbm with h | h; exact clash_own2 h hw; exact clash_own h (.inr hw))
        · simp [Array.getElem?_eq_none (show listed.size ≤ j by omega)]
      have hop' := hop i his o ψ η a w ho hslot hown hs
      have hnext : ∀ v w' η', Sat M F w0 N (ψ.step ops σ wr i) η' (a.put o.dst v) w' → wpAny P md ops Q fuel (listed.setIfInBounds i true) (a.put o.dst v) w' := fun v w' η' hs' => by
        refine ih _ _ η' _ _ (by simpa using hsz) (by have := left_put (ops := ops) hsz his hun; omega) ⟨fun t => ?_, fun b => ?_⟩ (fun j m hj hb => ?_) hs'
        · by_cases e : dstOf ops i = some t
          · refine ⟨i + 1, ⟨by omega, fun j hj hw => ?_, fun j hj hw => ?_⟩, if_pos e⟩
            · by_cases e2 : j = i
              · subst e2; simp [show j < listed.size by omega]
              · rw [getD_set_ne false (Ne.symm e2)]; exact before j (by omega) (clash_slot ho hw (.inr e))
            · rw [getD_set_ne false (by omega)]
              exact behind j (by omega) (hsome j t hw) (clash_slot (Array.getElem?_eq_getElem (hsome j t hw)) e (.inr hw))
          · obtain ⟨k, ⟨hk, c1, c2⟩, e1⟩ := hv.fr t
            have hne : ∀ j, dstOf ops j = some t → j ≠ i := fun j hw e2 => e (e2 ▸ hw)
            exact ⟨k, ⟨hk, fun j hj hw => by rw [getD_set_ne false (Ne.symm (hne j hw))]; exact c1 j hj hw, fun j hj hw => by rw [getD_set_ne false (Ne.symm (hne j hw))]; exact c2 j hj hw⟩, (if_neg e).trans e1⟩
        · by_cases e : b ∈ wr i
          · refine ⟨i + 1, ⟨by omega, fun j hj hw => ?_, fun j hj hw => ?_⟩, if_pos e⟩
            · by_cases e2 : j = i
              · subst e2; simp [show j < listed.size by omega]
              · rw [getD_set_ne false (Ne.symm e2)]; exact before j (by omega) (clash_own hw (.inr e))
            · rw [getD_set_ne false (by omega)]
              rcases Nat.lt_or_ge j ops.size with hjs | hjs
              · exact behind j (by omega) hjs (clash_own e (.inr hw))
              · simp [Array.getElem?_eq_none (show listed.size ≤ j by omega)]
          · obtain ⟨k, ⟨hk, c1, c2⟩, e1⟩ := hv.own b
            have hne : ∀ j, b ∈ wr j → j ≠ i := fun j hw e2 => e (e2 ▸ hw)
            exact ⟨k, ⟨hk, fun j hj hw => by rw [getD_set_ne false (Ne.symm (hne j hw))]; exact c1 j hj hw, fun j hj hw => by rw [getD_set_ne false (Ne.symm (hne j hw))]; exact c2 j hj hw⟩, (if_neg e).trans e1⟩
        · by_cases e : j = i
          · subst e
            unfold bindsOn at hb
            rw [ho] at hb
            obtain ⟨e, he, hb⟩ := Array.any_eq_true'.1 hb
            simp only [Bool.and_eq_true, beq_iff_eq] at hb
            rw [← hb.2]
            exact getD_set_true (hpre e he hb.1)
          · exact getD_set_true (hcl j m (by rw [← getD_set_ne false (Ne.symm e)]; exact hj) hb)
      unfold wpOp
      rw [ho]
      by_cases hw : Region.wanted o (yielded ops a.tmps) = true
      · rw [if_pos hw] at hop'
        simp only [hw, if_true]
        exact .inl (Yld.wp hop' fun v w' ⟨η', hs'⟩ => hnext v w' η' hs')
      · rw [if_neg hw] at hop'
        simp only [hw]
        obtain ⟨η', hs'⟩ := hop'
        exact hnext undef w η' hs'
theorem region_list (hch : Chain ops σ wr) (hop : ∀ i, i < ops.size → OpOK P ops σ wr rd M F w0 N i) (hfin : ∀ η a w, Sat M F w0 N (σ ops.size) η a w → Q .normal a w) :
    ∀ (d k : Nat) (η : Eta) (a : Act) (w : World), k + d = ops.size → Sat M F w0 N (σ k) η a w → wpList P ops Q (ops.toList.drop k) a w := by
  intro d
  induction d with
  | zero =>
    intro k η a w hk hs
    obtain rfl : k = ops.size := by omega
    rw [List.drop_eq_nil_of_le (by simp)]
    exact hfin η a w hs
  | succ d ih =>
    intro k η a w hk hs
    have hks : k < ops.size := by omega
    have ho : ops[k]? = some ops[k] := Array.getElem?_eq_getElem hks
    have hdrop : ops.toList.drop k = ops[k] :: ops.toList.drop (k + 1) := by
      rw [List.drop_eq_getElem_cons (by simpa using hks)]
      congr 1
    have hop' := hop k hks _ (σ k) η a w ho (fun _ _ => rfl) (fun _ _ => rfl) hs
    have e : (σ k).step ops σ wr k = σ (k + 1) := by
      have e1 : ((σ k).step ops σ wr k).fr = (σ (k + 1)).fr := funext fun t => by
        show (if dstOf ops k = some t then _ else _) = _
        split
        · rfl
        · rename_i h; exact (hch.fr k hks t h).symm
      have e2 : ((σ k).step ops σ wr k).own = (σ (k + 1)).own := funext fun b => by
        show (if b ∈ wr k then _ else _) = _
        split
        · rfl
        · rename_i h; exact (hch.own k hks b h).symm
      generalize (σ k).step ops σ wr k = x at e1 e2
      generalize σ (k + 1) = y at e1 e2
      cases x; cases y
      simp only at e1 e2
      subst e1; subst e2; rfl
    rw [e] at hop'
    rw [hdrop]
    unfold wpList
    by_cases hw : Region.wanted ops[k] (yielded ops a.tmps) = true
    · rw [if_pos hw] at hop' ⊢
      exact .inl (Yld.wp hop' fun v w' ⟨η', hs'⟩ => ih (k + 1) η' _ w' (by omega) hs')
    · rw [if_neg hw] at hop' ⊢
      obtain ⟨η', hs'⟩ := hop'
      exact ih (k + 1) η' _ w (by omega) hs'
theorem Sat.drew {ψ : SSt} {η : Eta} {a : Act} {w : World} (h : Sat M F w0 N ψ η a w) : Sat M F w0 N ψ η a w.drew := by
  obtain ⟨h1, K⟩ := h.hp.grow ((Grow.refl w).drew)
  exact ⟨h1, fun t => SV.keep K _ _ (h.sl t), h.size, h.dfr⟩
/-- THE REGION -/
theorem region_go {id : Nat} {draw : Bool} {η : Eta} {a : Act} {w : World} (hm : P.follows .mixedOrders = true) (hc : draw = true → regOK .any ops N wr rd = true) (hch : Chain ops σ wr) (hop : ∀ i, i < ops.size → OpOK P ops σ wr rd M F w0 N i)
    (hs : Sat M F w0 N (σ 0) η a w) (hfin : ∀ η a w, Sat M F w0 N (σ ops.size) η a w → Q .normal a w) : (Code.region id ops draw).wp P Q a w := by
  cases draw with
  | true =>
    refine wp_region_any hm (region_any (hc rfl) hch hop hfin ops.size _ (σ 0) η a _ (by simp) ?_ ⟨fun t => ⟨0, ⟨Nat.zero_le _, fun i hi => by omega, fun i _ _ => ?_⟩, rfl⟩, fun b => ⟨0, ⟨Nat.zero_le _, fun i hi => by omega, fun i _ _ => ?_⟩, rfl⟩⟩ (fun i j h => ?_) hs.drew)
    · have := left_tail (ops := ops) (n := 0) (listed := Array.replicate ops.size false) (by simp) (fun i hi => by omega) (fun i _ => by simp [Array.getElem?_replicate]; split <;> rfl)
      simpa using this
    · simp [Array.getElem?_replicate]; split <;> rfl
    · simp [Array.getElem?_replicate]; split <;> rfl
    · simp [Array.getElem?_replicate] at h; split at h <;> cases h
  | false =>
    refine wp_region_list ?_
    have := region_list (wr := wr) (rd := rd) hch hop hfin ops.size 0 η a w (by omega) hs
    simpa using this
end
end Go.Proofs.Ytngghjhmfpmilaa
/- Cells of what is told: structs' parts, what is read and written at an address. -/
namespace Go.Proofs.Ytngghjhmfpmilaa
open Go.RowKit
theorem one_cells {v : Value} (h : v.oneCell' = true) : v.cells = #[v] := by cases v <;> first | rfl | cases h
/-- how many cells -/
def SV.sz : SV → Nat
  | .ex v => v.cells.size
  | .int _ => 2
  | .rat _ => 3
  | .nl => 0
  | .cn a b => a.sz + b.sz
  | .agg l => l.sz
  | _ => 1
/-- a struct, or one cell, or not known -/
def SV.kind : SV → Option Bool
  | .ex (.agg _) => some true
  | .ex (.tuple _) => none
  | .ex _ => some false
  | .nat _ | .int _ | .rat _ | .agg _ => some true
  | .sl .. | .ep _ | .own .. | .ref .. => some false
  | _ => none
def SV.isL : SV → Bool
  | .cn .. | .nl => true
  | _ => false
/-- all cells are known to be cells -/
def SV.solid : SV → Bool
  | .any | .opt .. => false
  | .ex v => v.cells.all (·.oneCell')
  | .cn a b => a.solid && a.kind.isSome && b.solid && b.isL
  | .agg l => l.solid && l.isL
  | _ => true
section
variable {η : Eta} {A : Nat → Prop} {w : World} {v : Value} {a l s : SV}
theorem flat_cons (x : Value) (xs : List Value) : flat (x :: xs) = x.cells.toList ++ flat xs := rfl
theorem agg_cells (cs : List Value) : (Value.agg cs.toArray).cells.toList = cs := by simp [Value.cells]
/-- shapes of values -/
def Shp (k : Bool) (n : Nat) (v : Value) : Prop := v.cells.size = n ∧ (∀ u ∈ v.cells.toList, u.oneCell' = true) ∧ (k = true → ∃ cs, v = .agg cs) ∧ (k = false → v.oneCell' = true)
theorem SV.shape : ∀ (a : SV) (v : Value), a.solid = true → a.R η A w v → (∀ k, a.kind = some k → Shp k a.sz v) ∧
    (a.isL = true → ∃ vs : List Value, v = .tuple vs.toArray ∧ (flat vs).length = a.sz ∧ ∀ u ∈ flat vs, u.oneCell' = true) := by
  intro a
  induction a with
  | any => intro v h; cases h
  | ex u =>
    intro v hs hv
    obtain rfl : v = u := hv
    refine ⟨fun k hk => ?_, (fun h => by cases h)⟩
    have h1 : ∀ x ∈ v.cells.toList, x.oneCell' = true := fun x hx => Array.all_eq_true_iff_forall_mem.1 hs x (by simpa using hx)
    refine ⟨rfl, h1, fun e => ?_, fun e => ?_⟩
    · subst e
      cases v <;> first | exact ⟨_, rfl⟩ | (simp [SV.kind] at hk)
    · subst e
      cases v <;> first | rfl | (simp [SV.kind] at hk)
  | nat x =>
    intro v _ hv
    refine ⟨fun k hk => ?_, (fun h => by cases h)⟩
    obtain ⟨A, c, rfl, _⟩ : NatAt _ w v x := hv
    cases hk
    exact ⟨rfl, by simp [Value.cells, Value.oneCell'], fun _ => ⟨_, rfl⟩, fun e => by cases e⟩
  | int z =>
    intro v _ hv
    refine ⟨fun k hk => ?_, (fun h => by cases h)⟩
    obtain ⟨b, A, n, c, rfl⟩ := IntAt.form (show IntAt _ w v z from hv)
    cases hk
    exact ⟨rfl, by simp [Value.cells, Value.oneCell'], fun _ => ⟨_, rfl⟩, fun e => by cases e⟩
  | rat q =>
    intro v _ hv
    refine ⟨fun k hk => ?_, (fun h => by cases h)⟩
    obtain ⟨b, A, n, c, A', n', c', rfl⟩ := RatAt.form (show RatAt _ w v q from hv)
    cases hk
    exact ⟨rfl, by simp [Value.cells, Value.oneCell'], fun _ => ⟨_, rfl⟩, fun e => by cases e⟩
  | sl s E n =>
    rintro v _ ⟨A0, c, rfl, _⟩
    refine ⟨fun k hk => ?_, (fun h => by cases h)⟩
    cases hk
    exact ⟨rfl, by simp [Value.cells, Value.oneCell'], (fun e => by cases e), fun _ => rfl⟩
  | ep a =>
    rintro v _ ⟨g, o, rfl, _⟩
    refine ⟨fun k hk => ?_, (fun h => by cases h)⟩
    cases hk
    exact ⟨rfl, by simp [Value.cells, Value.oneCell'], (fun e => by cases e), fun _ => rfl⟩
  | own k i =>
    rintro v _ ⟨_, hv⟩
    refine ⟨fun k hk => ?_, (fun h => by cases h)⟩
    cases hk
    refine ⟨by rw [one_cells hv]; rfl, ?_, (fun e => by cases e), fun _ => hv⟩
    rw [one_cells hv]; simpa using hv
  | ref k i s j off =>
    rintro v _ ⟨h, b, _, _, rfl⟩
    refine ⟨fun k hk => ?_, (fun h => by cases h)⟩
    cases hk
    exact ⟨rfl, by simp [Value.cells, Value.oneCell'], (fun e => by cases e), fun _ => rfl⟩
  | nl =>
    intro v _ hv
    obtain rfl : v = .tuple #[] := hv
    exact ⟨(fun k hk => by cases hk), fun _ => ⟨[], rfl, rfl, fun u hu => by cases hu⟩⟩
  | cn a b iha ihb =>
    rintro v hs ⟨x, xs, rfl, h1, h2⟩
    refine ⟨(fun k hk => by cases hk), fun _ => ?_⟩
    simp only [SV.solid, Bool.and_eq_true] at hs
    obtain ⟨⟨⟨s1, s2⟩, s3⟩, s4⟩ := hs
    obtain ⟨k, hk⟩ := Option.isSome_iff_exists.1 s2
    obtain ⟨p1, p2, p3, p4⟩ := (iha x s1 h1).1 k hk
    obtain ⟨vs, e, q1, q2⟩ := (ihb _ s3 h2).2 s4
    simp only [Value.tuple.injEq] at e
    have e' : xs = vs := by simpa using congrArg Array.toList e
    subst e'
    refine ⟨x :: xs, rfl, ?_, ?_⟩
    · rw [flat_cons, List.length_append, q1, Array.length_toList, p1]; rfl
    · intro u hu
      rw [flat_cons] at hu
      rcases List.mem_append.1 hu with h | h
      · exact p2 u h
      · exact q2 u h
  | agg l ih =>
    rintro v hs ⟨vs, rfl, h1⟩
    refine ⟨fun k hk => ?_, (fun h => by cases h)⟩
    cases hk
    simp only [SV.solid, Bool.and_eq_true] at hs
    obtain ⟨vs', e, q1, q2⟩ := (ih _ hs.1 h1).2 hs.2
    simp only [Value.tuple.injEq] at e
    have e' : vs = vs' := by simpa using congrArg Array.toList e
    subst e'
    refine ⟨?_, ?_, fun _ => ⟨_, rfl⟩, fun e => by cases e⟩
    · simp only [Value.cells, List.size_toArray]; exact q1
    · simp only [Value.cells]; exact q2
  | opt c a => intro v h; cases h

theorem Shp.cells {k : Bool} {n : Nat} (h : Shp k n v) : v.cells.toList.length = n := by rw [Array.length_toList]; exact h.1
end
def exL : List Value → SV
  | [] => .nl
  | c :: cs => .cn (.ex c) (exL cs)
/-- the part of n cells from cell off on -/
def SV.sub (n : Nat) (k : Bool) : SV → Nat → Option SV
  | .cn a b, off => if off = 0 ∧ a.sz = n ∧ a.kind = some k then some a else if a.sz ≤ off then SV.sub n k b (off - a.sz) else SV.sub n k a off
  | .agg l, off => SV.sub n k l off
  | .ex (.agg cs), off => if n = 1 ∧ k = false then cs.toList[off]?.map .ex else none
  | _, _ => none
/-- without the first n cells -/
def SV.dropN : SV → Nat → Option SV
  | l, 0 => some l
  | .cn a b, n + 1 => if 0 < a.sz ∧ a.sz ≤ n + 1 then SV.dropN b (n + 1 - a.sz) else none
  | _, _ + 1 => none
def SV.put (n : Nat) (k : Bool) (s : SV) : SV → Nat → Option SV
  | .cn a b, 0 => match SV.dropN (.cn a b) n with
    | some b' => some (.cn s b')
    | none => (SV.put n k s a 0).map (.cn · b)
  | .cn a b, off + 1 => if a.sz ≤ off + 1 then (SV.put n k s b (off + 1 - a.sz)).map (.cn a ·) else (SV.put n k s a (off + 1)).map (.cn · b)
  | .agg l, off => (SV.put n k s l off).map .agg
  | _, _ => none
def SV.part (n : Nat) (k : Bool) (a : SV) (off : Nat) : Option SV := if off = 0 ∧ a.sz = n ∧ a.kind = some k then some a else SV.sub n k a off
def SV.upd (n : Nat) (k : Bool) (s a : SV) (off : Nat) : Option SV := if off = 0 ∧ a.sz = n ∧ a.kind = some k then some s else match a with
  | .ex (.agg cs) => (SV.put n k s (exL cs.toList) off).map .agg
  | a => SV.put n k s a off
def cellsOf : Value → List Value
  | .tuple vs => flat vs.toList
  | v => v.cells.toList
section
variable {η : Eta} {A : Nat → Prop} {w : World} {n : Nat} {k : Bool}
theorem tup_inj {xs ys : List Value} (h : Value.tuple xs.toArray = .tuple ys.toArray) : xs = ys := by
  simp only [Value.tuple.injEq] at h
  simpa using congrArg Array.toList h
theorem cn_solid {a b : SV} (h : (SV.cn a b).solid = true) : a.solid = true ∧ (∃ k, a.kind = some k) ∧ b.solid = true ∧ b.isL = true := by
  simp only [SV.solid, Bool.and_eq_true] at h
  exact ⟨h.1.1.1, Option.isSome_iff_exists.1 h.1.1.2, h.1.2, h.2⟩
theorem cellsOf_shp {v : Value} (h : Shp k n v) : cellsOf v = v.cells.toList := by
  cases v <;> first | rfl | skip
  rename_i vs
  cases k with
  | true => obtain ⟨cs, e⟩ := h.2.2.1 rfl; cases e
  | false => cases h.2.2.2 rfl
theorem cellsOf_tup (vs : List Value) : cellsOf (.tuple vs.toArray) = flat vs := rfl
theorem cellsOf_cn (x : Value) (xs : List Value) : cellsOf (.tuple (x :: xs).toArray) = x.cells.toList ++ flat xs := rfl
theorem sub_ok : ∀ (l : SV) (off : Nat) (v : Value) (a : SV), l.solid = true → l.R η A w v → SV.sub n k l off = some a →
    ∃ x, a.R η A w x ∧ a.solid = true ∧ Shp k n x ∧ ∀ j u, x.cells[j]? = some u → (cellsOf v)[off + j]? = some u := by
  intro l
  induction l with
  | cn a0 b iha ihb =>
    rintro off v a hs ⟨x, xs, rfl, h1, h2⟩ h
    obtain ⟨s1, ⟨k0, hk0⟩, s3, s4⟩ := cn_solid hs
    have hsx := (SV.shape a0 x s1 h1).1 k0 hk0
    rw [SV.sub] at h
    rw [cellsOf_cn]
    split at h
    · rename_i hc
      obtain ⟨rfl, hz, hk⟩ := hc
      obtain rfl := Option.some.inj h
      refine ⟨x, h1, s1, hz ▸ (SV.shape a0 x s1 h1).1 k hk, fun j u hj => ?_⟩
      rw [Nat.zero_add, List.getElem?_append_left (by rw [Array.length_toList]; exact (Array.getElem?_eq_some_iff.1 hj).1), Array.getElem?_toList]
      exact hj
    · split at h
      · rename_i hle
        obtain ⟨v, p1, p2, p3, p4⟩ := ihb (off - a0.sz) _ a s3 h2 h
        refine ⟨v, p1, p2, p3, fun j u hj => ?_⟩
        have := p4 j u hj
        rw [cellsOf_tup] at this
        rw [List.getElem?_append_right (by rw [hsx.cells]; omega), hsx.cells, ← this]
        congr 1
        omega
      · obtain ⟨v, p1, p2, p3, p4⟩ := iha off x a s1 h1 h
        refine ⟨v, p1, p2, p3, fun j u hj => ?_⟩
        have := p4 j u hj
        rw [cellsOf_shp hsx] at this
        rw [List.getElem?_append_left (List.getElem?_eq_some_iff.1 this).1]
        exact this
  | agg l ih =>
    rintro off v a hs ⟨vs, rfl, h1⟩ h
    simp only [SV.solid, Bool.and_eq_true] at hs
    obtain ⟨v, p1, p2, p3, p4⟩ := ih off _ a hs.1 h1 h
    exact ⟨v, p1, p2, p3, p4⟩
  | ex u =>
    intro off v a hs hv h
    obtain rfl : v = u := hv
    cases v <;> first | (cases h; done) | skip
    rename_i cs
    rw [SV.sub] at h
    split at h
    · rename_i hc
      obtain ⟨rfl, rfl⟩ := hc
      obtain ⟨x, hx, rfl⟩ := Option.map_eq_some_iff.1 h
      have h1 : x.oneCell' = true := Array.all_eq_true_iff_forall_mem.1 (show cs.all (·.oneCell') = true from hs) x (by rw [← Array.mem_toList_iff]; exact List.mem_of_getElem? hx)
      refine ⟨x, rfl, ?_, ⟨by rw [one_cells h1]; rfl, by rw [one_cells h1]; simpa using h1, (fun e => by cases e), fun _ => h1⟩, fun j u hj => ?_⟩
      · show x.cells.all _ = true
        rw [one_cells h1]; simp [h1]
      · rw [one_cells h1] at hj
        cases j with
        | zero => simp at hj; subst hj; exact hx
        | succ j => simp at hj
    · cases h
  | _ => intro _ _ _ _ _ h; cases h
theorem kind_one {c : Value} (h : c.oneCell' = true) : (SV.ex c).kind = some false := by cases c <;> first | rfl | cases h
theorem exL_ok : ∀ (cs : List Value), (∀ c ∈ cs, c.oneCell' = true) → (exL cs).R η A w (.tuple cs.toArray) ∧ (exL cs).solid = true ∧ (exL cs).isL = true ∧ flat cs = cs ∧ (exL cs).sz = cs.length
  | [], _ => ⟨rfl, rfl, rfl, rfl, rfl⟩
  | c :: cs, h => by
    obtain ⟨h1, h2, h3, h4, h5⟩ := exL_ok cs fun c hc => h c (by simp [hc])
    have hc := h c (by simp)
    refine ⟨⟨c, cs, rfl, rfl, h1⟩, ?_, rfl, by rw [flat_cons, h4, one_cells hc]; rfl, ?_⟩
    · show ((c.cells.all (·.oneCell')) && (SV.kind (.ex c)).isSome && (exL cs).solid && (exL cs).isL) = true
      rw [one_cells hc, h2, h3, kind_one hc]
      simp [hc]
    · show c.cells.size + (exL cs).sz = _
      rw [one_cells hc, h5, List.length_cons]; simp; omega
theorem dropN_ok : ∀ (l : SV) (n : Nat) (vs : List Value) (l' : SV), l.solid = true → l.isL = true → l.R η A w (.tuple vs.toArray) → SV.dropN l n = some l' →
    ∃ vs' : List Value, l'.R η A w (.tuple vs'.toArray) ∧ l'.solid = true ∧ l'.isL = true ∧ flat vs' = (flat vs).drop n ∧ n ≤ (flat vs).length ∧ l'.sz + n = l.sz := by
  intro l
  induction l with
  | cn a b iha ihb =>
    intro n vs l' hs hl hR h
    cases n with
    | zero =>
      obtain rfl := Option.some.inj h
      exact ⟨vs, hR, hs, rfl, by simp, by omega, rfl⟩
    | succ n =>
      rw [SV.dropN] at h
      split at h
      · rename_i hc
        obtain ⟨x, xs, e, h1, h2⟩ := hR
        obtain rfl := tup_inj e
        obtain ⟨s1, ⟨k0, hk0⟩, s3, s4⟩ := cn_solid hs
        have hx := ((SV.shape a x s1 h1).1 k0 hk0).cells
        obtain ⟨vs', p1, p2, p3, p4, p5, p6⟩ := ihb _ xs l' s3 s4 h2 h
        refine ⟨vs', p1, p2, p3, ?_, ?_, ?_⟩
        · have e2 : x.cells.toList.drop (n + 1) = [] := List.drop_of_length_le (by omega)
          rw [p4, flat_cons, List.drop_append, e2, hx]; rfl
        · rw [flat_cons, List.length_append]; omega
        · show _ = a.sz + b.sz; omega
      · cases h
  | nl =>
    intro n vs l' hs hl hR h
    cases n with
    | zero =>
      obtain rfl := Option.some.inj h
      exact ⟨vs, hR, hs, rfl, by simp, by omega, rfl⟩
    | succ n => cases h
  | _ => intro _ _ _ _ hl; cases hl
theorem put_ok {s : SV} {x : Value} (hs : s.solid = true) (hk : s.kind = some k) (hz : s.sz = n) (hR : s.R η A w x) : ∀ (l : SV) (off : Nat) (v : Value) (l' : SV), l.solid = true → l.R η A w v → SV.put n k s l off = some l' →
    ∃ v', l'.R η A w v' ∧ l'.solid = true ∧ l'.isL = l.isL ∧ l'.kind = l.kind ∧ l'.sz = l.sz ∧ cellsOf v' = (cellsOf v).take off ++ x.cells.toList ++ (cellsOf v).drop (off + n) ∧ off + n ≤ (cellsOf v).length ∧ (∀ vs : List Value, v = .tuple vs.toArray → ∃ vs' : List Value, v' = .tuple vs'.toArray) := by
  have hsx := hz ▸ (SV.shape s x hs hR).1 k hk
  have hxl := hsx.cells
  intro l
  induction l with
  | cn a0 b iha ihb =>
    intro off v l' hs0 hR0 h
    have hR1 := hR0
    obtain ⟨y, ys, rfl, h1, h2⟩ := hR0
    obtain ⟨s1, ⟨k0, hk0⟩, s3, s4⟩ := cn_solid hs0
    have hsy := (SV.shape a0 y s1 h1).1 k0 hk0
    have hyl := hsy.cells
    have nest : ∀ off, (SV.put n k s a0 off).map (.cn · b) = some l' → ∃ v', l'.R η A w v' ∧ l'.solid = true ∧ l'.isL = true ∧ l'.kind = none ∧ l'.sz = a0.sz + b.sz ∧ cellsOf v' = (y.cells.toList ++ flat ys).take off ++ x.cells.toList ++ (y.cells.toList ++ flat ys).drop (off + n) ∧ off + n ≤ (y.cells.toList ++ flat ys).length ∧ (∃ vs' : List Value, v' = .tuple vs'.toArray) := by
      intro off h
      obtain ⟨a', h', rfl⟩ := Option.map_eq_some_iff.1 h
      obtain ⟨y', p1, p2, p3, p4, p5, p6, p7, p8⟩ := iha off y a' s1 h1 h'
      have hsy' := (SV.shape a' y' p2 p1).1 k0 (p4.trans hk0)
      rw [cellsOf_shp hsy, cellsOf_shp hsy'] at p6
      rw [cellsOf_shp hsy] at p7
      refine ⟨.tuple (y' :: ys).toArray, ⟨y', ys, rfl, p1, h2⟩, by simp [SV.solid, p2, p4, hk0, s3, s4], rfl, rfl, by show a'.sz + _ = a0.sz + _; rw [p5], ?_, ?_, _, rfl⟩
      · have e1 : off - y.cells.toList.length = 0 := by omega
        have e2 : off + n - y.cells.toList.length = 0 := by omega
        rw [cellsOf_cn, p6, List.take_append, List.drop_append, e1, e2]
        simp
      · rw [List.length_append]; omega
    rw [cellsOf_cn]
    cases off with
    | zero =>
      rw [SV.put] at h
      split at h
      · rename_i b' hb'
        obtain rfl := Option.some.inj h
        obtain ⟨vs', p1, p2, p3, p4, p5, p6⟩ := dropN_ok _ n (y :: ys) b' hs0 rfl hR1 hb'
        rw [flat_cons] at p4 p5
        refine ⟨.tuple (x :: vs').toArray, ⟨x, vs', rfl, hR, p1⟩, by simp [SV.solid, hs, hk, p2, p3], rfl, rfl, by show s.sz + b'.sz = _; omega, ?_, by omega, fun vs e => ⟨_, rfl⟩⟩
        rw [cellsOf_cn, p4, List.take_zero, List.nil_append, Nat.zero_add]
      · obtain ⟨v', q1, q2, q3, q4, q5, q6, q7, q8⟩ := nest 0 h
        exact ⟨v', q1, q2, q3, q4, q5, q6, q7, fun _ _ => q8⟩
    | succ off =>
      rw [SV.put] at h
      split at h
      · rename_i hle
        obtain ⟨b', h', rfl⟩ := Option.map_eq_some_iff.1 h
        obtain ⟨v', p1, p2, p3, p4, p5, p6, p7, p8⟩ := ihb (off + 1 - a0.sz) _ b' s3 h2 h'
        obtain ⟨ys', rfl⟩ := p8 ys rfl
        rw [cellsOf_tup, cellsOf_tup] at p6
        rw [cellsOf_tup] at p7
        refine ⟨.tuple (y :: ys').toArray, ⟨y, ys', rfl, h1, p1⟩, by simp [SV.solid, s1, hk0, p2, p3, s4], rfl, rfl, by show a0.sz + _ = a0.sz + _; rw [p5], ?_, ?_, fun vs e => ⟨_, rfl⟩⟩
        · have e1 : y.cells.toList.take (off + 1) = y.cells.toList := List.take_of_length_le (by omega)
          have e2 : y.cells.toList.drop (off + 1 + n) = [] := List.drop_of_length_le (by omega)
          rw [cellsOf_cn, p6, List.take_append, List.drop_append, e1, e2, hyl, show off + 1 + n - a0.sz = off + 1 - a0.sz + n by omega]
          simp
        · rw [List.length_append]; omega
      · obtain ⟨v', q1, q2, q3, q4, q5, q6, q7, q8⟩ := nest (off + 1) h
        exact ⟨v', q1, q2, q3, q4, q5, q6, q7, fun _ _ => q8⟩
  | agg l ih =>
    rintro off v l' hs0 ⟨vs, rfl, h1⟩ h
    simp only [SV.solid, Bool.and_eq_true] at hs0
    obtain ⟨l2, h', rfl⟩ := Option.map_eq_some_iff.1 h
    obtain ⟨v', p1, p2, p3, p4, p5, p6, p7, p8⟩ := ih off _ l2 hs0.1 h1 h'
    obtain ⟨vs', rfl⟩ := p8 vs rfl
    exact ⟨_, ⟨vs', rfl, p1⟩, by simp [SV.solid, p2, p3, hs0.2], rfl, rfl, p5, p6, p7, fun _ e => by cases e⟩
  | _ => intro _ _ _ _ _ h; cases h
theorem upd_ok {s a a' : SV} {x v : Value} {k0 : Bool} {off : Nat} (hs : s.solid = true) (hk : s.kind = some k) (hz : s.sz = n) (hR : s.R η A w x) (ha : a.solid = true) (hka : a.kind = some k0) (hv : a.R η A w v) (h : SV.upd n k s a off = some a') :
    ∃ v', a'.R η A w v' ∧ a'.solid = true ∧ a'.kind = some k0 ∧ a'.sz = a.sz ∧ v'.cells.toList = v.cells.toList.take off ++ x.cells.toList ++ v.cells.toList.drop (off + n) ∧ off + n ≤ v.cells.toList.length := by
  have hsv := (SV.shape a v ha hv).1 k0 hka
  have hsx := (SV.shape s x hs hR).1 k hk
  have hvl := hsv.cells
  have gen : ∀ a : SV, a.solid = true → a.kind = some k0 → a.R η A w v → SV.put n k s a off = some a' → ∃ v', a'.R η A w v' ∧ a'.solid = true ∧ a'.kind = some k0 ∧ a'.sz = a.sz ∧ v'.cells.toList = v.cells.toList.take off ++ x.cells.toList ++ v.cells.toList.drop (off + n) ∧ off + n ≤ v.cells.toList.length := by
    intro a ha hka hv h
    obtain ⟨v', p1, p2, p3, p4, p5, p6, p7, p8⟩ := put_ok hs hk hz hR a off v a' ha hv h
    have hsv' := (SV.shape a' v' p2 p1).1 k0 (p4.trans hka)
    rw [cellsOf_shp hsv, cellsOf_shp hsv'] at p6
    rw [cellsOf_shp hsv] at p7
    exact ⟨v', p1, p2, p4.trans hka, p5, p6, p7⟩
  unfold SV.upd at h
  split at h
  · rename_i hc
    obtain ⟨rfl, hz0, hk1⟩ := hc
    obtain rfl := Option.some.inj h
    rw [hka] at hk1
    refine ⟨x, hR, hs, hk.trans hk1.symm, by omega, ?_, by omega⟩
    rw [List.take_zero, List.nil_append, Nat.zero_add, List.drop_of_length_le (by omega), List.append_nil]
  · split at h
    · rename_i cs _
      obtain ⟨l', h', rfl⟩ := Option.map_eq_some_iff.1 h
      obtain rfl : v = .agg cs := hv
      have hone : ∀ c ∈ cs.toList, c.oneCell' = true := fun c hc => Array.all_eq_true_iff_forall_mem.1 (show cs.all (·.oneCell') = true from ha) c (by simpa using hc)
      obtain ⟨h1, h2, h3, h4, h5⟩ := exL_ok (η := η) (A := A) (w := w) cs.toList hone
      obtain rfl : true = k0 := by simpa [SV.kind] using hka
      obtain ⟨v', p1, p2, p3, p4, p5, p6⟩ := gen (.agg (exL cs.toList)) (by simp [SV.solid, h2, h3]) rfl ⟨cs.toList, by rw [h4], h1⟩ (by rw [SV.put, h']; rfl)
      exact ⟨v', p1, p2, p3, by rw [p4]; show (exL cs.toList).sz = cs.size; rw [h5, Array.length_toList], p5, p6⟩
    · exact gen a ha hka hv h
theorem part_ok {a a' : SV} {v : Value} {k0 : Bool} {off : Nat} (ha : a.solid = true) (hka : a.kind = some k0) (hv : a.R η A w v) (h : SV.part n k a off = some a') :
    ∃ x, a'.R η A w x ∧ a'.solid = true ∧ Shp k n x ∧ ∀ j u, x.cells[j]? = some u → v.cells[off + j]? = some u := by
  have hsv := (SV.shape a v ha hv).1 k0 hka
  unfold SV.part at h
  split at h
  · rename_i hc
    obtain ⟨rfl, hz0, hk1⟩ := hc
    obtain rfl := Option.some.inj h
    exact ⟨v, hv, ha, hz0 ▸ (SV.shape a v ha hv).1 k hk1, fun j u hj => by rw [Nat.zero_add]; exact hj⟩
  · obtain ⟨x, p1, p2, p3, p4⟩ := sub_ok a off v a' ha hv h
    refine ⟨x, p1, p2, p3, fun j u hj => ?_⟩
    have := p4 j u hj
    rw [cellsOf_shp hsv, Array.getElem?_toList] at this
    exact this
/-- size and kind of a type -/
def tyNK (P : Program) (T : TypeId) : Option (Nat × Bool) := match P.underlying T, P.info? T with
  | some d, some i => some (i.size, d.isRow)
  | _, _ => none
variable {P : Program} {T : TypeId}
theorem tyNK_spec (h : tyNK P T = some (n, k)) : ∃ d i, P.underlying T = some d ∧ P.info? T = some i ∧ i.size = n ∧ d.isRow = k := by
  unfold tyNK at h
  split at h
  · rename_i d i h1 h2
    simp only [Option.some.injEq, Prod.mk.injEq] at h
    exact ⟨d, i, h1, h2, h.1, h.2⟩
  · cases h
theorem load_at {b o : Nat} {v : Value} (hT : tyNK P T = some (n, k)) (hs : Shp k n v) (hc : ∀ j u, v.cells[j]? = some u → w.cell? ⟨b, o + j, none⟩ = some u) : (Instr.loadAt T (.pointer (some ⟨b, o, none⟩))).run P w = .ok v w := by
  obtain ⟨d, i, hu, hi, hz, hd⟩ := tyNK_spec hT
  cases k with
  | true =>
    obtain ⟨cs, rfl⟩ := hs.2.2.1 rfl
    have h1 := hs.1
    have := run_loadAt_mid (P := P) w b o T cs.toList d (fun j u hj => hc j u (by rw [Array.getElem?_toList] at hj; exact hj)) hu hd (by rw [hi, Array.length_toList]; show some i.size = some cs.size; rw [hz, ← h1]; rfl)
    simpa using this
  | false =>
    have h1 := hs.2.2.2 rfl
    have hcell : w.cell? ⟨b, o, none⟩ = some v := hc 0 v (by rw [one_cells h1]; rfl)
    have hagg : (isAgg T).run P w = .ok false w := by
      unfold isAgg
      rw [Sem.run_bind, run_underlying hu w]
      cases d <;> simp_all
    simp [Instr.loadAt, Instr.sureAddr, loadVar, Sem.run_bind, hagg, hcell]
theorem splice_cons {cs l : List Value} {v : Value} {o : Nat} (ho : o < cs.length) : (cs.set o v).take (o + 1) ++ l ++ (cs.set o v).drop (o + 1 + l.length) = cs.take o ++ v :: l ++ cs.drop (o + (v :: l).length) := by
  have hlen : (cs.take o).length = o := by rw [List.length_take]; omega
  rw [List.set_eq_take_append_cons_drop, if_pos ho, List.take_append, List.drop_append, hlen, List.take_of_length_le (show (cs.take o).length ≤ o + 1 by omega), List.drop_of_length_le (show (cs.take o).length ≤ o + 1 + l.length by omega),
    show o + 1 - o = 1 by omega, show o + 1 + l.length - o = l.length + 1 by omega]
  simp [List.drop_drop, Nat.add_comm, Nat.add_left_comm]
theorem blk_setCells2 {t : TypeId} {g : Nat} : ∀ (l : List Value) (o : Nat) {w : World} {cs : Array Value}, Blk w g t cs → o + l.length ≤ cs.size → ∃ cs' : Array Value, Blk (w.setCells g o l) g t cs' ∧ cs'.toList = cs.toList.take o ++ l ++ cs.toList.drop (o + l.length)
  | [], o, _, cs, h, hl => ⟨cs, h, by simp⟩
  | v :: l, o, w, cs, h, hl => by
    obtain ⟨cs', h1, h2⟩ := blk_setCells2 l (o + 1) (h.set_ o v) (by simp only [List.length_cons, Array.size_setIfInBounds] at hl ⊢; omega)
    refine ⟨cs', h1, h2.trans ?_⟩
    rw [Array.toList_setIfInBounds]
    exact splice_cons (by rw [Array.length_toList]; simp only [List.length_cons] at hl; omega)
theorem fold_set : ∀ (l : List Value) (o j : Nat) (cs : Array Value), o + j + l.length ≤ cs.size → ((l.zipIdx j).foldl (fun cs (p : Value × Nat) => cs.setIfInBounds (o + p.2) p.1) cs).toList = cs.toList.take (o + j) ++ l ++ cs.toList.drop (o + j + l.length)
  | [], o, j, cs, _ => by simp
  | v :: l, o, j, cs, hl => by
    simp only [List.length_cons] at hl
    rw [List.zipIdx_cons, List.foldl_cons, fold_set l o (j + 1) _ (by rw [Array.size_setIfInBounds]; omega), Array.toList_setIfInBounds]
    exact splice_cons (o := o + j) (by rw [Array.length_toList]; omega)
theorem fill_fold {cs : Array Value} {v : Value} {off : Nat} (h : off + v.cells.size ≤ cs.size) : (v.cells.zipIdx.foldl (fun cs (c, j) => cs.setIfInBounds (off + j) c) cs).toList = cs.toList.take off ++ v.cells.toList ++ cs.toList.drop (off + v.cells.size) := by
  have := fold_set v.cells.toList off 0 cs (by rw [Array.length_toList]; omega)
  rw [Nat.add_zero, Array.length_toList] at this
  rw [← this, ← Array.foldl_toList, Array.toList_zipIdx]
theorem put_setCells {g o : Nat} {l : List Value} {t : TypeId} {cs : Array Value} (_ : Blk w g t cs) : Put w (w.setCells g o l) g := by
  obtain ⟨h1, h2, h3, h4⟩ := setCells_os g l o w
  refine ⟨h4, fun k hk => ?_, h1, h2, h3⟩
  rcases Nat.lt_or_ge k w.heap.size with h | h
  · exact World.heap_setCells_other w g _ _ h hk
  · rw [Array.getElem?_eq_none h, Array.getElem?_eq_none (by rw [h4]; exact h)]
theorem store_at {b o : Nat} {v : Value} {T' : TypeId} {cs : Array Value} (hT : tyNK P T = some (n, k)) (hs : Shp k n v) (hB : Blk w b T' cs) (hle : o + n ≤ cs.size) :
    ∃ w' cs', (Instr.storeAt T (.pointer (some ⟨b, o, none⟩)) v).run P w = .ok () w' ∧ Put w w' b ∧ Blk w' b T' cs' ∧ cs'.toList = cs.toList.take o ++ v.cells.toList ++ cs.toList.drop (o + n) := by
  obtain ⟨d, i, hu, hi, hz, hd⟩ := tyNK_spec hT
  have hl := hs.cells
  obtain ⟨cs', hb', hcs'⟩ := blk_setCells2 v.cells.toList o hB (by omega)
  rw [hl] at hcs'
  refine ⟨_, cs', ?_, put_setCells hB, hb', hcs'⟩
  have := run_storeCells_cells (P := P) b o v.cells.toList 0 w (fun j hj => by rw [hB.cell, Array.getElem?_eq_getElem (by omega)]; rfl) (fun j hj => hB.frozen _) hs.2.1
  have h2 : v.cells.size = i.size := by rw [hs.1, hz]
  simp only [Nat.add_zero] at this
  simp [Instr.storeAt, Instr.sureAddr, storeVar, Sem.run_bind, sizeOf, typeInfo, hi, h2, this]
end
end Go.Proofs.Ytngghjhmfpmilaa
/- What an operation leads to, by terms; and that it is so. -/
namespace Go.Proofs.Ytngghjhmfpmilaa
open Go.RowKit
/-- what an operation yields: its value, what must hold, which own blocks are written, which are read -/
structure Res where
  sv : SV
  side : List Prop
  new : List (Nat × Hl)
  rd : List Nat
def bad : Res := ⟨.any, [False], [], []⟩
def vl (a : SV) (side : List Prop) : Res := ⟨a, side, [], []⟩
def conj : List Prop → Prop
  | [] => True
  | [p] => p
  | p :: ps => p ∧ conj ps
theorem conj_cons {p : Prop} {ps : List Prop} (h : conj (p :: ps)) : p ∧ conj ps := by
  cases ps with
  | nil => exact ⟨h, trivial⟩
  | cons q qs => exact h
theorem conj_append {ps qs : List Prop} (h : conj (ps ++ qs)) : conj ps ∧ conj qs := by
  induction ps with
  | nil => exact ⟨trivial, h⟩
  | cons p ps ih =>
    obtain ⟨h1, h2⟩ := conj_cons h
    obtain ⟨h3, h4⟩ := ih h2
    refine ⟨?_, h4⟩
    cases ps with
    | nil => exact h1
    | cons q qs => exact ⟨h1, h3⟩
theorem gs_conj {c : Hl} {i : Nat} {sd : List Prop} {o : OB} (h : c.gs i = (some o, sd)) (hs : conj sd) : c.get i = some o := by
  cases c with
  | one ob =>
    cases i with
    | zero =>
      simp only [Hl.gs, Prod.mk.injEq] at h
      exact h.1
    | succ i => simp [Hl.gs] at h
  | fam n f =>
    have h' : (some (f i), [i < n]) = (some o, sd) := by rw [← h]; cases i <;> rfl
    simp only [Prod.mk.injEq] at h'
    obtain ⟨e, rfl⟩ := h'
    rw [fam_get, if_pos (show i < n from hs)]
    exact e
  | hole n f m =>
    have h' : (some (f i), [i < n, i ≠ m]) = (some o, sd) := by rw [← h]; cases i <;> rfl
    simp only [Prod.mk.injEq] at h'
    obtain ⟨e, rfl⟩ := h'
    rw [hole_get, if_pos (show i < n ∧ i ≠ m from hs)]
    exact e
  | unborn => cases i <;> simp [Hl.gs] at h
  | dead => cases i <;> simp [Hl.gs] at h
def opd (fr : Tmp → SV) : Operand → SV
  | .tmp t => fr t
  | .const v => .ex v
  | _ => .any
/-- a is told as b, if these hold -/
def exEq : Value → Value → List Prop
  | .int k a, .int k' b => if k = k' then [a = b] else [False]
  | .bool a, .bool b => [a = b]
  | .slice none 0 0, .slice none 0 0 => []
  | u, v => [u = v]
def exLe : Value → SV → List Prop
  | _, .any => []
  | u, .ex v => exEq u v
  | .slice none 0 0, .sl _ _ n => [n = 0]
  | .agg cs, .rat q => match cs.toList with
    | [.bool false, .slice none 0 0, .slice none 0 0] => [q = 0]
    | _ => [False]
  | .agg cs, .nat x => match cs.toList with
    | [.slice none 0 0] => [x = 0]
    | _ => [False]
  | .agg cs, .int x => match cs.toList with
    | [.bool false, .slice none 0 0] => [x = 0]
    | _ => [False]
  | _, _ => [False]
def exLs : List Value → SV → List Prop
  | [], .nl => []
  | .bool false :: .slice none 0 0 :: .slice none 0 0 :: cs, .cn (.rat q) l => (q = 0) :: exLs cs l
  | c :: cs, .cn a l => exLe c a ++ exLs cs l
  | _, _ => [False]
def SV.le : SV → SV → List Prop
  | .ex (.agg cs), .agg l => if cs.all (·.oneCell') = true then exLs cs.toList l else [False]
  | .ex u, b => exLe u b
  | _, .any => []
  | .nat x, .nat y => [x = y]
  | .int x, .int y => [x = y]
  | .rat x, .rat y => [x = y]
  | .sl s E n, .sl s' E' n' => if s = s' then [n = n', ∀ i, i < n → conj (SV.le (E i) (E' i))] else [False]
  | .ep a, .ep b => SV.le a b
  | .own k i, .own k' i' => if k = k' then [i = i'] else [False]
  | .ref k i s j off, .ref k' i' s' j' off' => [k = k', i = i', s = s', j = j', off = off']
  | .nl, .nl => []
  | .cn a b, .cn a' b' => SV.le a a' ++ SV.le b b'
  | .agg l, .agg l' => SV.le l l'
  | .opt c a, .opt c' a' => (c = c') :: SV.le a a'
  | _, _ => [False]
section
variable {η : Eta} {A : Nat → Prop} {w : World} {v : Value}
theorem exEq_ok {u u' : Value} (h : conj (exEq u u')) : u = u' := by
  unfold exEq at h
  split at h
  · split at h
    · rename_i e; subst e; rw [show _ = _ from h]
    · exact h.elim
  · rw [show _ = _ from h]
  · rfl
  · exact h
theorem exLe_ok {u : Value} {b : SV} (h : conj (exLe u b)) : b.R η A w u := by
  unfold exLe at h
  split at h
  · trivial
  · exact exEq_ok h
  · rename_i n
    obtain rfl : n = 0 := h
    exact ⟨none, 0, rfl, fun _ => ⟨rfl, rfl⟩, Nat.le_refl _, Nat.zero_le _, fun i hi => by omega⟩
  · rename_i cs q
    split at h
    · rename_i e
      obtain rfl : q = 0 := h
      have : cs = #[.bool false, .slice none 0 0, .slice none 0 0] := by rw [← Array.toList_inj]; exact e
      subst this
      exact zRat w
    · exact h.elim
  · rename_i cs q
    split at h
    · rename_i e
      obtain rfl : q = 0 := h
      have : cs = #[.slice none 0 0] := by rw [← Array.toList_inj]; exact e
      subst this
      exact zNat w
    · exact h.elim
  · rename_i cs q
    split at h
    · rename_i e
      obtain rfl : q = 0 := h
      have : cs = #[.bool false, .slice none 0 0] := by rw [← Array.toList_inj]; exact e
      subst this
      exact zInt w
    · exact h.elim
  · exact h.elim
theorem exLs_ok : ∀ (cs : List Value) (l : SV), (∀ c ∈ cs, c.oneCell' = true) → conj (exLs cs l) → ∃ vs : List Value, l.R η A w (.tuple vs.toArray) ∧ flat vs = cs := by
  intro cs l
  fun_induction exLs cs l with
  | case1 => intro _ _; exact ⟨[], rfl, rfl⟩
  | case2 cs q l ih =>
    intro hc h
    obtain ⟨h1, h2⟩ := conj_cons h
    obtain ⟨vs, h3, h4⟩ := ih (fun c h => hc c (by simp [h])) h2
    subst h1
    exact ⟨.agg #[.bool false, .slice none 0 0, .slice none 0 0] :: vs, ⟨_, vs, rfl, zRat w, h3⟩, by rw [flat_cons, h4]; rfl⟩
  | case3 c cs a l _ ih =>
    intro hc h
    obtain ⟨h1, h2⟩ := conj_append h
    obtain ⟨vs, h3, h4⟩ := ih (fun c h => hc c (by simp [h])) h2
    exact ⟨c :: vs, ⟨c, vs, rfl, exLe_ok h1, h3⟩, by rw [flat_cons, h4, one_cells (hc c (by simp))]; rfl⟩
  | case4 => intro _ h; exact h.elim
theorem SV.le_ok : ∀ (a b : SV) (v : Value), conj (SV.le a b) → a.R η A w v → b.R η A w v := by
  intro a
  induction a with
  | any => intro b v h _; cases b <;> first | trivial | exact h.elim
  | ex u =>
    intro b v h hv
    obtain rfl : v = u := hv
    cases b with
    | agg l =>
      cases v with
      | agg cs =>
        have h' : conj (if cs.all (·.oneCell') = true then exLs cs.toList l else [False]) := h
        split at h'
        · rename_i hs
          obtain ⟨vs, h1, h2⟩ := exLs_ok (η := η) (A := A) (w := w) cs.toList l (fun c hc => Array.all_eq_true_iff_forall_mem.1 hs c (by simpa using hc)) h'
          exact ⟨vs, by rw [h2], h1⟩
        · exact h'.elim
      | _ => exact exLe_ok h
    | _ => cases v <;> exact exLe_ok h
  | nat x => intro b v h hv; cases b <;> first | trivial | exact h.elim | (rw [← show x = _ from h]; exact hv)
  | int x => intro b v h hv; cases b <;> first | trivial | exact h.elim | (rw [← show x = _ from h]; exact hv)
  | rat x => intro b v h hv; cases b <;> first | trivial | exact h.elim | (rw [← show x = _ from h]; exact hv)
  | sl s E n ih =>
    intro b v h hv
    cases b <;> first | trivial | exact h.elim | skip
    rename_i s' E' n'
    have h' : conj (if s = s' then [n = n', ∀ i, i < n → conj (SV.le (E i) (E' i))] else [False]) := h
    split at h'
    · rename_i e
      subst e
      obtain ⟨e, h2⟩ := h'
      subst e
      obtain ⟨A0, c, ev, h3, h4, h5, k⟩ := hv
      refine ⟨A0, c, ev, h3, h4, h5, fun i hi => ?_⟩
      obtain ⟨g, o, e1, e2, e3, e0, e4, e5, e6⟩ := k i hi
      exact ⟨g, o, e1, e2, e3, e0, e4, ih i _ _ (h2 i hi) e5, e6⟩
    · exact h'.elim
  | ep a ih =>
    intro b v h hv
    cases b <;> first | trivial | exact h.elim | skip
    obtain ⟨g, o, e1, e2, e3, e0, e5, e6⟩ := hv
    exact ⟨g, o, e1, e2, e3, e0, ih _ _ h e5, e6⟩
  | own k i =>
    intro b v h hv
    cases b <;> first | trivial | exact h.elim | skip
    rename_i k' i'
    have h' : conj (if k = k' then [i = i'] else [False]) := h
    split at h'
    · rename_i e
      subst e
      obtain rfl : i = i' := h'
      exact hv
    · exact h'.elim
  | ref k i s j off =>
    intro b v h hv
    cases b <;> first | trivial | exact h.elim | skip
    obtain ⟨e1, e2, e3, e4, e5⟩ := h
    subst e1; subst e2; subst e3; subst e4; subst e5
    exact hv
  | nl => intro b v h hv; cases b <;> first | trivial | exact h.elim | exact hv
  | cn a b iha ihb =>
    intro b v h hv
    cases b <;> first | trivial | exact h.elim | skip
    obtain ⟨h1, h2⟩ := conj_append h
    obtain ⟨x, xs, e, e1, e2⟩ := hv
    exact ⟨x, xs, e, iha _ _ h1 e1, ihb _ _ h2 e2⟩
  | agg l ih =>
    intro b v h hv
    cases b <;> first | trivial | exact h.elim | skip
    obtain ⟨vs, e, e1⟩ := hv
    exact ⟨vs, e, ih _ _ h e1⟩
  | opt c a ih =>
    intro b v h hv
    cases b <;> first | trivial | exact h.elim | skip
    obtain ⟨h1, h2⟩ := conj_cons h
    subst h1
    exact ⟨fun hc => ih _ _ h2 (hv.1 hc), hv.2⟩
end
end Go.Proofs.Ytngghjhmfpmilaa
/- Operations by terms: values, addresses, what is read. -/
namespace Go.Proofs.Ytngghjhmfpmilaa
open Go.RowKit
inductive Hint where
  | no
  | k (j : Nat)
  | z (r : Int)
  | row (j : Nat) (E : Nat → SV)
  | kk (l r : Nat)
  | rowF (E : Nat → SV) (f : Nat → OB)
  | call (A : List SV) (R : SV) (news : List Hl)
def upOwns (own : Nat → Hl) (l : List (Nat × Hl)) : Nat → Hl := l.foldl (fun own p => upOwn own p.1 p.2) own
/-- the operation does what r tells -/
def Snd (P : Program) (o : Oper) (ρ : Operand → Value) (M F : Nat → Prop) (w0 : World) (own : Nat → Hl) (η : Eta) (w : World) (r : Res) : Prop :=
  Yld P o ρ w fun v w' => ∃ η', Hp M F w0 (upOwns own r.new) η' w' ∧ Keep η η' (Av F own η) (Av F (upOwns own r.new) η') w w' ∧ r.sv.R η' (Av F (upOwns own r.new) η') w' v
section
variable {P : Program} {o : Oper} {ρ : Operand → Value} {M F : Nat → Prop} {w0 w : World} {own : Nat → Hl} {η : Eta} {x y : Operand} {a b : SV}
theorem snd_val {a : SV} {side : List Prop} {rd : List Nat} {v : Value} (H : Hp M F w0 own η w) (h : (execOp ρ o).run P w = .ok (.value v) w) (hR : a.R η (Av F own η) w v) : Snd P o ρ M F w0 own η w ⟨a, side, [], rd⟩ :=
  yld_val h ⟨η, H, Keep.weak fun _ _ h => h, hR⟩
theorem snd_move (H : Hp M F w0 own η w) (h : o.op = .move x ∨ o.op = .assign x) (hx : a.R η (Av F own η) w (ρ x)) {side : List Prop} {rd : List Nat} : Snd P o ρ M F w0 own η w ⟨a, side, [], rd⟩ :=
  snd_val H (by unfold execOp; rcases h with h | h <;> rw [h] <;> rfl) hx
/-- picks: booleans -/
def boolOf : SV → Option (Bool × List Bool)
  | .ex (.bool t) => some (t, [])
  | .opt c (.ex (.bool t)) => some (t, [c])
  | _ => none
def impl (t : Bool) (cs : List Bool) : List Prop := cs.map fun c => t = true → c = true
def pickR (c a b : SV) : Res := match c, boolOf a, boolOf b with
  | .ex (.bool t), some (p, cs), some (q, ds) => vl (.ex (.bool (bif t then p else q))) (impl t cs ++ impl (!t) ds)
  | _, _, _ => bad
theorem boolOf_ok {t : Bool} {v : Value} {A : Nat → Prop} {p : Bool} {cs : List Bool} (h : boolOf a = some (p, cs)) (hc : conj (impl t cs)) (ht : t = true) (hv : a.R η A w v) : v = .bool p := by
  unfold boolOf at h
  split at h
  · simp only [Option.some.injEq, Prod.mk.injEq] at h
    obtain ⟨rfl, rfl⟩ := h
    exact hv
  · simp only [Option.some.injEq, Prod.mk.injEq] at h
    obtain ⟨rfl, rfl⟩ := h
    exact hv.1 (hc ht)
  · cases h
theorem snd_pick {c z : Operand} {cc : SV} (H : Hp M F w0 own η w) (h : o.op = .pick c x z) (hc : cc.R η (Av F own η) w (ρ c)) (hx : a.R η (Av F own η) w (ρ x)) (hz : b.R η (Av F own η) w (ρ z)) (hs : conj (pickR cc a b).side) : Snd P o ρ M F w0 own η w (pickR cc a b) := by
  unfold pickR at hs ⊢
  split at hs
  · rename_i t p cs q ds ha hb
    have hc : ρ c = .bool t := hc
    obtain ⟨h1, h2⟩ := conj_append (show conj (impl t cs ++ impl (!t) ds) from hs)
    refine snd_val H (v := .bool (bif t then p else q)) ?_ rfl
    unfold execOp
    rw [h]
    cases t with
    | true => simp [hc, asBool, boolOf_ok ha h1 rfl hx]
    | false => simp [hc, asBool, boolOf_ok hb h2 rfl hz]
  · exact hs.elim
def arith (k : IntKind) (z : Int) : Hint → Res
  | .z r => vl (.ex (.int k r)) [k.wrap z = r]
  | _ => vl (.ex (.int k z)) [k.wrap z = z]
def binI (op : BinOp) (k : IntKind) (p q : Int) (h : Hint) : Res := match op with
  | .add => arith k (p + q) h
  | .sub => arith k (p - q) h
  | .mul => arith k (p * q) h
  | .quo => match h with
    | .z r => vl (.ex (.int k r)) [q ≠ 0, k.wrap (p.tdiv q) = r]
    | _ => bad
  | .rem => match h with
    | .z r => vl (.ex (.int k r)) [q ≠ 0, p.tmod q = r]
    | _ => bad
  | .eql => vl (.ex (.bool (decide (p = q)))) []
  | .neq => vl (.ex (.bool (!decide (p = q)))) []
  | .lss => vl (.ex (.bool (decide (p < q)))) []
  | .leq => vl (.ex (.bool (decide (p ≤ q)))) []
  | .gtr => vl (.ex (.bool (decide (q < p)))) []
  | .geq => vl (.ex (.bool (decide (q ≤ p)))) []
  | _ => bad
def binR (P : Program) (op : BinOp) (t : TypeId) (a b : SV) (h : Hint) : Res := match a, b with
  | .ex (.int k p), .ex (.int k' q) => if k = k' then binI op k p q h else bad
  | .ex (.bool p), .ex (.bool q) => match P.underlying t, op with
    | some .bool, .eql => vl (.ex (.bool (p == q))) []
    | some .bool, .neq => vl (.ex (.bool (!(p == q)))) []
    | _, _ => bad
  | _, _ => bad
theorem run_binI {op : BinOp} {t t' : TypeId} {k : IntKind} {p q : Int} (h : o.op = .binOp op t x y t') (hx : ρ x = .int k p) (hy : ρ y = .int k q) : (execOp ρ o).run P w = ((binOp op t (.int k p) (.int k q)).run P w).andThen fun v w => .ok (.value v) w := by
  unfold execOp
  rw [h]
  simp only [hx, hy]
  cases op <;> simp [eqGuard]
theorem snd_binI {op : BinOp} {t t' : TypeId} {k : IntKind} {p q : Int} {hi : Hint} (H : Hp M F w0 own η w) (h : o.op = .binOp op t x y t') (hx : ρ x = .int k p) (hy : ρ y = .int k q) (hs : conj (binI op k p q hi).side) : Snd P o ρ M F w0 own η w (binI op k p q hi) := by
  have hr := run_binI (P := P) (w := w) h hx hy
  have key : ∀ v, (binOp op t (.int k p) (.int k q)).run P w = .ok v w → (execOp ρ o).run P w = .ok (.value v) w := fun v hv => by rw [hr, hv]; rfl
  have ari : ∀ z, (binOp op t (.int k p) (.int k q)).run P w = .ok (.int k (k.wrap z)) w → conj (arith k z hi).side → Snd P o ρ M F w0 own η w (arith k z hi) := fun z hz hs => by
    cases hi with
    | z r => exact snd_val H (key _ hz) (by show Value.int k _ = _; rw [show k.wrap z = r from hs])
    | _ => exact snd_val H (key _ hz) (by show Value.int k _ = _; rw [show k.wrap z = z from hs])
  cases op
  case add => exact ari _ (by simp [binOp, Op.intArith]) hs
  case sub => exact ari _ (by simp [binOp, Op.intArith]) hs
  case mul => exact ari _ (by simp [binOp, Op.intArith]) hs
  case quo =>
    unfold binI at hs ⊢
    cases hi <;> first | exact hs.elim | skip
    rename_i r
    obtain ⟨h1, h2⟩ := hs
    exact snd_val H (key (.int k (k.wrap (p.tdiv q))) (by simp [binOp, Op.intDiv, h1])) (by show Value.int k _ = _; rw [show k.wrap (p.tdiv q) = r from h2])
  case rem =>
    unfold binI at hs ⊢
    cases hi <;> first | exact hs.elim | skip
    rename_i r
    obtain ⟨h1, h2⟩ := hs
    exact snd_val H (key (.int k (p.tmod q)) (by simp [binOp, Op.intDiv, h1])) (by show Value.int k _ = _; rw [show p.tmod q = r from h2])
  case eql => exact snd_val H (key (.bool (p == q)) (by simp [binOp, Op.intCmp])) rfl
  case neq => exact snd_val H (key (.bool (p != q)) (by simp [binOp, Op.intCmp])) rfl
  case lss => exact snd_val H (key (.bool (decide (p < q))) (by simp [binOp, Op.intCmp])) rfl
  case leq => exact snd_val H (key (.bool (decide (p ≤ q))) (by simp [binOp, Op.intCmp])) rfl
  case gtr => exact snd_val H (key (.bool (decide (p > q))) (by simp [binOp, Op.intCmp])) rfl
  case geq => exact snd_val H (key (.bool (decide (p ≥ q))) (by simp [binOp, Op.intCmp])) rfl
  all_goals exact hs.elim
theorem snd_bin {op : BinOp} {t t' : TypeId} {hi : Hint} (H : Hp M F w0 own η w) (h : o.op = .binOp op t x y t') (hx : a.R η (Av F own η) w (ρ x)) (hy : b.R η (Av F own η) w (ρ y)) (hs : conj (binR P op t a b hi).side) : Snd P o ρ M F w0 own η w (binR P op t a b hi) := by
  unfold binR at hs ⊢
  split at hs
  · rename_i k p k' q
    split at hs
    · rename_i e
      subst e
      rw [if_pos rfl]
      exact snd_binI H h hx hy hs
    · exact hs.elim
  · rename_i p q
    have hx : ρ x = .bool p := hx
    have hy : ρ y = .bool q := hy
    split at hs
    · rename_i ht
      refine snd_val H (v := .bool (p == q)) ?_ rfl
      unfold execOp; rw [h]; simp only [hx, hy]
      show ((do eqGuard .eql t x y (.bool p) (.bool q); binOp .eql t (.bool p) (.bool q)) >>= fun v => pure (Next.value v) : Sem Next).run P w = _
      simp only [Sem.run_bind, guard_bool, Sem.run_pure, Result.andThen_ok]
      rw [show binOp .eql t (.bool p) (.bool q) = (do pure (.bool (← Op.equal t (.bool p) (.bool q)))) from rfl]
      simp only [Sem.run_bind, equal_bool ht, Result.andThen_ok, Sem.run_pure]
    · rename_i ht
      refine snd_val H (v := .bool (!(p == q))) ?_ rfl
      unfold execOp; rw [h]; simp only [hx, hy]
      show ((do eqGuard .neq t x y (.bool p) (.bool q); binOp .neq t (.bool p) (.bool q)) >>= fun v => pure (Next.value v) : Sem Next).run P w = _
      simp only [Sem.run_bind, guard_bool, Sem.run_pure, Result.andThen_ok]
      rw [show binOp .neq t (.bool p) (.bool q) = (do pure (.bool (!(← Op.equal t (.bool p) (.bool q))))) from rfl]
      simp only [Sem.run_bind, equal_bool ht, Result.andThen_ok, Sem.run_pure]
    · exact hs.elim
  · exact hs.elim
def unR (op : UnOp) (a : SV) (h : Hint) : Res := match op, a with
  | .not, .ex (.bool t) => vl (.ex (.bool (!t))) []
  | .neg, .ex (.int k p) => arith k (0 - p) h
  | _, _ => bad
theorem snd_un {op : UnOp} {t : TypeId} {hi : Hint} (H : Hp M F w0 own η w) (h : o.op = .unOp op t x) (hx : a.R η (Av F own η) w (ρ x)) (hs : conj (unR op a hi).side) : Snd P o ρ M F w0 own η w (unR op a hi) := by
  unfold unR at hs ⊢
  split at hs
  · rename_i t
    have hx : ρ x = .bool t := hx
    exact snd_val H (v := .bool !t) (by unfold execOp; rw [h]; simp only [hx]; rfl) rfl
  · rename_i k p
    have hx : ρ x = .int k p := hx
    have hr : (execOp ρ o).run P w = .ok (.value (.int k (k.wrap (0 - p)))) w := by unfold execOp; rw [h]; simp only [hx]; rfl
    cases hi with
    | z r => exact snd_val H hr (by show Value.int k _ = _; rw [show k.wrap (0 - p) = r from hs])
    | _ => exact snd_val H hr (by show Value.int k _ = _; rw [show k.wrap (0 - p) = 0 - p from hs])
  · exact hs.elim
def convR (P : Program) (src dst : TypeId) (a : SV) (h : Hint) : Res := match a, P.underlying src, P.underlying dst with
  | .ex (.int _ p), some (.int _), some (.int k) => arith k p h
  | _, _, _ => bad
theorem snd_conv {src dst : TypeId} {hi : Hint} (H : Hp M F w0 own η w) (h : o.op = .convert src dst x) (hx : a.R η (Av F own η) w (ρ x)) (hs : conj (convR P src dst a hi).side) : Snd P o ρ M F w0 own η w (convR P src dst a hi) := by
  unfold convR at hs ⊢
  split at hs
  · rename_i k' p k2 k hS hT
    have hx : ρ x = .int k' p := hx
    have hr : (execOp ρ o).run P w = .ok (.value (.int k (k.wrap p))) w := by
      unfold execOp; rw [h]
      simp only [hx, convert, Sem.run_bind, run_underlying hS w, run_underlying hT w, Result.andThen_ok, Conv.intToInt]
      rfl
    cases hi with
    | z r => exact snd_val H hr (by show Value.int k _ = _; rw [show k.wrap p = r from hs])
    | _ => exact snd_val H hr (by show Value.int k _ = _; rw [show k.wrap p = p from hs])
  · exact hs.elim
def nthL : SV → Nat → Option SV
  | .cn a _, 0 => some a
  | .cn _ b, i + 1 => nthL b i
  | _, _ => none
theorem nthL_ok {A : Nat → Prop} : ∀ (l : SV) (i : Nat) (a : SV) (v : Value), nthL l i = some a → l.R η A w v → ∃ vs : List Value, v = .tuple vs.toArray ∧ ∃ u, vs[i]? = some u ∧ a.R η A w u := by
  intro l
  induction l with
  | cn a b iha ihb =>
    rintro i c v h ⟨x, xs, rfl, h1, h2⟩
    cases i with
    | zero => obtain rfl := Option.some.inj h; exact ⟨x :: xs, rfl, x, rfl, h1⟩
    | succ i =>
      obtain ⟨vs, e, u, hu, hR⟩ := ihb i c _ h h2
      obtain rfl := tup_inj e
      exact ⟨x :: xs, rfl, u, hu, hR⟩
  | _ => intro _ _ _ h; cases h
def extR (a : SV) (i : Nat) : Res := match nthL a i with
  | some b => vl b []
  | none => bad
theorem snd_ext {i : Nat} (H : Hp M F w0 own η w) (h : o.op = .extract x i) (hx : a.R η (Av F own η) w (ρ x)) (hs : conj (extR a i).side) : Snd P o ρ M F w0 own η w (extR a i) := by
  unfold extR at hs ⊢
  split at hs
  · rename_i b hb
    obtain ⟨vs, e, u, hu, hR⟩ := nthL_ok a i b _ hb hx
    exact snd_val H (pure_extract h e (by simpa using hu) w) hR
  · exact hs.elim
/-- new memory -/
theorem snd_new {k : Nat} {ob : OB} {h : Value} {w' : World} {side : List Prop} {rd : List Nat} (H : Hp M F w0 own η w) (hr : (execOp ρ o).run P w = .ok (.value h) w') (g : Grow w w') (hk : own k = .unborn) (hn : ∀ b, hb h = some b → w.heap.size ≤ b)
    (hok : ∀ η' A', Keep η η' (Av F own η) A' w w' → ob.ok η' A' w' h) : Snd P o ρ M F w0 own η w ⟨.own k 0, side, [(k, .one ob)], rd⟩ := by
  obtain ⟨h1, h2⟩ := H.add g (o := ob) hk hn fun K => hok _ _ K
  unfold Snd Yld
  rw [hr]
  refine ⟨_, h1, h2, ?_⟩
  have hone := OB.hdr (hok _ _ h2)
  exact ⟨by unfold upEta; rw [if_pos rfl]; rfl, hone⟩
def allocR (P : Program) (T : TypeId) (nx : Nat) : Res := match P.info? T with
  | some i => match i.zero with
    | some z => if T = 105 then bad else ⟨.own nx 0, [], [(nx, .one (.var T (.ex z)))], []⟩
    | none => bad
  | none => bad
theorem snd_alloc {T : TypeId} {nx : Nat} (H : Hp M F w0 own η w) (h : o.op = .alloc T) {r : Res} (hr : allocR P T nx = r) (hk : ∀ p ∈ r.new, nx ≤ p.1 → own p.1 = .unborn) (hs : conj r.side) : Snd P o ρ M F w0 own η w r := by
  unfold allocR at hr
  split at hr
  · rename_i i hi
    split at hr
    · rename_i z hz
      split at hr
      · (subst hr; exact hs.elim)
      · rename_i hT
        subst hr
        replace hk := hk (nx, _) (List.mem_cons_self ..) (Nat.le_refl _)
        refine snd_new (ob := .var T (.ex z)) (h := .pointer (some ⟨w.heap.size, 0, none⟩)) (w' := w.alloc (.cells z.cells T)) H ?_ ((Grow.refl w).alloc _) hk (fun b hb => by cases hb; exact Nat.le_refl _) fun η' A' K => ⟨w.heap.size, z, rfl, Blk.new w T z.cells, rfl, hT⟩
        unfold execOp
        rw [h]
        simp [Instr.alloc, zeroValue, typeInfo, hi, hz, newVar, newRow, Sem.run_bind]
    · (subst hr; exact hs.elim)
  · (subst hr; exact hs.elim)
def boxR (T : TypeId) (a : SV) (nx : Nat) : Res := if T = 105 then bad else ⟨.own nx 0, [], [(nx, .one (.var T a))], []⟩
theorem snd_box {T : TypeId} {nx : Nat} (H : Hp M F w0 own η w) (h : o.op = .box T x) (hx : a.R η (Av F own η) w (ρ x)) {r : Res} (hr : boxR T a nx = r) (hk : ∀ p ∈ r.new, nx ≤ p.1 → own p.1 = .unborn) (hs : conj r.side) : Snd P o ρ M F w0 own η w r := by
  unfold boxR at hr
  split at hr
  · (subst hr; exact hs.elim)
  · rename_i hT
    subst hr
    replace hk := hk (nx, _) (List.mem_cons_self ..) (Nat.le_refl _)
    refine snd_new (ob := .var T a) (h := .pointer (some ⟨w.heap.size, 0, none⟩)) (w' := w.alloc (.cells (ρ x).cells T)) H ?_ ((Grow.refl w).alloc _) hk (fun b hb => by cases hb; exact Nat.le_refl _) fun η' A' K => ⟨w.heap.size, ρ x, rfl, Blk.new w T _, SV.keep K _ _ hx, hT⟩
    unfold execOp
    rw [h]
    simp [Instr.box, newVar, newRow]
/-- where an address lies: block k i, s * j + off -/
def adr : SV → Option (Nat × Nat × Nat × Nat × Nat)
  | .own k i => some (k, i, 0, 0, 0)
  | .ref k i s j off => some (k, i, s, j, off)
  | _ => none
def SV.fine (a : SV) : Bool := a.solid && a.kind.isSome
/-- what lies there: the part of n cells, of kind k; if this holds -/
def readO (n : Nat) (k : Bool) (ob : Option OB) (s j off : Nat) : Option (SV × List Prop) := match ob with
  | some (.var _ a) => if s = 0 ∧ a.fine = true then (a.part n k off).map (·, []) else none
  | some (.row _ s' E m) => if s = s' ∧ 0 < s then (if (E j).fine = true then ((E j).part n k off).map (·, [j < m]) else none) else none
  | none => none
theorem adr_ok {A : Nat → Prop} {v : Value} {k i s j off : Nat} (h : adr a = some (k, i, s, j, off)) (hv : a.R η A w v) {ob : OB} {hd : Value} (he : η k i = some hd) (hok : ob.ok η A w hd) (hs : s ≠ 0 ∨ ∃ T c, ob = .var T c) : s = 0 ∧ (∃ T c, ob = .var T c) ∧ (∃ b, hb hd = some b ∧ v = .pointer (some ⟨b, s * j + off, none⟩)) ∨ ∃ b, hb hd = some b ∧ v = .pointer (some ⟨b, s * j + off, none⟩) := by
  unfold adr at h
  split at h
  · simp only [Option.some.injEq, Prod.mk.injEq] at h
    obtain ⟨rfl, rfl, rfl, rfl, rfl⟩ := h
    rcases hs with hs | ⟨T, c, rfl⟩
    · exact absurd rfl hs
    · obtain ⟨b, u, rfl, _⟩ := hok
      rw [hv.1] at he
      obtain rfl := Option.some.inj he
      exact .inr ⟨b, rfl, rfl⟩
  · simp only [Option.some.injEq, Prod.mk.injEq] at h
    obtain ⟨rfl, rfl, rfl, rfl, rfl⟩ := h
    obtain ⟨h0, b, e1, e2, e3⟩ := hv
    rw [e1] at he
    obtain rfl := Option.some.inj he
    exact .inr ⟨b, e2, e3⟩
  · cases h
theorem fine_ok {a : SV} (h : a.fine = true) : a.solid = true ∧ ∃ k, a.kind = some k := by
  unfold SV.fine at h
  simp only [Bool.and_eq_true] at h
  exact ⟨h.1, Option.isSome_iff_exists.1 h.2⟩
theorem readO_ok {n : Nat} {kk : Bool} {A : Nat → Prop} {v : Value} {k i s j off : Nat} {c : SV} {side : List Prop} {ob : OB} {hd : Value} (ha : adr a = some (k, i, s, j, off)) (hr : readO n kk (some ob) s j off = some (c, side)) (hv : a.R η A w v) (he : η k i = some hd) (hok : ob.ok η A w hd) (hs : conj side) :
    ∃ b o u, v = .pointer (some ⟨b, o, none⟩) ∧ hb hd = some b ∧ o = s * j + off ∧ c.R η A w u ∧ Shp kk n u ∧ ∀ t x, u.cells[t]? = some x → w.cell? ⟨b, o + t, none⟩ = some x := by
  cases ob with
  | var T c0 =>
    unfold readO at hr
    simp only at hr
    split at hr
    · rename_i hc
      obtain ⟨rfl, hf⟩ := hc
      obtain ⟨c', hp, e⟩ := Option.map_eq_some_iff.1 hr
      simp only [Prod.mk.injEq] at e
      obtain ⟨rfl, rfl⟩ := e
      obtain ⟨f1, k0, f2⟩ := fine_ok hf
      obtain ⟨b, hb1, hv1⟩ : ∃ b, hb hd = some b ∧ v = .pointer (some ⟨b, 0 * j + off, none⟩) := by
        rcases adr_ok ha hv he hok (.inr ⟨T, c0, rfl⟩) with ⟨_, _, h⟩ | h <;> exact h
      obtain ⟨b', u0, rfl, hB, hR, hT⟩ := hok
      obtain rfl := Option.some.inj hb1
      obtain ⟨u, p1, p2, p3, p4⟩ := part_ok f1 f2 hR hp
      exact ⟨b', _, u, hv1, rfl, rfl, p1, p3, fun t x hx => by rw [hB.cell, Nat.zero_mul, Nat.zero_add]; exact p4 t x hx⟩
    · cases hr
  | row T s' E m =>
    unfold readO at hr
    simp only at hr
    split at hr
    · rename_i hc
      obtain ⟨rfl, hpos⟩ := hc
      split at hr
      · rename_i hf
        obtain ⟨c', hp, e⟩ := Option.map_eq_some_iff.1 hr
        simp only [Prod.mk.injEq] at e
        obtain ⟨rfl, rfl⟩ := e
        obtain ⟨f1, k0, f2⟩ := fine_ok hf
        obtain ⟨b, hb1, hv1⟩ : ∃ b, hb hd = some b ∧ v = .pointer (some ⟨b, s * j + off, none⟩) := by
          rcases adr_ok ha hv he hok (.inl (by omega)) with ⟨_, _, h⟩ | h <;> exact h
        obtain ⟨A0, cc, rfl, h1, h2, hT, h3⟩ := hok
        rcases h3 with ⟨rfl, _, _⟩ | ⟨g, cs, rfl, hB, hcs, hel⟩
        · cases hb1
        · obtain rfl := Option.some.inj hb1
          obtain ⟨e0, q1, q2, q3⟩ := hel j hs
          obtain ⟨u, p1, p2, p3, p4⟩ := part_ok f1 f2 q2 hp
          exact ⟨g, _, u, hv1, rfl, rfl, p1, p3, fun t x hx => by rw [Nat.add_assoc]; exact q3 _ _ (p4 t x hx)⟩
      · cases hr
    · cases hr
def loadR (P : Program) (T : TypeId) (a : SV) (own : Nat → Hl) : Res := match tyNK P T with
  | none => bad
  | some (n, kk) => match a with
    | .ep c => if c.fine = true then (match c.part n kk 0 with
      | some c' => vl c' []
      | none => bad) else bad
    | a => match adr a with
      | none => bad
      | some (k, i, s, j, off) => match readO n kk ((own k).gs i).1 s j off with
        | some (c, side) => ⟨c, ((own k).gs i).2 ++ side, [], [k]⟩
        | none => bad
theorem snd_load {T : TypeId} {own' : Nat → Hl} (H : Hp M F w0 own η w) (h : o.op = .load T x) (hx : a.R η (Av F own η) w (ρ x)) {r : Res} (hr : loadR P T a own' = r) (ho : ∀ k ∈ r.rd, own k = own' k) (hs : conj r.side) : Snd P o ρ M F w0 own η w r := by
  have exec : ∀ v, (Instr.loadAt T (ρ x)).run P w = .ok v w → (execOp ρ o).run P w = .ok (.value v) w := fun v hv => by unfold execOp; rw [h]; simp only [Sem.run_bind, hv]; rfl
  unfold loadR at hr
  split at hr
  · (subst hr; exact hs.elim)
  · rename_i n kk hT
    split at hr
    · rename_i c
      split at hr
      · rename_i hf
        split at hr
        · rename_i c' hp
          obtain ⟨g, oo, ev, _, _, e0, hR, hc⟩ := hx
          obtain ⟨f1, k0, f2⟩ := fine_ok hf
          obtain ⟨u, p1, p2, p3, p4⟩ := part_ok f1 f2 hR hp
          subst hr
          refine snd_val H (exec u ?_) p1
          rw [ev]
          exact load_at hT p3 fun t y hy => hc t y (by have := p4 t y hy; rwa [Nat.zero_add] at this)
        · (subst hr; exact hs.elim)
      · (subst hr; exact hs.elim)
    · rename_i a _
      split at hr
      · (subst hr; exact hs.elim)
      · rename_i k i s j off ha
        split at hr
        · rename_i c side hr0
          subst hr
          have hk : own k = own' k := ho k (by simp)
          rw [← hk] at hr0 hs
          obtain ⟨hsd, hs⟩ := conj_append hs
          cases hg : (own k).gs i with
          | mk x sd =>
          rw [hg] at hr0 hsd
          cases x with
          | none => cases hr0
          | some ob =>
            have hob := gs_conj hg hsd
            obtain ⟨hd, he, hok⟩ := H.ob k i ob hob
            obtain ⟨b, oo, u, e1, e2, e3, e4, e5, e6⟩ := readO_ok ha hr0 hx he hok hs
            refine snd_val H (exec u ?_) e4
            rw [e1]
            exact load_at hT e5 e6
        · (subst hr; exact hs.elim)
/-- where a field lies, its size and kind -/
def fieldOf (P : Program) (T : TypeId) (f : Nat) : Option (Nat × Nat × Bool) := match P.underlying T with
  | some (.struct fs) => match fs[f]? with
    | some fd => match tyNK P fd.type with
      | some (n, k) => if n = 0 then none else some (fd.offset, n, k)
      | none => none
    | none => none
  | _ => none
theorem fieldOf_ok {T : TypeId} {f off n : Nat} {k : Bool} (h : fieldOf P T f = some (off, n, k)) : FieldAt P T f off := by
  unfold fieldOf at h
  split at h
  · rename_i fs hu
    split at h
    · rename_i fd hf
      split at h
      · rename_i n' k' hT
        split at h
        · cases h
        · rename_i hz
          simp only [Option.some.injEq, Prod.mk.injEq] at h
          obtain ⟨d, i, _, hi, hsz, _⟩ := tyNK_spec hT
          refine fieldAt_of hu hf h.1 ?_
          rw [hi]
          simpa [hsz] using hz
      · cases h
    · cases h
  · cases h
def faddrR (P : Program) (T : TypeId) (f : Nat) (a : SV) (own : Nat → Hl) : Res := match fieldOf P T f with
  | none => bad
  | some (off, n, kk) => match a with
    | .ep c => if c.fine = true then (match c.part n kk off with
      | some c' => vl (.ep c') []
      | none => bad) else bad
    | .ref k i s j o => vl (.ref k i s j (o + off)) []
    | .own k i => match (own k).gs i with
      | (some (.var _ _), sd) => ⟨.ref k i 0 0 off, sd, [], [k]⟩
      | _ => bad
    | _ => bad
theorem snd_faddr {T : TypeId} {f : Nat} {own' : Nat → Hl} (H : Hp M F w0 own η w) (h : o.op = .fieldAddr T x f) (hx : a.R η (Av F own η) w (ρ x)) {r : Res} (hr : faddrR P T f a own' = r) (ho : ∀ k ∈ r.rd, own k = own' k) (hs : conj r.side) : Snd P o ρ M F w0 own η w r := by
  unfold faddrR at hr
  split at hr
  · (subst hr; exact hs.elim)
  · rename_i off n kk hf
    have hF := fieldOf_ok hf
    have exec : ∀ b m, ρ x = .pointer (some ⟨b, m, none⟩) → (execOp ρ o).run P w = .ok (.value (.pointer (some ⟨b, m + off, none⟩))) w := fun b m e => by unfold execOp; rw [h]; simp only [e, Sem.run_bind, hF b m w]; rfl
    split at hr
    · rename_i c
      split at hr
      · rename_i hf
        split at hr
        · rename_i c' hp
          obtain ⟨g, oo, ev, e1, e2, e0, hR, hc⟩ := hx
          obtain ⟨f1, k0, f2⟩ := fine_ok hf
          obtain ⟨u, p1, p2, p3, p4⟩ := part_ok f1 f2 hR hp
          subst hr
          exact snd_val H (exec _ _ ev) ⟨g, oo + off, rfl, e1, e2, u, p1, fun t y hy => by rw [Nat.add_assoc]; exact hc _ _ (p4 t y hy)⟩
        · (subst hr; exact hs.elim)
      · (subst hr; exact hs.elim)
    · rename_i k i s j oo
      obtain ⟨hd, b, e1, e2, e3⟩ := hx
      subst hr
      exact snd_val H (exec _ _ e3) ⟨hd, b, e1, e2, by rw [Nat.add_assoc]⟩
    · rename_i k i
      split at hr
      · rename_i T' c sd hob
        subst hr
        have hk : own k = own' k := ho k (by simp)
        rw [← hk] at hob
        have hob := gs_conj hob hs
        obtain ⟨hd, he, hok⟩ := H.ob k i _ hob
        have hx1 := hx.1
        obtain ⟨b, u, rfl, _⟩ := hok
        rw [hx1] at he
        exact snd_val H (exec b 0 (Option.some.inj he)) ⟨_, b, hx1.trans he, rfl, by rw [Nat.mul_zero]⟩
      · (subst hr; exact hs.elim)
    · (subst hr; exact hs.elim)
/-- the element type of a slice type, its size -/
def elemOf (P : Program) (T : TypeId) : Option (TypeId × Nat) := match P.underlying T with
  | some (.slice e) => (P.info? e).map fun i => (e, i.size)
  | _ => none
theorem elemOf_ok {T e : TypeId} {s : Nat} (h : elemOf P T = some (e, s)) : P.underlying T = some (.slice e) ∧ ∃ i, P.info? e = some i ∧ i.size = s := by
  unfold elemOf at h
  split at h
  · rename_i e' hu
    obtain ⟨i, hi, e1⟩ := Option.map_eq_some_iff.1 h
    simp only [Prod.mk.injEq] at e1
    obtain ⟨rfl, rfl⟩ := e1
    exact ⟨hu, i, hi, rfl⟩
  · cases h
def idxR (P : Program) (T : TypeId) (a b : SV) (own : Nat → Hl) (h : Hint) : Res := match elemOf P T, h, b with
  | some (_, s), .k j, .ex (.int _ z) => match a with
    | .sl s' E n => if s = s' then vl (.ep (E j)) [z = ((j : Nat) : Int), j < n] else bad
    | .own k i => match (own k).gs i with
      | (some (.row _ s' _ n), sd) => if s = s' then ⟨.ref k i s j 0, [z = ((j : Nat) : Int), j < n] ++ sd, [], [k]⟩ else bad
      | _ => bad
    | _ => bad
  | _, _, _ => bad
theorem run_index {T e : TypeId} {s j n c g oo : Nat} {k : IntKind} {i0 : TypeInfo} (h : o.op = .indexAddr T x y) (hu : P.underlying T = some (.slice e)) (hi : P.info? e = some i0) (hz : i0.size = s) (hx : ρ x = .slice (some ⟨g, oo, none⟩) n c) (hy : ρ y = .int k ((j : Nat) : Int)) (hj : j < n) :
    (execOp ρ o).run P w = .ok (.value (.pointer (some ⟨g, oo + s * j, none⟩))) w := by
  unfold execOp
  rw [h]
  have h1 : (0 : Int) ≤ (j : Int) ∧ (j : Int) < (n : Int) := by omega
  simp [Instr.indexAt, hx, hy, asIntOf, run_underlying hu, sizeOf, typeInfo, hi, hz, hj, add_plain, Nat.mul_comm j s]
theorem snd_idx {T : TypeId} {hi : Hint} {own' : Nat → Hl} (H : Hp M F w0 own η w) (h : o.op = .indexAddr T x y) (hx : a.R η (Av F own η) w (ρ x)) (hy : b.R η (Av F own η) w (ρ y)) {r : Res} (hr : idxR P T a b own' hi = r) (ho : ∀ k ∈ r.rd, own k = own' k) (hs : conj r.side) : Snd P o ρ M F w0 own η w r := by
  unfold idxR at hr
  split at hr
  · rename_i e s j kk z hT
    obtain ⟨hu, i0, hi0, hz0⟩ := elemOf_ok hT
    have hy : ρ y = .int kk z := hy
    split at hr
    · rename_i s' E n
      split at hr
      · rename_i e1
        subst e1
        subst hr
        obtain ⟨rfl, hj⟩ := hs
        obtain ⟨A0, c, ev, h1, h2, h3, k⟩ := hx
        obtain ⟨g, oo, rfl, q1, q2, e0, q3, q4, q5⟩ := k j hj
        exact snd_val H (run_index h hu hi0 hz0 ev hy hj) ⟨g, _, rfl, q1, q2, e0, q4, q5⟩
      · (subst hr; exact hs.elim)
    · rename_i k i
      split at hr
      · rename_i T' s' E n sd hob
        split at hr
        · rename_i e1
          subst e1
          subst hr
          obtain ⟨hs, hsd⟩ := conj_append hs
          obtain ⟨rfl, hj⟩ := hs
          have hj : j < n := hj
          have hk : own k = own' k := ho k (by simp)
          rw [← hk] at hob
          have hob := gs_conj hob hsd
          obtain ⟨hd, he, hok⟩ := H.ob k i _ hob
          have hx1 := hx.1
          obtain ⟨A0, c, rfl, h1, h2, hT', h3⟩ := hok
          rw [hx1] at he
          have ev := Option.some.inj he
          rcases h3 with ⟨rfl, rfl, _⟩ | ⟨g, cs, rfl, hB, hcs, hel⟩
          · omega
          · refine snd_val H (run_index h hu hi0 hz0 ev hy hj) ⟨_, g, hx1.trans he, rfl, ?_⟩
            rw [Nat.zero_add, Nat.add_zero]
        · (subst hr; exact hs.elim)
      · (subst hr; exact hs.elim)
    · (subst hr; exact hs.elim)
  · (subst hr; exact hs.elim)
def lenR (P : Program) (T : TypeId) (a : SV) (own : Nat → Hl) : Res := match elemOf P T with
  | none => bad
  | some _ => match a with
    | .sl _ _ n => vl (.ex (.int .i64 ((n : Nat) : Int))) []
    | .ex (.slice _ n _) => vl (.ex (.int .i64 ((n : Nat) : Int))) []
    | .own k i => match (own k).gs i with
      | (some (.row _ _ _ n), sd) => ⟨.ex (.int .i64 ((n : Nat) : Int)), sd, [], [k]⟩
      | _ => bad
    | _ => bad
theorem snd_len {T : TypeId} {own' : Nat → Hl} (H : Hp M F w0 own η w) (h : o.op = .call { callee := .builtin .len, args := #[x], argTypes := #[T] }) (hx : a.R η (Av F own η) w (ρ x)) {r : Res} (hr : lenR P T a own' = r) (ho : ∀ k ∈ r.rd, own k = own' k) (hs : conj r.side) : Snd P o ρ M F w0 own η w r := by
  unfold lenR at hr
  split at hr
  · (subst hr; exact hs.elim)
  · rename_i e hT
    obtain ⟨hu, _⟩ := elemOf_ok hT
    have exec : ∀ A n c, ρ x = .slice A n c → (execOp ρ o).run P w = .ok (.value (.int .i64 ((n : Nat) : Int))) w := fun A n c e => by unfold execOp; rw [h]; simp [resolve, invoke, builtin, e, Builtin.len_, run_underlying hu, goInt]
    split at hr
    · subst hr
      obtain ⟨A0, c, ev, _⟩ := hx
      exact snd_val H (exec _ _ _ ev) rfl
    · subst hr
      exact snd_val H (exec _ _ _ hx) rfl
    · rename_i k i
      split at hr
      · rename_i T' s' E n sd hob
        subst hr
        have hk : own k = own' k := ho k (by simp)
        rw [← hk] at hob
        have hob := gs_conj hob hs
        obtain ⟨hd, he, hok⟩ := H.ob k i _ hob
        have hx1 := hx.1
        obtain ⟨A0, c, rfl, _⟩ := hok
        rw [hx1] at he
        exact snd_val H (exec _ _ _ (Option.some.inj he)) rfl
      · (subst hr; exact hs.elim)
    · (subst hr; exact hs.elim)
end
end Go.Proofs.Ytngghjhmfpmilaa
/- Operations by terms: rows that are made, appended to, stored to. -/
namespace Go.Proofs.Ytngghjhmfpmilaa
open Go.RowKit
section
variable {P : Program} {o : Oper} {ρ : Operand → Value} {M F : Nat → Prop} {w0 w : World} {own : Nat → Hl} {η : Eta} {x y : Operand} {a b : SV}
theorem made_cells {z : Array Value} {s n i j : Nat} (hz : z.size = s) (hi : i < n) (hj : j < s) : (madeCells z (n * s))[s * i + j]? = z[j]? := by
  have h1 : s * i + j < n * s := by
    have := Nat.mul_le_mul_left s (show i + 1 ≤ n from hi)
    rw [Nat.mul_succ] at this
    rw [Nat.mul_comm n s]; omega
  have h2 : (s * i + j) % s = j := by rw [Nat.mul_add_mod]; exact Nat.mod_eq_of_lt hj
  simp only [madeCells, Array.getElem?_map, Array.getElem?_range, h1, if_true, Option.map_some]
  rw [hz, h2, Array.getElem?_eq_getElem (by omega), getElem!_pos z j (by omega)]
def makeR (P : Program) (T : TypeId) (a b : SV) (nx : Nat) (h : Hint) : Res := match elemOf P T, h, a, b with
  | some (e, s), .row n E, .ex (.int _ z), .ex (.int _ z') => match P.info? e with
    | some i => match i.zero with
      | some zv => if e = 105 ∨ zv.cells.size ≠ s ∨ zv.cells.all (·.oneCell') = false ∨ 128 < i.bytes then bad else ⟨.own nx 0, [z = ((n : Nat) : Int), z' = ((n : Nat) : Int), n ≤ 68719476736, ∀ j, j < n → conj (SV.le (.ex zv) (E j))], [(nx, .one (.row e s E n))], []⟩
      | none => bad
    | none => bad
  | _, _, _, _ => bad
theorem snd_make {T : TypeId} {nx : Nat} {hi : Hint} (H : Hp M F w0 own η w) (h : o.op = .makeSlice T x y) (hx : a.R η (Av F own η) w (ρ x)) (hy : b.R η (Av F own η) w (ρ y)) {r : Res} (hr : makeR P T a b nx hi = r) (hk : ∀ p ∈ r.new, nx ≤ p.1 → own p.1 = .unborn) (hs : conj r.side) : Snd P o ρ M F w0 own η w r := by
  unfold makeR at hr
  split at hr
  · rename_i e s n E k1 z k2 z' hT
    obtain ⟨hu, i0, hi0, hz0⟩ := elemOf_ok hT
    split at hr
    · rename_i i hi1
      rw [hi0] at hi1
      obtain rfl := Option.some.inj hi1
      split at hr
      · rename_i zv hzv
        split at hr
        · subst hr; exact hs.elim
        · rename_i hc
          subst hr
          replace hk := hk (nx, _) (List.mem_cons_self ..) (Nat.le_refl _)
          simp only [not_or, ne_eq, Decidable.not_not, Bool.not_eq_false, Nat.not_lt] at hc
          obtain ⟨c1, c2, c3, c4⟩ := hc
          obtain ⟨rfl, rfl, hn, hE⟩ := hs
          have hx : ρ x = .int k1 n := hx
          have hy : ρ y = .int k2 n := hy
          have hbt : (n : Int) * 128 ≤ 68719476736 * 128 := by omega
          have hbt2 : (i0.bytes : Int) * (n : Int) ≤ 281474976710656 := by
            have h1 : (i0.bytes : Int) * (n : Int) ≤ 128 * (n : Int) := Int.mul_le_mul_of_nonneg_right (by omega) (by omega)
            omega
          have hrun := run_make (P := P) w T e i0 _ hu hi0 hzv k1 k2 (n : Int) (n : Int) (by omega) (Int.le_refl _) hbt2 (by omega)
          rw [Int.toNat_natCast, hz0] at hrun
          refine snd_new (ob := .row e s E n) (h := .slice (some ⟨w.heap.size, 0, none⟩) n n) (w' := w.alloc (.cells (madeCells zv.cells (n * s)) e)) H ?_ ((Grow.refl w).alloc _) hk (fun b hb => by cases hb; exact Nat.le_refl _) fun η' A' K => ?_
          · unfold execOp
            rw [h]
            simp only [hx, hy, Sem.run_bind, hrun, Result.andThen_ok]
            rfl
          · have hb := Blk.new w e (madeCells zv.cells (n * s))
            refine ⟨_, n, rfl, Nat.le_refl _, by unfold maxLen; omega, c1, .inr ⟨w.heap.size, _, rfl, hb, by rw [size_madeCells, Nat.mul_comm], fun i hi => ⟨zv, ⟨c2, fun u hu => Array.all_eq_true_iff_forall_mem.1 c3 u (by simpa using hu)⟩, SV.le_ok _ _ _ (hE i hi) rfl, fun j u hj => ?_⟩⟩⟩
            rw [hb.cell, made_cells c2 hi (by rw [← c2]; exact (Array.getElem?_eq_some_iff.1 hj).1)]
            exact hj
      · subst hr; exact hs.elim
    · subst hr; exact hs.elim
  · subst hr; exact hs.elim
/-- what is appended or copied: elements, how many, the own blocks that are read -/
def srcOf (s : Nat) (a : SV) (own : Nat → Hl) : Option ((Nat → SV) × Nat × List Nat × List Prop) := match a with
  | .sl s' E n => if s = s' then some (E, n, [], []) else none
  | .ex (.slice none 0 0) => some (fun _ => .any, 0, [], [])
  | .own k i => match (own k).gs i with
    | (some (.row _ s' E n), sd) => if s = s' then some (E, n, [k], sd) else none
    | _ => none
  | _ => none
theorem cells_list {s n : Nat} {g oo : Nat} {Q : Nat → Value → Prop} (hel : ∀ i, i < n → ∃ e : Value, (e.cells.size = s ∧ One e) ∧ Q i e ∧ ∀ j u, e.cells[j]? = some u → w.cell? ⟨g, (oo + s * i) + j, none⟩ = some u) :
    ∃ news : List Value, news.length = n * s ∧ (∀ u ∈ news, u.oneCell' = true) ∧ (∀ j u, news[j]? = some u → w.cell? ⟨g, oo + j, none⟩ = some u) ∧ ∀ i, i < n → ∃ e : Value, (e.cells.size = s ∧ One e) ∧ Q i e ∧ ∀ j u, e.cells[j]? = some u → news[s * i + j]? = some u := by
  induction n with
  | zero => exact ⟨[], by simp, by simp, fun j u h => by simp at h, fun i hi => by omega⟩
  | succ n ih =>
    obtain ⟨news, h1, h2, h3, h4⟩ := ih fun i hi => hel i (by omega)
    obtain ⟨e, ⟨e1, e2⟩, e3, e4⟩ := hel n (by omega)
    refine ⟨news ++ e.cells.toList, by rw [List.length_append, h1, Array.length_toList, e1, Nat.succ_mul], fun u hu => ?_, fun j u hj => ?_, fun i hi => ?_⟩
    · rcases List.mem_append.1 hu with h | h
      · exact h2 u h
      · exact e2 u h
    · rcases Nat.lt_or_ge j news.length with hl | hl
      · rw [List.getElem?_append_left hl] at hj
        exact h3 j u hj
      · rw [List.getElem?_append_right hl, Array.getElem?_toList] at hj
        have := e4 _ u hj
        rw [h1, Nat.mul_comm n s] at this
        rw [h1, Nat.mul_comm n s] at hl
        rw [show oo + j = oo + s * n + (j - s * n) by omega]
        exact this
    · rcases Nat.lt_or_ge i n with hl | hl
      · obtain ⟨e', q1, q2, q3⟩ := h4 i hl
        refine ⟨e', q1, q2, fun j u hj => ?_⟩
        have := q3 j u hj
        rw [List.getElem?_append_left (List.getElem?_eq_some_iff.1 this).1]
        exact this
      · obtain rfl : i = n := by omega
        refine ⟨e, ⟨e1, e2⟩, e3, fun j u hj => ?_⟩
        rw [List.getElem?_append_right (by rw [h1, Nat.mul_comm]; omega), h1, Nat.mul_comm, Nat.add_sub_cancel_left, Array.getElem?_toList]
        exact hj
/-- what is appended, as the machine reads it -/
theorem src_ok {s m : Nat} {E : Nat → SV} {ks : List Nat} {own' : Nat → Hl} {v : Value} {T e : TypeId} (H : Hp M F w0 own η w) {sds : List Prop} (h : srcOf s a own' = some (E, m, ks, sds)) (hsd : conj sds) (ho : ∀ k ∈ ks, own k = own' k) (hv : a.R η (Av F own η) w v) (hT : P.underlying T = some (.slice e)) :
    ∃ news : List Value, Src P s T v m news w ∧ ∀ i, i < m → ∃ e0 : Value, (e0.cells.size = s ∧ One e0) ∧ (E i).R η (Av F own η) w e0 ∧ ∀ j u, e0.cells[j]? = some u → news[s * i + j]? = some u := by
  have key : ∀ (A0 : Option Addr) (c : Nat), v = .slice A0 m c → Nilled A0 m c → (∀ i, i < m → ∃ g oo, A0 = some ⟨g, oo, none⟩ ∧ ∃ e0 : Value, (e0.cells.size = s ∧ One e0) ∧ (E i).R η (Av F own η) w e0 ∧ ∀ j u, e0.cells[j]? = some u → w.cell? ⟨g, (oo + s * i) + j, none⟩ = some u) → (∀ a, A0 = some a → a.spot = none) →
      ∃ news : List Value, Src P s T v m news w ∧ ∀ i, i < m → ∃ e0 : Value, (e0.cells.size = s ∧ One e0) ∧ (E i).R η (Av F own η) w e0 ∧ ∀ j u, e0.cells[j]? = some u → news[s * i + j]? = some u := by
    intro A0 c ev hn hel _
    subst ev
    cases A0 with
    | none =>
      obtain ⟨rfl, rfl⟩ := hn rfl
      exact ⟨[], Src.ofNil w hT 0, fun i hi => by omega⟩
    | some ad =>
      rcases Nat.eq_zero_or_pos m with rfl | hpos
      · exact ⟨[], Src.ofSlice w hT ad 0 c [] (by simp) (fun j u h => by simp at h) (fun u h => by simp at h), fun i hi => by omega⟩
      · obtain ⟨g, oo, ea, _⟩ := hel 0 hpos
        obtain rfl := Option.some.inj ea
        obtain ⟨news, h1, h2, h3, h4⟩ := cells_list (w := w) (g := g) (oo := oo) (Q := fun i e0 => (E i).R η (Av F own η) w e0) fun i hi => by
          obtain ⟨g', oo', ea, rest⟩ := hel i hi
          simp only [Option.some.injEq, Addr.mk.injEq, and_true] at ea
          obtain ⟨rfl, rfl⟩ := ea
          exact rest
        exact ⟨news, Src.ofSlice w hT ⟨g, oo, none⟩ m c news h1 (fun j u hj => by rw [add_plain]; exact h3 j u hj) h2, h4⟩
  unfold srcOf at h
  split at h
  · rename_i s' E' n'
    split at h
    · rename_i es
      subst es
      simp only [Option.some.injEq, Prod.mk.injEq] at h
      obtain ⟨rfl, rfl, rfl, rfl⟩ := h
      obtain ⟨A0, c, ev, h1, h2, h3, k⟩ := hv
      rcases Nat.eq_zero_or_pos n' with rfl | hpos
      · cases A0 with
        | none =>
          obtain ⟨_, rfl⟩ := h1 rfl
          subst ev
          exact ⟨[], Src.ofNil w hT 0, fun i hi => by omega⟩
        | some ad =>
          subst ev
          exact ⟨[], Src.ofSlice w hT ad 0 c [] (by simp) (fun j u h => by simp at h) (fun u h => by simp at h), fun i hi => by omega⟩
      · obtain ⟨g0, o0, ea0, _⟩ := k 0 hpos
        refine key A0 c ev h1 (fun i hi => ?_) (fun a ha => by rw [ea0] at ha; cases ha; rfl)
        obtain ⟨g, oo, ea, _, _, e0, q1, q2, q3⟩ := k i hi
        exact ⟨g, oo, ea, e0, q1, q2, q3⟩
    · cases h
  · simp only [Option.some.injEq, Prod.mk.injEq] at h
    obtain ⟨rfl, rfl, rfl, rfl⟩ := h
    obtain rfl : v = .slice none 0 0 := hv
    exact ⟨[], Src.ofNil w hT 0, fun i hi => by omega⟩
  · rename_i k i
    split at h
    · rename_i T' s' E' n' sd hob
      split at h
      · rename_i es
        subst es
        simp only [Option.some.injEq, Prod.mk.injEq] at h
        obtain ⟨rfl, rfl, rfl, rfl⟩ := h
        rw [← ho k (by simp)] at hob
        have hob := gs_conj hob hsd
        obtain ⟨hd, he, hok⟩ := H.ob k i _ hob
        have hv1 := hv.1
        obtain ⟨A0, c, rfl, h1, h2, hT', h3⟩ := hok
        rw [hv1] at he
        have ev := Option.some.inj he
        rcases h3 with ⟨rfl, rfl, rfl⟩ | ⟨g, cs, rfl, hB, hcs, hel⟩
        · subst ev
          exact ⟨[], Src.ofNil w hT 0, fun i hi => by omega⟩
        · refine key (some ⟨g, 0, none⟩) c ev (fun e => by cases e) (fun i hi => ⟨g, 0, rfl, ?_⟩) (fun a ha => by cases ha; rfl)
          obtain ⟨e0, q1, q2, q3⟩ := hel i hi
          exact ⟨e0, q1, q2, fun j u hj => by rw [Nat.zero_add]; exact q3 j u hj⟩
      · cases h
    · cases h
  · cases h
/-- an own row becomes another one -/
theorem snd_turn {k i k' : Nat} {o1 o' : OB} {h h' : Value} {w' : World} {side : List Prop} {rd : List Nat} {own2 : Hl} (H : Hp M F w0 own η w) (hr : (execOp ρ o).run P w = .ok (.value h') w') (hk : (own k).get i = some o1) (he : η k i = some h) (hk' : own k' = .unborn) (h2 : own2 = own k)
    (hs : w.heap.size ≤ w'.heap.size) (hw : ∀ b, b < w.heap.size → hb h ≠ some b → w'.heap[b]? = w.heap[b]?) (hos : w'.os = w.os) (htp : w'.tape = w.tape) (hou : w'.output = w.output)
    (hn : ∀ b, hb h' = some b → hb h = some b ∨ w.heap.size ≤ b)
    (hok : ∀ η' A', Keep η η' (Av F own η) A' w w' → o'.ok η' A' w' h') : Snd P o ρ M F w0 own η w ⟨.own k' 0, side, [(k, own2.kill i), (k', .one o')], rd⟩ := by
  subst h2
  obtain ⟨h1, h2⟩ := H.turn (o' := o') hk he hk' hs hw hos htp hou hn fun K => hok _ _ K
  unfold Snd Yld
  rw [hr]
  exact ⟨_, h1, h2, by unfold upEta; rw [if_pos rfl]; rfl, OB.hdr (hok _ _ h2)⟩
def appR (P : Program) (T T' : TypeId) (a b : SV) (own : Nat → Hl) (nx : Nat) (h : Hint) : Res := match elemOf P T, elemOf P T', h with
  | some (e, s), some _, .row _ E' => match P.info? e with
    | some i => match i.zero with
      | some zv => if e = 105 ∨ zv.cells.size ≠ s ∨ s = 0 ∨ 128 < i.bytes then bad else match srcOf s b own with
        | none => bad
        | some (E2, m, ks, sds) => match a with
          | .ex (.slice none 0 0) => ⟨.own nx 0, [m ≤ 68719476736, ∀ j, j < m → conj (SV.le (E2 j) (E' j))] ++ sds, [(nx, .one (.row e s E' m))], ks⟩
          | .own k i => match (own k).gs i with
            | (some (.row e' s' E n), sd) => if e' = e ∧ s' = s then ⟨.own nx 0, [n + m ≤ 68719476736, ∀ j, j < n → E' j = E j, ∀ j, j < m → conj (SV.le (E2 j) (E' (n + j)))] ++ (sds ++ sd), [(k, (own k).kill i), (nx, .one (.row e s E' (n + m)))], k :: ks⟩ else bad
            | _ => bad
          | _ => bad
      | none => bad
    | none => bad
  | _, _, _ => bad
theorem elt_at {η' : Eta} {A' : Nat → Prop} {w' : World} {s n m i : Nat} {E E2 E' : Nat → SV} {g : Nat} {cs : Array Value} {e : TypeId} {A : Nat → Prop} {olds news rest : List Value} (K : Keep η η' A A' w w') (hb : Blk w' g e cs) (hcs : cs.toList = olds ++ news ++ rest) (hol : olds.length = s * n)
    (hold : ∀ i, i < n → ∃ e0 : Value, (e0.cells.size = s ∧ One e0) ∧ (E i).R η A w e0 ∧ ∀ j u, e0.cells[j]? = some u → olds[s * i + j]? = some u) (hnew : ∀ i, i < m → ∃ e0 : Value, (e0.cells.size = s ∧ One e0) ∧ (E2 i).R η A w e0 ∧ ∀ j u, e0.cells[j]? = some u → news[s * i + j]? = some u)
    (h1 : ∀ j, j < n → E' j = E j) (h2 : ∀ j, j < m → conj (SV.le (E2 j) (E' (n + j)))) (hi : i < n + m) : EltS (E' i) η' A' w' g (s * i) s := by
  rcases Nat.lt_or_ge i n with hl | hl
  · obtain ⟨e0, q1, q2, q3⟩ := hold i hl
    refine ⟨e0, q1, by rw [h1 i hl]; exact SV.keep K _ _ q2, fun j u hj => ?_⟩
    have := q3 j u hj
    rw [hb.cell, ← Array.getElem?_toList, hcs, List.append_assoc, List.getElem?_append_left (List.getElem?_eq_some_iff.1 this).1]
    exact this
  · obtain ⟨d, rfl⟩ : ∃ d, i = n + d := ⟨i - n, by omega⟩
    obtain ⟨e0, q1, q2, q3⟩ := hnew d (by omega)
    refine ⟨e0, q1, SV.keep K _ _ (SV.le_ok _ _ _ (h2 d (by omega)) q2), fun j u hj => ?_⟩
    have := q3 j u hj
    rw [hb.cell, ← Array.getElem?_toList, hcs, List.append_assoc, Nat.mul_add, Nat.add_assoc, List.getElem?_append_right (by omega), hol, Nat.add_sub_cancel_left, List.getElem?_append_left (List.getElem?_eq_some_iff.1 this).1]
    exact this
theorem snd_app {T T' : TypeId} {nx : Nat} {hi : Hint} {own' : Nat → Hl} (H : Hp M F w0 own η w) (h : o.op = .call { callee := .builtin .append, args := #[x, y], argTypes := #[T, T'] }) (hx : a.R η (Av F own η) w (ρ x)) (hy : b.R η (Av F own η) w (ρ y)) {r : Res} (hr : appR P T T' a b own' nx hi = r) (ho : ∀ k ∈ r.rd, own k = own' k) (hk : ∀ p ∈ r.new, nx ≤ p.1 → own p.1 = .unborn) (hs : conj r.side) : Snd P o ρ M F w0 own η w r := by
  have exec : ∀ v w', (Builtin.append_ #[T, T'] o.type #[ρ x, ρ y]).run P w = .ok v w' → (execOp ρ o).run P w = .ok (.value v) w' := fun v w' e => by unfold execOp; rw [h]; simp [resolve, invoke, builtin, e]
  unfold appR at hr
  split at hr
  · rename_i e s es2 k0 E' hT hT'
    obtain ⟨hu, i0, hi0, hz0⟩ := elemOf_ok hT
    obtain ⟨e2, s2⟩ := es2
    obtain ⟨hu2, _⟩ := elemOf_ok hT'
    split at hr
    · rename_i i hi1
      rw [hi0] at hi1
      obtain rfl := Option.some.inj hi1
      split at hr
      · rename_i zv hzv
        split at hr
        · subst hr; exact hs.elim
        · rename_i hc
          simp only [not_or, ne_eq, Decidable.not_not, Nat.not_lt] at hc
          obtain ⟨c1, c2, c3, c4⟩ := hc
          split at hr
          · subst hr; exact hs.elim
          · rename_i E2 m ks sds hsrc
            -- what is appended onto n elements that lie in olds
            have grow : ∀ (A0 : Option Addr) (n c : Nat) (olds news : List Value), ρ x = .slice A0 n c → Src P i0.size T' (ρ y) m news w → n + m ≤ 68719476736 → c < n + m → olds.length = s * n → (Builtin.firstCells i0.size n (.slice A0 n c)).run P w.drew = .ok olds.toArray w.drew →
                ∃ cc, (execOp ρ o).run P w = .ok (.value (.slice (some ⟨w.heap.size, 0, none⟩) (n + m) cc)) (w.drew.alloc (.cells ((olds ++ news).toArray ++ Builtin.zeroCells zv.cells (cc - (n + m))) e)) ∧ n + m ≤ cc ∧ cc ≤ maxLen ∧ ((olds ++ news).toArray ++ Builtin.zeroCells zv.cells (cc - (n + m))).size = s * cc := by
              intro A0 n c olds news ex hS hle hlt hol hold
              have hb2 : (n + m) * i0.bytes ≤ (n + m) * 128 := Nat.mul_le_mul_left _ c4
              have hrun := run_append_grow_src (P := P) w T T' o.type e i0 _ hu hi0 hzv A0 n c olds hold _ m news hS hlt (by omega) (growslice_fits (by omega) (by omega))
              have hcap := grownCap_ge w (n + m) c e
              have hcap2 := grownCap_le_maxLen w (n + m) c e (by unfold maxLen; omega)
              generalize grownCap w (n + m) c e = cc at hrun hcap hcap2
              refine ⟨cc, exec _ _ (by rw [ex]; exact hrun), hcap, hcap2, ?_⟩
              have hnl := hS.newsLen
              rw [hz0] at hnl
              simp only [Array.size_append, List.size_toArray, List.length_append, hol, hnl, size_zeroCells, c2]
              have e2 : (cc - (n + m)) * s = s * cc - s * (n + m) := by rw [Nat.mul_comm, Nat.mul_sub]
              have e3 : s * (n + m) ≤ s * cc := Nat.mul_le_mul_left s hcap
              rw [Nat.mul_add] at e2 e3
              rw [Nat.mul_comm m s]
              omega
            split at hr
            · -- onto nothing
              subst hr
              replace hk := hk (nx, _) (List.mem_cons_self ..) (Nat.le_refl _)
              obtain ⟨hs, hsds⟩ := conj_append hs
              obtain ⟨hm, hle⟩ := hs
              have hx : ρ x = .slice none 0 0 := hx
              have ho' : ∀ k ∈ ks, own k = own' k := ho
              obtain ⟨news, hS, hel⟩ := src_ok H hsrc hsds ho' hy hu2
              rw [← hz0] at hS
              rcases Nat.eq_zero_or_pos m with rfl | hpos
              · have hrun : (Builtin.append_ #[T, T'] o.type #[.slice none 0 0, ρ y]).run P w = .ok (.slice none 0 0) w := by
                  have h1 := hS.len w
                  have h2 := hS.cells
                  simp [Builtin.append_, run_underlying hu, run_underlying hu2, sizeOf, typeInfo, hi0, h1, h2]
                exact snd_new (ob := .row e s E' 0) H (exec _ _ (by rw [hx]; exact hrun)) (Grow.refl w) hk (fun b hb => by cases hb) fun η' A' K => ⟨none, 0, rfl, Nat.le_refl _, Nat.zero_le _, c1, .inl ⟨rfl, rfl, rfl⟩⟩
              · obtain ⟨cc, g1, g2, g3, g4⟩ := grow none 0 0 [] news hx hS (by omega) (by omega) (by simp) (run_firstCells_none w.drew _ _ _ _)
                rw [Nat.zero_add] at g1 g2 g4
                have hg : Grow w (w.drew.alloc (.cells (([] ++ news).toArray ++ Builtin.zeroCells zv.cells (cc - m)) e)) := ((Grow.refl w).drew).alloc _
                refine snd_new (ob := .row e s E' m) H g1 hg hk (fun b hb => by cases hb; exact Nat.le_refl _) fun η' A' K => ?_
                have hb' : Blk (w.drew.alloc (.cells (([] ++ news).toArray ++ Builtin.zeroCells zv.cells (cc - m)) e)) w.heap.size e _ := Blk.new w.drew e _
                refine ⟨_, cc, rfl, g2, g3, c1, .inr ⟨w.heap.size, _, rfl, hb', g4, fun i hi => ?_⟩⟩
                exact elt_at (E := fun _ => .any) (n := 0) (m := m) (olds := []) (rest := (Builtin.zeroCells zv.cells (cc - m)).toList) K hb' (by simp) (by simp) (fun i hi => by omega) hel (fun j hj => by omega) (fun j hj => by rw [Nat.zero_add]; exact hle j hj) (by omega)
            · -- onto an own row
              rename_i k i
              split at hr
              · rename_i e' s' E n sd hob
                split at hr
                · rename_i hes
                  obtain ⟨rfl, rfl⟩ := hes
                  subst hr
                  replace hk := hk (nx, _) (List.mem_cons_of_mem _ (List.mem_cons_self ..)) (Nat.le_refl _)
                  obtain ⟨hs, hsd2⟩ := conj_append hs
                  obtain ⟨hsds, hsd⟩ := conj_append hsd2
                  obtain ⟨hm, hE1, hE2⟩ := hs
                  have hkk : own k = own' k := ho k (by simp)
                  obtain ⟨news, hS, hel⟩ := src_ok H hsrc hsds (fun k' hk' => ho k' (List.mem_cons_of_mem _ hk')) hy hu2
                  rw [← hz0] at hS
                  rw [← hkk] at hob
                  have hob := gs_conj hob hsd
                  obtain ⟨hd, he, hok⟩ := H.ob k i _ hob
                  have hx1 := hx.1
                  obtain ⟨A0, c, rfl, h1, h2, hT0, h3⟩ := hok
                  rw [hx1] at he
                  have ex := Option.some.inj he
                  have he' : η k i = some (.slice A0 n c) := by rw [hx1]; exact he
                  have hnl := hS.newsLen
                  rw [hz0] at hnl
                  rcases Nat.lt_or_ge c (n + m) with hlt | hroom
                  · obtain ⟨olds, hol, hold, holds⟩ : ∃ olds : List Value, olds.length = s' * n ∧ (Builtin.firstCells i0.size n (.slice A0 n c)).run P w.drew = .ok olds.toArray w.drew ∧ ∀ i, i < n → ∃ e0 : Value, (e0.cells.size = s' ∧ One e0) ∧ (E i).R η (Av F own η) w e0 ∧ ∀ j u, e0.cells[j]? = some u → olds[s' * i + j]? = some u := by
                      rcases h3 with ⟨rfl, rfl, rfl⟩ | ⟨g, cs, rfl, hB, hcs, hel0⟩
                      · exact ⟨[], by simp, run_firstCells_none w.drew _ _ _ _, fun i hi => by omega⟩
                      · obtain ⟨olds, q1, q2, q3, q4⟩ := cells_list (w := w) (g := g) (oo := 0) (Q := fun i e0 => (E i).R η (Av F own η) w e0) fun i hi => by
                          obtain ⟨e0, a1, a2, a3⟩ := hel0 i hi
                          exact ⟨e0, a1, a2, fun j u hj => by rw [Nat.zero_add]; exact a3 j u hj⟩
                        exact ⟨olds, by rw [q1, Nat.mul_comm], run_firstCells_some w.drew _ _ _ _ _ _ (by rw [q1, hz0]) (fun j v hj => by
                          rw [add_plain]
                          exact q3 j v hj), q4⟩
                    obtain ⟨cc, g1, g2, g3, g4⟩ := grow A0 n c olds news ex hS hm hlt hol hold
                    have hg : Grow w (w.drew.alloc (.cells ((olds ++ news).toArray ++ Builtin.zeroCells zv.cells (cc - (n + m))) e')) := ((Grow.refl w).drew).alloc _
                    refine snd_turn H g1 hob he' hk hkk.symm hg.size (fun b hb _ => hg.block b hb) hg.os hg.tape hg.output (fun b hb => by cases hb; exact .inr (Nat.le_refl _)) fun η' A' K => ?_
                    have hb' : Blk (w.drew.alloc (.cells ((olds ++ news).toArray ++ Builtin.zeroCells zv.cells (cc - (n + m))) e')) w.heap.size e' _ := Blk.new w.drew e' _
                    refine ⟨_, cc, rfl, g2, g3, c1, .inr ⟨w.heap.size, _, rfl, hb', g4, fun i hi => ?_⟩⟩
                    exact elt_at (rest := (Builtin.zeroCells zv.cells (cc - (n + m))).toList) K hb' (by simp) hol holds hel hE1 hE2 hi
                  · rcases h3 with ⟨rfl, rfl, rfl⟩ | ⟨g, cs, rfl, hB, hcs, hel0⟩
                    · obtain rfl : m = 0 := by omega
                      have hrun : (Builtin.append_ #[T, T'] o.type #[.slice none 0 0, ρ y]).run P w = .ok (.slice none 0 0) w := by
                        have h1 := hS.len w
                        have h2 := hS.cells
                        simp [Builtin.append_, run_underlying hu, run_underlying hu2, sizeOf, typeInfo, hi0, h1, h2]
                      exact snd_turn H (exec _ _ (by rw [ex]; exact hrun)) hob he' hk hkk.symm (Nat.le_refl _) (fun _ _ _ => rfl) rfl rfl rfl (fun b hb => by cases hb) fun η' A' K => ⟨none, 0, rfl, Nat.le_refl _, Nat.zero_le _, c1, .inl ⟨rfl, rfl, rfl⟩⟩
                    · have hnc : s' * n + m * s' ≤ s' * c := by
                        have := Nat.mul_le_mul_left s' hroom
                        rw [Nat.mul_add, Nat.mul_comm s' m] at this
                        exact this
                      have hrun := run_append_room_src (P := P) w T T' o.type e' i0 hu hi0 g 0 n c _ m news hS hroom (fun j hj => by
                        rw [hB.cell, hz0, Array.getElem?_eq_getElem (show 0 + n * s' + j < cs.size by rw [Nat.mul_comm n s']; omega)]
                        rfl) (fun j hj => hB.frozen _)
                      obtain ⟨cs', hb', hcs'⟩ := blk_setCells2 news (0 + n * i0.size) hB (by rw [hz0, Nat.mul_comm n s']; omega)
                      have hput := put_setCells (l := news) (o := 0 + n * i0.size) hB
                      have hlen : (cs.toList.take (s' * n)).length = s' * n := by rw [List.length_take, Array.length_toList]; omega
                      have hcs2 : cs'.toList = cs.toList.take (s' * n) ++ news ++ cs.toList.drop (s' * n + news.length) := by rw [hcs', hz0, Nat.zero_add, Nat.mul_comm n s']
                      refine snd_turn (h' := .slice (some ⟨g, 0, none⟩) (n + m) c) H (exec _ _ (by rw [ex]; exact hrun)) hob he' hk hkk.symm (by rw [hput.size]; exact Nat.le_refl _) (fun b _ hb => hput.other b fun e => hb (by rw [e]; rfl)) hput.os hput.tape hput.output (fun b hb => .inl hb) fun η' A' K => ?_
                      refine ⟨_, c, rfl, hroom, h2, c1, .inr ⟨g, cs', rfl, hb', ?_, fun i hi => ?_⟩⟩
                      · have := congrArg List.length hcs2
                        simp only [List.length_append, hlen, List.length_drop, Array.length_toList] at this
                        omega
                      · refine elt_at (E := E) (n := n) K hb' hcs2 hlen (fun i hi => ?_) hel hE1 hE2 hi
                        obtain ⟨e0, a1, a2, a3⟩ := hel0 i hi
                        refine ⟨e0, a1, a2, fun j u hj => ?_⟩
                        have := a3 j u hj
                        rw [hB.cell] at this
                        have hlt : s' * i + j < s' * n := by
                          have h1 := (Array.getElem?_eq_some_iff.1 hj).1
                          have h2 := Nat.mul_le_mul_left s' (show i + 1 ≤ n from hi)
                          rw [Nat.mul_succ] at h2
                          omega
                        rw [List.getElem?_take_of_lt hlt, Array.getElem?_toList]
                        exact this
                · subst hr; exact hs.elim
              · subst hr; exact hs.elim
            · subst hr; exact hs.elim
      · subst hr; exact hs.elim
    · subst hr; exact hs.elim
  · subst hr; exact hs.elim
end
end Go.Proofs.Ytngghjhmfpmilaa
/- Operations by terms: stores, literals, copies, parts of slices. -/
namespace Go.Proofs.Ytngghjhmfpmilaa
open Go.RowKit
theorem splice_get {l m : List Value} {a i : Nat} (h : a + m.length ≤ l.length) : (l.take a ++ m ++ l.drop (a + m.length))[i]? = if i < a then l[i]? else if i < a + m.length then m[i - a]? else l[i]? := by
  have hlen : (l.take a).length = a := by rw [List.length_take]; omega
  by_cases h1 : i < a
  · rw [if_pos h1, List.append_assoc, List.getElem?_append_left (by omega), List.getElem?_take_of_lt h1]
  · rw [if_neg h1, List.append_assoc, List.getElem?_append_right (by omega), hlen]
    by_cases h2 : i < a + m.length
    · rw [if_pos h2, List.getElem?_append_left (by omega)]
    · rw [if_neg h2, List.getElem?_append_right (by omega), List.getElem?_drop]
      congr 1
      omega
section
variable {P : Program} {o : Oper} {ρ : Operand → Value} {M F : Nat → Prop} {w0 w : World} {own : Nat → Hl} {η : Eta} {x y : Operand} {a b : SV}
/-- an own block is written -/
theorem snd_change {k i : Nat} {ob o' : OB} {h : Value} {g : Nat} {w' : World} {nv : Next} {v : Value} {sv : SV} {side : List Prop} {rd : List Nat} {c2 : Hl} (H : Hp M F w0 own η w) (hr : (execOp ρ o).run P w = .ok nv w') (hnv : nv = .skip ∧ v = undef ∨ nv = .value v) (hv : ∀ A w', sv.R η A w' v)
    (hk : (own k).get i = some ob) (he : η k i = some h) (hg : hb h = some g) (h2 : Alt (own k) c2 i o') (p : Put w w' g) (hok : Keep η η (Av F own η) (Av F own η) w w' → o'.ok η (Av F own η) w' h) : Snd P o ρ M F w0 own η w ⟨sv, side, [(k, c2)], rd⟩ := by
  obtain ⟨h1, h2⟩ := H.change h2 hk he p.size (fun b hb => p.other b fun e => hb (by rw [e]; exact hg)) p.os p.tape p.output hok
  unfold Snd Yld
  rw [hr]
  rcases hnv with ⟨rfl, rfl⟩ | rfl
  · exact ⟨η, h1, h2, hv _ _⟩
  · exact ⟨η, h1, h2, hv _ _⟩
def putH (c : Hl) (i : Nat) (o' : OB) (h : Hint) : Option (Hl × List Prop) := match c, i, h with
  | .one _, 0, _ => some (.one o', [])
  | .fam n f, i, .rowF _ f' => some (.fam n f', [f' i = o', ∀ t, t < n → t ≠ i → f' t = f t])
  | _, _, _ => none
theorem putH_ok {c c' : Hl} {i : Nat} {o' : OB} {h : Hint} {sd : List Prop} (e : putH c i o' h = some (c', sd)) (hs : conj sd) : Alt c c' i o' := by
  unfold putH at e
  split at e
  · simp only [Option.some.injEq, Prod.mk.injEq] at e
    obtain ⟨rfl, rfl⟩ := e
    exact Alt.one
  · simp only [Option.some.injEq, Prod.mk.injEq] at e
    obtain ⟨rfl, rfl⟩ := e
    exact Alt.fam hs.1 hs.2
  · cases e
def hintE : Hint → Option (Nat → SV)
  | .row _ E => some E
  | .rowF E _ => some E
  | _ => none
def storeR (P : Program) (T : TypeId) (a b : SV) (own : Nat → Hl) (h : Hint) : Res := match tyNK P T, adr a with
  | some (n, kk), some (k, i, s, j, off) => if b.solid = true ∧ b.sz = n ∧ b.kind = some kk then
      match (own k).gs i with
      | (some (.var T' c), sd) => if s = 0 ∧ c.fine = true then (match SV.upd n kk b c off with
        | some c' => (match putH (own k) i (.var T' c') h with
          | some (c2, sd2) => ⟨.any, sd ++ sd2, [(k, c2)], [k]⟩
          | none => bad)
        | none => bad) else bad
      | (some (.row T' s' E m), sd) => match hintE h with
        | some E' => if s = s' ∧ 0 < s ∧ (E j).fine = true then (match SV.upd n kk b (E j) off with
          | some e' => (match putH (own k) i (.row T' s E' m) h with
            | some (c2, sd2) => ⟨.any, [j < m, conj (SV.le e' (E' j)), ∀ t, t < m → t ≠ j → E' t = E t] ++ (sd ++ sd2), [(k, c2)], [k]⟩
            | none => bad)
          | none => bad) else bad
        | none => bad
      | _ => bad
    else bad
  | _, _ => bad
theorem one_of_shp {k : Bool} {n : Nat} {v : Value} (h : Shp k n v) : One v := h.2.1
theorem snd_store {T : TypeId} {hi : Hint} {own' : Nat → Hl} (H : Hp M F w0 own η w) (h : o.op = .store T x y) (hx : a.R η (Av F own η) w (ρ x)) (hy : b.R η (Av F own η) w (ρ y)) {r : Res} (hr : storeR P T a b own' hi = r) (ho : ∀ k ∈ r.rd, own k = own' k) (hs : conj r.side) : Snd P o ρ M F w0 own η w r := by
  have exec : ∀ w', (Instr.storeAt T (ρ x) (ρ y)).run P w = .ok () w' → (execOp ρ o).run P w = .ok .skip w' := fun w' e => by unfold execOp; rw [h]; simp [e]
  unfold storeR at hr
  split at hr
  · rename_i n kk k i s j off hT ha
    split at hr
    · rename_i hb
      obtain ⟨b1, b2, b3⟩ := hb
      have hsy := b2 ▸ (SV.shape b _ b1 hy).1 kk b3
      have hyl := hsy.cells
      split at hr
      · rename_i T' c sd hob
        split at hr
        · rename_i hc
          obtain ⟨rfl, hf⟩ := hc
          split at hr
          · rename_i c' hu
            split at hr
            rotate_left
            · subst hr; exact hs.elim
            rename_i c2 sd2 hput
            subst hr
            obtain ⟨hsd, hsd2⟩ := conj_append hs
            have hkk : own k = own' k := ho k (by simp)
            rw [← hkk] at hob hput
            have hob := gs_conj hob hsd
            obtain ⟨f1, k0, f2⟩ := fine_ok hf
            obtain ⟨hd, he, hok⟩ := H.ob k i _ hob
            obtain ⟨b', hb1, hv1⟩ : ∃ b, hb hd = some b ∧ ρ x = .pointer (some ⟨b, 0 * j + off, none⟩) := by
              rcases adr_ok ha hx he hok (.inr ⟨T', c, rfl⟩) with ⟨_, _, h⟩ | h <;> exact h
            obtain ⟨b2', u0, rfl, hB, hR, hT'⟩ := hok
            obtain rfl := Option.some.inj hb1
            obtain ⟨v', p1, p2, p3, p4, p5, p6⟩ := upd_ok b1 b3 b2 hy f1 f2 hR hu
            rw [Array.length_toList] at p6
            obtain ⟨w', cs', q1, q2, q3, q4⟩ := store_at (P := P) hT hsy hB p6
            rw [Nat.zero_mul, Nat.zero_add] at hv1
            refine snd_change (v := undef) H (exec w' (by rw [hv1]; exact q1)) (.inl ⟨rfl, rfl⟩) (fun _ _ => trivial) hob he rfl (putH_ok hput hsd2) q2 fun K => ⟨b2', v', rfl, ?_, SV.keep K _ _ p1, hT'⟩
            have : cs' = v'.cells := by rw [← Array.toList_inj, q4, p5]
            rw [← this]; exact q3
          · subst hr; exact hs.elim
        · subst hr; exact hs.elim
      · rename_i T' s' E m sd hob
        split at hr
        · rename_i E' _
          split at hr
          · rename_i hc
            obtain ⟨rfl, hpos, hf⟩ := hc
            split at hr
            · rename_i e' hu
              split at hr
              rotate_left
              · subst hr; exact hs.elim
              rename_i c2 sd2 hput
              subst hr
              obtain ⟨hs, hsds⟩ := conj_append hs
              obtain ⟨hsd, hsd2⟩ := conj_append hsds
              obtain ⟨hj, hle, hot⟩ := hs
              have hkk : own k = own' k := ho k (by simp)
              rw [← hkk] at hob hput
              have hob := gs_conj hob hsd
              obtain ⟨f1, k0, f2⟩ := fine_ok hf
              obtain ⟨hd, he, hok⟩ := H.ob k i _ hob
              obtain ⟨b', hb1, hv1⟩ : ∃ b, hb hd = some b ∧ ρ x = .pointer (some ⟨b, s * j + off, none⟩) := by
                rcases adr_ok ha hx he hok (.inl (by omega)) with ⟨_, _, h⟩ | h <;> exact h
              obtain ⟨A0, c, rfl, h1, h2, hT0, h3⟩ := hok
              rcases h3 with ⟨rfl, _, _⟩ | ⟨g, cs, rfl, hB, hcs, hel⟩
              · cases hb1
              · obtain rfl := Option.some.inj hb1
                obtain ⟨e0, ⟨a1, a2⟩, a3, a4⟩ := hel j hj
                obtain ⟨v', p1, p2, p3, p4, p5, p6⟩ := upd_ok b1 b3 b2 hy f1 f2 a3 hu
                have p6' : off + n ≤ s := by rw [Array.length_toList, a1] at p6; exact p6
                have hjm : s * j + s ≤ s * c := by
                  have := Nat.mul_le_mul_left s (show j + 1 ≤ c by omega)
                  rw [Nat.mul_succ] at this
                  exact this
                obtain ⟨w', cs', q1, q2, q3, q4⟩ := store_at (P := P) (o := s * j + off) hT hsy hB (by omega)
                refine snd_change (v := undef) H (exec w' (by rw [hv1]; exact q1)) (.inl ⟨rfl, rfl⟩) (fun _ _ => trivial) hob he rfl (putH_ok hput hsd2) q2 fun K => ⟨_, c, rfl, h1, h2, hT0, .inr ⟨g, cs', rfl, q3, ?_, fun t ht => ?_⟩⟩
                · have := congrArg List.length q4
                  simp only [List.length_append, List.length_take, List.length_drop, Array.length_toList] at this hyl
                  omega
                · have hget : ∀ z, cs'[z]? = if z < s * j + off then cs[z]? else if z < s * j + off + n then (ρ y).cells[z - (s * j + off)]? else cs[z]? := fun z => by
                    rw [← Array.getElem?_toList, q4, ← hyl, splice_get (by rw [hyl, Array.length_toList]; omega), hyl]
                    simp only [Array.getElem?_toList]
                  by_cases hte : t = j
                  · subst hte
                    have hlen' : v'.cells.size = s := by
                      have := congrArg List.length p5
                      simp only [List.length_append, List.length_take, List.length_drop, Array.length_toList] at this hyl
                      omega
                    refine ⟨v', ⟨hlen', fun u hu => ?_⟩, SV.keep K _ _ (SV.le_ok _ _ _ hle p1), fun z u hz => ?_⟩
                    · rw [p5] at hu
                      simp only [List.mem_append] at hu
                      rcases hu with (hu | hu) | hu
                      · exact a2 u (List.mem_of_mem_take hu)
                      · exact hsy.2.1 u hu
                      · exact a2 u (List.mem_of_mem_drop hu)
                    · have hzs : z < s := hlen' ▸ (Array.getElem?_eq_some_iff.1 hz).1
                      have e0c : ∀ z, z < s → cs[s * t + z]? = e0.cells[z]? := fun z hz => by
                        have h1 : e0.cells[z]? = some e0.cells[z] := Array.getElem?_eq_getElem (by omega)
                        have := a4 z _ h1
                        rw [hB.cell] at this
                        rw [this, h1]
                      rw [q3.cell, hget]
                      rw [← Array.getElem?_toList, p5, ← hyl, splice_get (by rw [hyl, Array.length_toList]; omega), hyl] at hz
                      simp only [Array.getElem?_toList] at hz
                      by_cases z1 : z < off
                      · rw [if_pos z1] at hz
                        rw [if_pos (by omega), e0c z hzs]; exact hz
                      · rw [if_neg z1] at hz
                        rw [if_neg (by omega)]
                        by_cases z2 : z < off + n
                        · rw [if_pos z2] at hz
                          rw [if_pos (by omega), ← hz]
                          congr 1; omega
                        · rw [if_neg z2] at hz
                          rw [if_neg (by omega), e0c z hzs]; exact hz
                  · obtain ⟨e1, c1, c2, c3⟩ := hel t ht
                    refine ⟨e1, c1, by rw [hot t ht hte]; exact SV.keep K _ _ c2, fun z u hz => ?_⟩
                    have hzs : z < s := c1.1 ▸ (Array.getElem?_eq_some_iff.1 hz).1
                    have := c3 z u hz
                    rw [hB.cell] at this
                    rw [q3.cell, hget]
                    rcases Nat.lt_or_gt_of_ne hte with hlt | hgt
                    · have := Nat.mul_le_mul_left s (show t + 1 ≤ j from hlt)
                      rw [Nat.mul_succ] at this
                      rw [if_pos (by omega)]; assumption
                    · have := Nat.mul_le_mul_left s (show j + 1 ≤ t from hgt)
                      rw [Nat.mul_succ] at this
                      rw [if_neg (by omega), if_neg (by omega)]; assumption
            · subst hr; exact hs.elim
          · subst hr; exact hs.elim
        · subst hr; exact hs.elim
      · subst hr; exact hs.elim
    · subst hr; exact hs.elim
  · subst hr; exact hs.elim
/-! literals -/
def litE : List SV → Nat → SV
  | [a] => fun _ => a
  | l => fun i => l.getD i .any
theorem litE_get {l : List SV} {i : Nat} {a : SV} (h : l[i]? = some a) : litE l i = a := by
  unfold litE
  split
  · rename_i b
    have : i = 0 := by
      have := (List.getElem?_eq_some_iff.1 h).1
      simpa using this
    subst this
    simpa using h
  · simp [h]
theorem fill_seq {s : Nat} : ∀ (l : List (Nat × Value)) (p : Nat) (cs : Array Value), l.map (·.1) = List.range' p l.length → (∀ q ∈ l, q.2.cells.size = s) → (p + l.length) * s ≤ cs.size →
    ∃ cs', Instr.fill (fun i => some (i * s, s)) cs l = some cs' ∧ cs'.toList = cs.toList.take (p * s) ++ flat (l.map (·.2)) ++ cs.toList.drop ((p + l.length) * s)
  | [], p, cs, _, _, _ => ⟨cs, rfl, by simp [flat]⟩
  | (i, v) :: l, p, cs, hk, hs, hl => by
    simp only [List.map_cons, List.length_cons, List.range'_succ, List.cons.injEq] at hk hl
    obtain ⟨rfl, hk⟩ := hk
    have hv := hs (i, v) (by simp)
    have hmul : (i + (l.length + 1)) * s = (i + 1 + l.length) * s := by rw [show i + (l.length + 1) = i + 1 + l.length by omega]
    have hm2 : (i + 1) * s ≤ (i + 1 + l.length) * s := Nat.mul_le_mul_right s (by omega)
    rw [Nat.add_mul, Nat.one_mul] at hm2
    have hv' : v.cells.size = s := hv
    have hfit : i * s + v.cells.size ≤ cs.size := by rw [hv']; omega
    have hfit2 : i * s + s ≤ cs.size := by omega
    have hf := fill_fold hfit
    generalize hq : v.cells.zipIdx.foldl (fun cs (c, j) => cs.setIfInBounds (i * s + j) c) cs = cs1 at hf
    have hsz : cs1.size = cs.size := by
      have := congrArg List.length hf
      simp only [List.length_append, List.length_take, List.length_drop, Array.length_toList] at this
      omega
    obtain ⟨cs', h1, h2⟩ := fill_seq l (i + 1) cs1 hk (fun q hq => hs q (by simp [hq])) (by rw [hsz]; omega)
    refine ⟨cs', ?_, ?_⟩
    · unfold Instr.fill
      simp only [hv', ne_eq, not_true_eq_false, decide_false, Bool.false_or]
      rw [if_neg (by simp; omega)]
      rw [hq]; exact h1
    · rw [h2, hf]
      have hlen : (cs.toList.take (i * s)).length = i * s := by rw [List.length_take, Array.length_toList]; omega
      have hlv : v.cells.toList.length = s := by rw [Array.length_toList]; exact hv'
      have e1 : (i + 1) * s = i * s + s := by rw [Nat.add_mul, Nat.one_mul]
      have e2 : (i + 1 + l.length) * s = i * s + s + l.length * s := by rw [Nat.add_mul, e1]
      simp only [List.map_cons, flat_cons, List.length_cons]
      have hX : (cs.toList.take (i * s) ++ v.cells.toList).length = i * s + s := by rw [List.length_append, hlen, hlv]
      rw [hmul, e2, e1, hv', List.take_left' hX, List.drop_append, hX, List.drop_of_length_le (by omega), show i * s + s + l.length * s - (i * s + s) = l.length * s by omega, List.drop_drop]
      simp
theorem flat_get {s : Nat} : ∀ (vs : List Value) (i : Nat) (v : Value) (j : Nat) (u : Value), (∀ x ∈ vs, x.cells.size = s) → vs[i]? = some v → v.cells[j]? = some u → (flat vs)[s * i + j]? = some u
  | [], i, v, j, u, _, h, _ => by simp at h
  | x :: vs, 0, v, j, u, hs, h, hj => by
    simp at h
    subst h
    rw [flat_cons, Nat.mul_zero, Nat.zero_add, List.getElem?_append_left (by rw [Array.length_toList]; exact (Array.getElem?_eq_some_iff.1 hj).1), Array.getElem?_toList]
    exact hj
  | x :: vs, i + 1, v, j, u, hs, h, hj => by
    have hx := hs x (by simp)
    rw [flat_cons, List.getElem?_append_right (by rw [Array.length_toList, hx, Nat.mul_succ]; omega), Array.length_toList, hx, show s * (i + 1) + j - s = s * i + j by rw [Nat.mul_succ]; omega]
    exact flat_get vs i v j u (fun y hy => hs y (by simp [hy])) (by simpa using h) hj
def litR (P : Program) (T : TypeId) (len : Nat) (ks : List Nat) (xs : List SV) : Res := match elemOf P T with
  | some (e, s) => match P.info? e with
    | some i => match i.zero with
      | some zv => if ks = List.range' 0 ks.length ∧ ks.length = len ∧ xs.length = len ∧ 0 < len ∧ 0 < s ∧ len * s ≤ 16777216 ∧ zv.cells.size = s ∧ xs.all (fun a => a.solid && a.sz == s && a.kind.isSome) = true then vl (.sl s (litE xs) len) [] else bad
      | none => bad
    | none => bad
  | none => bad
theorem snd_lit {T : TypeId} {len : Nat} {ps : Array (Nat × Operand)} {xs : List SV} (H : Hp M F w0 own η w) (h : o.op = .buildSlice T len ps) (hx : ∀ (i : Nat) (p : Nat × Operand) (a : SV), ps.toList[i]? = some p → xs[i]? = some a → a.R η (Av F own η) w (ρ p.2)) {r : Res} (hr : litR P T len (ps.toList.map (·.1)) xs = r) (hs : conj r.side) : Snd P o ρ M F w0 own η w r := by
  unfold litR at hr
  split at hr
  · rename_i e s hT
    obtain ⟨hu, i0, hi0, hz0⟩ := elemOf_ok hT
    split at hr
    · rename_i i hi1
      rw [hi0] at hi1
      obtain rfl := Option.some.inj hi1
      split at hr
      · rename_i zv hzv
        split at hr
        · rename_i hc
          subst hr
          obtain ⟨c1, c2, c3, c4, c5, c6, c7, c8⟩ := hc
          rw [List.length_map] at c1 c2
          have hval : ∀ i, i < len → ∃ p a, ps.toList[i]? = some p ∧ xs[i]? = some a ∧ a.R η (Av F own η) w (ρ p.2) ∧ ∃ k, Shp k s (ρ p.2) := fun i hi => by
            have h1 : ps.toList[i]? = some ps.toList[i] := List.getElem?_eq_getElem (by omega)
            have h2 : xs[i]? = some xs[i] := List.getElem?_eq_getElem (by omega)
            have hR := hx i _ _ h1 h2
            have := List.all_eq_true.1 c8 xs[i] (List.getElem_mem _)
            simp only [Bool.and_eq_true, beq_iff_eq] at this
            obtain ⟨k, hk⟩ := Option.isSome_iff_exists.1 this.2
            exact ⟨_, _, h1, h2, hR, k, this.1.2 ▸ (SV.shape _ _ this.1.1 hR).1 k hk⟩
          let l : List (Nat × Value) := ps.toList.map fun p => (p.1, ρ p.2)
          have hsz : ∀ q ∈ l, q.2.cells.size = s := fun q hq => by
            obtain ⟨p, hp, rfl⟩ := List.mem_map.1 hq
            obtain ⟨i, hi, rfl⟩ := List.getElem_of_mem hp
            obtain ⟨p', a, h1, h2, h3, k, h4⟩ := hval i (by omega)
            rw [List.getElem?_eq_getElem hi] at h1
            obtain rfl := Option.some.inj h1
            exact h4.1
          have hll : l.length = len := by simp only [l, List.length_map]; omega
          obtain ⟨cs', f1, f2⟩ := fill_seq (s := s) l 0 ((Array.range (len * s)).map (zv.cells[· % zv.cells.size]!)) (by simp only [l, List.map_map]; rw [List.length_map, ← c1]; rfl) hsz (by rw [hll]; simp)
          have hpos : ¬ len * s = 0 := by
            have := Nat.mul_pos c4 c5
            omega
          have hrun := run_buildSlice (P := P) w T e len (ps.map fun (i, x) => (i, ρ x)) cs' i0 zv hu hi0 hzv (by rw [hz0]; simp; omega) (by rw [hz0]; exact hpos) (by
            have e1 : (ps.map fun (i, x) => (i, ρ x)).toList = l := by simp [l]
            rw [e1, hz0]; exact f1)
          have hexec : (execOp ρ o).run P w = .ok (.value (.slice (some ⟨w.heap.size, 0, none⟩) len len)) (w.alloc (.cells cs' e)) := by
            unfold execOp
            rw [h]
            simp only [Sem.run_bind, hrun, Result.andThen_ok]
            rfl
          have hg : Grow w (w.alloc (.cells cs' e)) := (Grow.refl w).alloc _
          obtain ⟨H', K⟩ := H.grow hg
          unfold Snd Yld
          rw [hexec]
          refine ⟨η, H', K, _, len, rfl, (fun e => by cases e), Nat.le_refl _, ?_, fun i hi => ⟨w.heap.size, 0, rfl, fun ha => absurd (H.av_lt ha) (Nat.lt_irrefl _), by simp, ?_⟩⟩
          · have h1 : len * 1 ≤ len * s := Nat.mul_le_mul_left len c5
            unfold maxLen; omega
          · obtain ⟨p, a, h1, h2, h3, k, h4⟩ := hval i hi
            refine ⟨ρ p.2, ⟨h4.1, h4.2.1⟩, by rw [litE_get h2]; exact SV.keep K _ _ h3, fun j u hj => ?_⟩
            rw [(Blk.new w e cs').cell, ← Array.getElem?_toList, f2]
            have := flat_get (s := s) (l.map (·.2)) i (ρ p.2) j u (fun x hx => by
              obtain ⟨q, hq, rfl⟩ := List.mem_map.1 hx
              exact hsz q hq) (by simp [l, h1]) hj
            rw [Nat.zero_mul, List.take_zero, List.nil_append, Nat.zero_add, Nat.zero_add, List.getElem?_append_left (List.getElem?_eq_some_iff.1 this).1]
            exact this
        · subst hr; exact hs.elim
      · subst hr; exact hs.elim
    · subst hr; exact hs.elim
  · subst hr; exact hs.elim
/-! copies -/
def copyR (P : Program) (T T' : TypeId) (a b : SV) (own : Nat → Hl) (h : Hint) : Res := match elemOf P T, elemOf P T', hintE h, a with
  | some (_, s), some _, some E', .own k i => match srcOf s b own, (own k).gs i with
    | some (E2, m, ks, sds), (some (.row e' s' E n), sd) => if s = s' then (match putH (own k) i (.row e' s' E' n) h with
      | some (c2, sd2) => ⟨.ex (.int .i64 ((m : Nat) : Int)), [m ≤ n, ∀ j, j < n → m ≤ j → E' j = E j, ∀ j, j < m → conj (SV.le (E2 j) (E' j))] ++ (sds ++ (sd ++ sd2)), [(k, c2)], k :: ks⟩
      | none => bad) else bad
    | _, _ => bad
  | _, _, _, _ => bad
theorem snd_copy {T T' : TypeId} {hi : Hint} {own' : Nat → Hl} (H : Hp M F w0 own η w) (h : o.op = .call { callee := .builtin .copy, args := #[x, y], argTypes := #[T, T'] }) (hx : a.R η (Av F own η) w (ρ x)) (hy : b.R η (Av F own η) w (ρ y)) {r : Res} (hr : copyR P T T' a b own' hi = r) (ho : ∀ k ∈ r.rd, own k = own' k) (hs : conj r.side) : Snd P o ρ M F w0 own η w r := by
  have exec : ∀ v w', (Builtin.copy_ #[T, T'] o.type #[ρ x, ρ y]).run P w = .ok v w' → (execOp ρ o).run P w = .ok (.value v) w' := fun v w' e => by unfold execOp; rw [h]; simp [resolve, invoke, builtin, e]
  unfold copyR at hr
  split at hr
  · rename_i e s es2 E' k i hT hT' _
    obtain ⟨hu, i0, hi0, hz0⟩ := elemOf_ok hT
    obtain ⟨hu2, _⟩ := elemOf_ok hT'
    split at hr
    · rename_i E2 m ks sds e' s' E n sd hsrc hob
      split at hr
      · rename_i hes
        subst hes
        split at hr
        rotate_left
        · subst hr; exact hs.elim
        rename_i c2 sd2 hput
        subst hr
        obtain ⟨hs, hsds⟩ := conj_append hs
        obtain ⟨hsds, hsd⟩ := conj_append hsds
        obtain ⟨hsd, hsd2⟩ := conj_append hsd
        obtain ⟨hm, hE1, hE2⟩ := hs
        have hkk : own k = own' k := ho k (by simp)
        obtain ⟨news, hS, hel⟩ := src_ok H hsrc hsds (fun k' hk' => ho k' (List.mem_cons_of_mem _ hk')) hy hu2
        rw [← hkk] at hob hput
        have hob := gs_conj hob hsd
        obtain ⟨hd, he, hok⟩ := H.ob k i _ hob
        have hx1 := hx.1
        obtain ⟨A0, c, rfl, h1, h2, hT0, h3⟩ := hok
        rw [hx1] at he
        have ex := Option.some.inj he
        have he' : η k i = some (.slice A0 n c) := by rw [hx1]; exact he
        have hnl := hS.newsLen
        have hmin : Nat.min m n = m := Nat.min_eq_left hm
        have hlen := hS.len w
        have hcel := hS.cells
        rcases h3 with ⟨rfl, rfl, rfl⟩ | ⟨g, cs, rfl, hB, hcs, hel0⟩
        · obtain rfl : m = 0 := by omega
          have hrun : (Builtin.copy_ #[T, T'] o.type #[.slice none 0 0, ρ y]).run P w = .ok (goInt 0) w := by
            simp [Builtin.copy_, run_underlying hu, hlen, sizeOf, typeInfo, hi0, hz0, hcel]
          have e1 := exec _ _ (by rw [ex]; exact hrun)
          obtain ⟨p1, p2⟩ := H.change (putH_ok hput hsd2) (w' := w) hob he' rfl (fun _ _ => rfl) rfl rfl rfl (fun _ => ⟨none, 0, rfl, Nat.le_refl _, Nat.zero_le _, hT0, .inl ⟨rfl, rfl, rfl⟩⟩)
          unfold Snd Yld
          rw [e1]
          exact ⟨η, p1, p2, rfl⟩
        · have hmc : m * s ≤ s * c := by
            have := Nat.mul_le_mul_left s (show m ≤ c by omega)
            rw [Nat.mul_comm m s]; exact this
          have hst := run_storeCells_cells (P := P) g 0 news 0 w (fun j hj => by rw [hB.cell, Array.getElem?_eq_getElem (by omega)]; rfl) (fun j hj => hB.frozen _) hS.one
          have hrun : (Builtin.copy_ #[T, T'] o.type #[.slice (some ⟨g, 0, none⟩) n c, ρ y]).run P w = .ok (goInt m) (w.setCells g 0 news) := by
            simp only [Nat.add_zero] at hst
            simp [Builtin.copy_, run_underlying hu, hlen, sizeOf, typeInfo, hi0, hz0, hcel, hmin, hst]
          obtain ⟨cs', hb', hcs'⟩ := blk_setCells2 news 0 hB (by omega)
          refine snd_change (v := goInt m) H (exec _ _ (by rw [ex]; exact hrun)) (.inr rfl) (fun _ _ => rfl) hob he' rfl (putH_ok hput hsd2) (put_setCells hB) fun K => ⟨_, c, rfl, h1, h2, hT0, .inr ⟨g, cs', rfl, hb', ?_, fun t ht => ?_⟩⟩
          · have := congrArg List.length hcs'
            simp only [List.length_append, List.length_take, List.length_drop, Array.length_toList] at this
            omega
          · have hget : ∀ z, cs'[z]? = if z < news.length then news[z]? else cs[z]? := fun z => by
              have := splice_get (l := cs.toList) (m := news) (a := 0) (i := z) (by rw [Array.length_toList (xs := cs)]; omega)
              rw [← Array.getElem?_toList, hcs', this]
              simp
            rcases Nat.lt_or_ge t m with htm | htm
            · obtain ⟨e0, q1, q2, q3⟩ := hel t htm
              refine ⟨e0, q1, SV.keep K _ _ (SV.le_ok _ _ _ (hE2 t htm) q2), fun z u hz => ?_⟩
              have := q3 z u hz
              rw [hb'.cell, hget, if_pos (List.getElem?_eq_some_iff.1 this).1]
              exact this
            · obtain ⟨e0, q1, q2, q3⟩ := hel0 t ht
              refine ⟨e0, q1, by rw [hE1 t ht htm]; exact SV.keep K _ _ q2, fun z u hz => ?_⟩
              have := q3 z u hz
              rw [hB.cell] at this
              have h4 := Nat.mul_le_mul_left s htm
              rw [Nat.mul_comm s m] at h4
              rw [hb'.cell, hget, if_neg (by omega)]
              exact this
      · subst hr; exact hs.elim
    · subst hr; exact hs.elim
  · subst hr; exact hs.elim
end
end Go.Proofs.Ytngghjhmfpmilaa
/- Operations by terms: structs that are built, parts of slices, calls. -/
namespace Go.Proofs.Ytngghjhmfpmilaa
open Go.RowKit
section
variable {P : Program} {o : Oper} {ρ : Operand → Value} {M F : Nat → Prop} {w0 w w' : World} {own : Nat → Hl} {η : Eta} {x y : Operand} {a b : SV}
/-! structs -/
def bldL (P : Program) (fs : Array Field) (a : SV) : List (Nat × SV) → Option SV
  | [] => some a
  | (i, b) :: r => match fs[i]? with
    | none => none
    | some f => match tyNK P f.type with
      | none => none
      | some (n, kk) => if b.solid = true ∧ b.sz = n ∧ b.kind = some kk then (match SV.upd n kk b a f.offset with
        | some a' => bldL P fs a' r
        | none => none) else none
def buildR (P : Program) (T : TypeId) (ps : List (Nat × SV)) : Res := match P.underlying T, P.info? T with
  | some (.struct fs), some i => match i.zero with
    | some (.agg cs) => if cs.all (·.oneCell') = true ∧ fs.toList.all (fun f => (P.info? f.type).isSome) = true then (match bldL P fs (.ex (.agg cs)) ps with
      | some a => vl a []
      | none => bad) else bad
    | _ => bad
  | _, _ => bad
theorem mapM_get {α β : Type} {g : α → Option β} : ∀ (l : List α) (r : List β), l.mapM g = some r → ∀ (i : Nat) (a : α), l[i]? = some a → ∃ b, g a = some b ∧ r[i]? = some b
  | [], r, h, i, a, ha => by simp at ha
  | x :: l, r, h, i, a, ha => by
    rw [List.mapM_cons] at h
    cases hx : g x with
    | none => rw [hx] at h; cases h
    | some y =>
      cases hl : l.mapM g with
      | none => rw [hx, hl] at h; cases h
      | some r' =>
        rw [hx, hl] at h
        obtain rfl := Option.some.inj h
        cases i with
        | zero => simp at ha; subst ha; exact ⟨y, hx, rfl⟩
        | succ i => exact mapM_get l r' hl i a (by simpa using ha)
theorem mapM_some {α β : Type} {g : α → Option β} : ∀ (l : List α), (∀ a ∈ l, (g a).isSome = true) → ∃ r, l.mapM g = some r
  | [], _ => ⟨[], rfl⟩
  | x :: l, h => by
    obtain ⟨y, hy⟩ := Option.isSome_iff_exists.1 (h x (by simp))
    obtain ⟨r, hr⟩ := mapM_some l fun a ha => h a (by simp [ha])
    exact ⟨y :: r, by rw [List.mapM_cons, hy, hr]; rfl⟩
theorem bldL_ok {A : Nat → Prop} {fs : Array Field} {places : List (Nat × Nat)} (hp : fs.toList.mapM (fun f => (P.info? f.type).map fun i => (f.offset, i.size)) = some places) : ∀ (ps : List (Nat × SV)) (vs : List (Nat × Value)) (a c : SV) (cells : Array Value), ps.map (·.1) = vs.map (·.1) → (∀ (i : Nat) (p : Nat × SV) (q : Nat × Value), ps[i]? = some p → vs[i]? = some q → p.2.R η A w q.2) → a.solid = true → a.kind = some true → a.R η A w (.agg cells) → bldL P fs a ps = some c →
    ∃ cells', Instr.fill (places.toArray[·]?) cells vs = some cells' ∧ c.R η A w (.agg cells')
  | [], vs, a, c, cells, hk, _, _, _, hR, h => by
    cases vs with
    | cons => simp at hk
    | nil =>
      obtain rfl := Option.some.inj h
      exact ⟨cells, rfl, hR⟩
  | (i, b) :: ps, vs, a, c, cells, hk, hv, h1, h2, hR, h => by
    cases vs with
    | nil => simp at hk
    | cons q vs =>
      obtain ⟨i', v⟩ := q
      simp only [List.map_cons, List.cons.injEq] at hk
      obtain ⟨rfl, hk⟩ := hk
      unfold bldL at h
      split at h
      · cases h
      · rename_i f hf
        split at h
        · cases h
        · rename_i n kk hT
          split at h
          · rename_i hb
            obtain ⟨b1, b2, b3⟩ := hb
            split at h
            · rename_i a' hu
              have hbv := hv 0 _ _ rfl rfl
              obtain ⟨v', p1, p2, p3, p4, p5, p6⟩ := upd_ok b1 b3 b2 hbv h1 h2 hR hu
              have hsv' := (SV.shape a' v' p2 p1).1 true p3
              obtain ⟨cs', rfl⟩ := hsv'.2.2.1 rfl
              have hsb := b2 ▸ (SV.shape b v b1 hbv).1 kk b3
              obtain ⟨d, inf, _, hi, hz, _⟩ := tyNK_spec hT
              obtain ⟨pl, e1, e2⟩ := mapM_get _ _ hp i f (by rw [Array.getElem?_toList]; exact hf)
              rw [hi] at e1
              obtain rfl := Option.some.inj e1
              obtain ⟨cells', g1, g2⟩ := bldL_ok hp ps vs a' c cs' hk (fun j p q hp hq => hv (j + 1) p q (by simpa using hp) (by simpa using hq)) p2 p3 p1 h
              refine ⟨cells', ?_, g2⟩
              have hfit : f.offset + v.cells.size ≤ cells.size := by
                have h1 := hsb.1
                have : (Value.agg cells).cells.toList.length = cells.size := by simp [Value.cells]
                rw [this] at p6
                omega
              have hsz : v.cells.size = inf.size := by rw [hsb.1, hz]
              unfold Instr.fill
              simp only [List.getElem?_toArray, e2]
              rw [if_neg (by simp [hsz]; rw [← hsz]; omega)]
              have hff := fill_fold hfit
              have : v.cells.zipIdx.foldl (fun cs (c, j) => cs.setIfInBounds (f.offset + j) c) cells = cs' := by
                rw [← Array.toList_inj, hff, hsb.1]
                exact p5.symm
              rw [this]
              simpa only [List.getElem?_toArray] using g1
            · cases h
          · cases h
theorem snd_build {T : TypeId} {ps : Array (Nat × Operand)} {xs : List (Nat × SV)} (H : Hp M F w0 own η w) (h : o.op = .build T ps) (hk : xs.map (·.1) = ps.toList.map (·.1)) (hx : ∀ (i : Nat) (p : Nat × Operand) (q : Nat × SV), ps.toList[i]? = some p → xs[i]? = some q → q.2.R η (Av F own η) w (ρ p.2)) {r : Res} (hr : buildR P T xs = r) (hs : conj r.side) : Snd P o ρ M F w0 own η w r := by
  unfold buildR at hr
  split at hr
  · rename_i fs i hu hi
    split at hr
    · rename_i cs hz
      split at hr
      · rename_i hc
        split at hr
        · rename_i a ha
          subst hr
          obtain ⟨places, hp⟩ := mapM_some (g := fun f => (P.info? f.type).map fun i => (f.offset, i.size)) fs.toList fun f hf => by
            have := List.all_eq_true.1 hc.2 f hf
            obtain ⟨i, e⟩ := Option.isSome_iff_exists.1 this
            simp [e]
          obtain ⟨cells', g1, g2⟩ := bldL_ok (η := η) (A := Av F own η) (w := w) hp xs (ps.toList.map fun p => (p.1, ρ p.2)) (.ex (.agg cs)) a cs (by rw [hk]; simp) (fun i p q hp hq => by
            rw [List.getElem?_map] at hq
            obtain ⟨p', hp', rfl⟩ := Option.map_eq_some_iff.1 hq
            exact hx i p' p hp' hp) hc.1 rfl rfl ha
          have hb : P.built T (ps.toList.map fun p => (p.1, ρ p.2)) = some cells' := by
            unfold Program.built
            rw [hi, hu]
            simp only [hz, hp]
            exact g1
          refine snd_val H (v := .agg cells') ?_ g2
          unfold execOp
          rw [h]
          have := run_build (P := P) w T (ps.map fun (i, x) => (i, ρ x)) cells' (by rw [← hb]; congr 1; simp)
          simp only [Sem.run_bind, this]; rfl
        · subst hr; exact hs.elim
      · subst hr; exact hs.elim
    · subst hr; exact hs.elim
  · subst hr; exact hs.elim
/-! parts of slices -/
def sliR (P : Program) (T : TypeId) (a : SV) (lo hi : Option SV) (h : Hint) : Res := match elemOf P T, a, h with
  | some (_, s), .sl s' E n, .kk l r => if s = s' then
      match lo, hi with
      | none, some (.ex (.int .i64 z)) => vl (.sl s E r) [z = ((r : Nat) : Int), r ≤ n]
      | some (.ex (.int .i64 y)), none => vl (.sl s (fun i => E (l + i)) (n - l)) [y = ((l : Nat) : Int), l ≤ n]
      | some (.ex (.int .i64 y)), some (.ex (.int .i64 z)) => vl (.sl s (fun i => E (l + i)) (r - l)) [y = ((l : Nat) : Int), z = ((r : Nat) : Int), l ≤ r, r ≤ n]
      | _, _ => bad
    else bad
  | _, _, _ => bad
theorem elem_eq {T e : TypeId} (h : P.underlying T = some (.slice e)) : P.elem T = e := by
  unfold Program.elem
  rw [h]
theorem part_sl {A : Nat → Prop} {A0 : Option Addr} {s n c l r : Nat} {E : Nat → SV} (h1 : Nilled A0 n c) (h2 : n ≤ c) (h3 : c ≤ maxLen) (k : ∀ i, i < n → ∃ g o, A0 = some ⟨g, o, none⟩ ∧ ¬ A g ∧ g < w.heap.size ∧ ∃ e : Value, (e.cells.size = s ∧ One e) ∧ (E i).R η A w e ∧ ∀ j u, e.cells[j]? = some u → w.cell? ⟨g, (o + s * i) + j, none⟩ = some u) (hl : l ≤ r) (hr : r ≤ n) :
    (SV.sl s (fun i => E (l + i)) (r - l)).R η A w (sliced A0 l r c s) := by
  refine ⟨_, c - l, rfl, fun e => ?_, by omega, by omega, fun i hi => ?_⟩
  · split at e
    · omega
    · cases A0 with
      | none => have := h1 rfl; omega
      | some a => cases e
  · obtain ⟨g, o, ea, q1, q2, e0, q3, q4, q5⟩ := k (l + i) (by omega)
    refine ⟨g, o + s * l, ?_, q1, q2, e0, q3, q4, fun j u hj => ?_⟩
    · rw [if_neg (by omega), ea]
      simp [add_plain, Nat.mul_comm]
    · have := q5 j u hj
      rw [Nat.mul_add, ← Nat.add_assoc] at this
      exact this
theorem snd_sli {T : TypeId} {xl xh : Option Operand} {lo hi : Option SV} {hh : Hint} (H : Hp M F w0 own η w) (h : o.op = .slice T x xl xh none) (hx : a.R η (Av F own η) w (ρ x)) (hl : ∀ p, xl = some p → ∃ c, lo = some c ∧ c.R η (Av F own η) w (ρ p)) (hln : xl = none → lo = none) (hhi : ∀ p, xh = some p → ∃ c, hi = some c ∧ c.R η (Av F own η) w (ρ p)) (hhn : xh = none → hi = none) {r : Res} (hr : sliR P T a lo hi hh = r) (hs : conj r.side) : Snd P o ρ M F w0 own η w r := by
  unfold sliR at hr
  split at hr
  · rename_i e s s' E n l r' hT
    obtain ⟨hu, i0, hi0, hz0⟩ := elemOf_ok hT
    have hel := elem_eq hu
    have hu' : P.underlying T = some (.slice (P.elem T)) := by rw [hel]; exact hu
    have hsz : (sizeOf (P.elem T)).run P w = .ok s w := by rw [hel]; simp [sizeOf, typeInfo, hi0, hz0]
    split at hr
    · rename_i hes
      subst hes
      obtain ⟨A0, c, ev, h1, h2, h3, k⟩ := hx
      split at hr
      · rename_i z
        subst hr
        obtain ⟨rfl, hrn⟩ := hs
        cases xl with
        | some p => obtain ⟨c, e, _⟩ := hl p rfl; cases e
        | none =>
          cases xh with
          | none => cases hhn rfl
          | some p =>
            obtain ⟨c', e, hR⟩ := hhi p rfl
            obtain rfl := Option.some.inj e
            have hp : ρ p = .int .i64 ((r' : Nat) : Int) := hR
            have hrn' : r' ≤ n := hrn
            refine snd_val H (v := sliced A0 0 r' c s) ?_ ?_
            · unfold execOp
              rw [h]
              simp only [ev, hp, Option.map_some, Option.map_none, Sem.run_bind, run_sliceAt_slice w _ _ _ _ _ hu']
              rw [run_slice_h w _ _ _ _ hu' _ _ (by omega) (by omega), hsz]
              simp
            · have := part_sl (l := 0) (r := r') h1 h2 h3 k (Nat.zero_le _) hrn'
              simpa using this
      · rename_i yy
        subst hr
        obtain ⟨rfl, hln'⟩ := hs
        have hln' : l ≤ n := hln'
        cases xh with
        | some p => obtain ⟨c, e, _⟩ := hhi p rfl; cases e
        | none =>
          cases xl with
          | none => cases hln rfl
          | some p =>
            obtain ⟨c', e, hR⟩ := hl p rfl
            obtain rfl := Option.some.inj e
            have hp : ρ p = .int .i64 ((l : Nat) : Int) := hR
            refine snd_val H (v := sliced A0 l n c s) ?_ (part_sl h1 h2 h3 k hln' (Nat.le_refl _))
            unfold execOp
            rw [h]
            simp only [ev, hp, Option.map_some, Option.map_none, Sem.run_bind, run_sliceAt_slice w _ _ _ _ _ hu']
            rw [run_slice_l w _ _ _ _ hu' _ _ (by omega) (by omega), hsz]
            simp
      · rename_i yy z
        subst hr
        obtain ⟨rfl, rfl, hlr, hrn⟩ := hs
        have hrn : r' ≤ n := hrn
        cases xh with
        | none => cases hhn rfl
        | some p2 =>
          cases xl with
          | none => cases hln rfl
          | some p =>
            obtain ⟨c', e, hR⟩ := hl p rfl
            obtain rfl := Option.some.inj e
            obtain ⟨c2, e, hR2⟩ := hhi p2 rfl
            obtain rfl := Option.some.inj e
            have hp : ρ p = .int .i64 ((l : Nat) : Int) := hR
            have hp2 : ρ p2 = .int .i64 ((r' : Nat) : Int) := hR2
            refine snd_val H (v := sliced A0 l r' c s) ?_ (part_sl h1 h2 h3 k hlr hrn)
            unfold execOp
            rw [h]
            simp only [ev, hp, hp2, Option.map_some, Option.map_none, Sem.run_bind, run_sliceAt_slice w _ _ _ _ _ hu']
            rw [run_slice_lh w _ _ _ _ hu' _ _ _ _ (by omega) (by omega) (by omega), hsz]
            simp
      · subst hr; exact hs.elim
    · subst hr; exact hs.elim
  · subst hr; exact hs.elim
end
end Go.Proofs.Ytngghjhmfpmilaa
/- Calls by terms; all operations; regions. -/
namespace Go.Proofs.Ytngghjhmfpmilaa
open Go.RowKit
/-- no row in it -/
def SV.nr : SV → List Prop
  | .sl .. | .ep _ => [False]
  | .cn a b => a.nr ++ b.nr
  | .agg l => l.nr
  | .opt _ a => a.nr
  | _ => []
def OB.nr : OB → List Prop
  | .var _ a => a.nr
  | .row _ _ E n => [∀ i, i < n → conj (E i).nr]
def Hl.nr : Hl → List Prop
  | .one o => o.nr
  | .fam n f => [∀ i, i < n → conj (f i).nr]
  | .hole .. => [False]
  | _ => []
def ownsOf (nx : Nat) (l : List Hl) : Nat → Hl := fun k => if nx ≤ k then l.getD (k - nx) .unborn else .unborn
def newsL : Nat → List Hl → List (Nat × Hl)
  | _, [] => []
  | nx, c :: l => (nx, c) :: newsL (nx + 1) l
theorem newsL_up : ∀ (l : List Hl) (nx : Nat) (own : Nat → Hl) (k : Nat), upOwns own (newsL nx l) k = if nx ≤ k ∧ k < nx + l.length then l.getD (k - nx) .unborn else own k
  | [], nx, own, k => by
    rw [if_neg (by simp only [List.length_nil]; omega)]; rfl
  | c :: l, nx, own, k => by
    show upOwns (upOwn own nx c) (newsL (nx + 1) l) k = _
    rw [newsL_up l (nx + 1)]
    by_cases h : nx + 1 ≤ k ∧ k < nx + 1 + l.length
    · rw [if_pos h, if_pos (by simp only [List.length_cons]; omega), show k - nx = (k - (nx + 1)) + 1 by omega]; rfl
    · rw [if_neg h]
      unfold upOwn
      by_cases e : k = nx
      · subst e
        rw [if_pos rfl, if_pos (by simp only [List.length_cons]; omega), Nat.sub_self]; rfl
      · rw [if_neg e, if_neg (by simp only [List.length_cons]; omega)]
def ArgsR : List SV → Eta → (Nat → Prop) → World → List Value → Prop
  | [], _, _, _, [] => True
  | a :: l, η, F, w, v :: vs => a.R η F w v ∧ ArgsR l η F w vs
  | _, _, _, _, _ => False
/-- f, called with what is in A, yields what is in R, and new memory -/
structure CallOK (P : Program) (f : FuncId) (A : List SV) (R : SV) (news : List Hl) : Prop where
  cal : Callable P f
  run : ∀ (η0 : Eta) (F : Nat → Prop) (w : World) (vals : List Value), (∀ b, F b → b < w.heap.size) → ArgsR A η0 F w vals →
    Calls P f vals.toArray w fun e w' => ∃ v η', e = .returned v ∧ Hp (fun _ => False) F w (ownsOf 0 news) η' w' ∧ R.R η' (Av F (ownsOf 0 news) η') w' v
/-- the same, the own blocks under other numbers -/
def SV.shift (d : Nat) : SV → SV
  | .own k i => .own (d + k) i
  | .ref k i s j off => .ref (d + k) i s j off
  | .sl s E n => .sl s (fun i => (E i).shift d) n
  | .ep a => .ep (a.shift d)
  | .cn a b => .cn (a.shift d) (b.shift d)
  | .agg l => .agg (l.shift d)
  | .opt c a => .opt c (a.shift d)
  | a => a
def OB.shift (d : Nat) : OB → OB
  | .var T a => .var T (a.shift d)
  | .row T s E n => .row T s (fun i => (E i).shift d) n
def Hl.shift (d : Nat) : Hl → Hl
  | .one o => .one (o.shift d)
  | .fam n f => .fam n fun i => (f i).shift d
  | .hole n f m => .hole n (fun i => (f i).shift d) m
  | c => c
def shEta (d : Nat) (η : Eta) : Eta := fun k i => if d ≤ k then η (k - d) i else none
def shOwn (d : Nat) (own : Nat → Hl) : Nat → Hl := fun k => if d ≤ k then (own (k - d)).shift d else .unborn
section
variable {η : Eta} {A : Nat → Prop} {M F : Nat → Prop} {w0 w : World} {own : Nat → Hl}
theorem sh_eta (d k i : Nat) : shEta d η (d + k) i = η k i := by unfold shEta; rw [if_pos (by omega), show d + k - d = k by omega]
theorem SV.shift_ok (d : Nat) : ∀ (a : SV) (v : Value), a.R η A w v → (a.shift d).R (shEta d η) A w v := by
  intro a
  induction a with
  | own k i => intro v h; exact ⟨by rw [sh_eta]; exact h.1, h.2⟩
  | ref k i s j off =>
    rintro v ⟨hd, b, h1, h2, h3⟩
    exact ⟨hd, b, by rw [sh_eta]; exact h1, h2, h3⟩
  | sl s E n ih =>
    rintro v ⟨A0, c, e, h1, h2, h3, k⟩
    refine ⟨A0, c, e, h1, h2, h3, fun i hi => ?_⟩
    obtain ⟨g, o, e1, e2, e3, e0, e4, e5, e6⟩ := k i hi
    exact ⟨g, o, e1, e2, e3, e0, e4, ih i _ e5, e6⟩
  | ep a ih =>
    rintro v ⟨g, o, e1, e2, e3, e0, e5, e6⟩
    exact ⟨g, o, e1, e2, e3, e0, ih _ e5, e6⟩
  | cn a b iha ihb =>
    rintro v ⟨x, xs, e, h1, h2⟩
    exact ⟨x, xs, e, iha _ h1, ihb _ h2⟩
  | agg l ih =>
    rintro v ⟨vs, e, h1⟩
    exact ⟨vs, e, ih _ h1⟩
  | opt c a ih =>
    rintro v ⟨h1, h2⟩
    exact ⟨fun hc => ih _ (h1 hc), h2⟩
  | _ => intro v h; exact h
theorem OB.shift_ok (d : Nat) {o : OB} {h : Value} (k : o.ok η A w h) : (o.shift d).ok (shEta d η) A w h := by
  cases o with
  | var T a =>
    obtain ⟨b, v, h1, h2, h3, h4⟩ := k
    exact ⟨b, v, h1, h2, SV.shift_ok d _ _ h3, h4⟩
  | row T s E n =>
    obtain ⟨A0, c, h1, h2, h3, h4, h5⟩ := k
    refine ⟨A0, c, h1, h2, h3, h4, h5.imp id fun ⟨g, cs, e1, e2, e3, e4⟩ => ⟨g, cs, e1, e2, e3, fun i hi => ?_⟩⟩
    obtain ⟨e0, q1, q2, q3⟩ := e4 i hi
    exact ⟨e0, q1, SV.shift_ok d _ _ q2, q3⟩
theorem shift_get {d : Nat} {c : Hl} {i : Nat} {o : OB} (h : (c.shift d).get i = some o) : ∃ o0, c.get i = some o0 ∧ o = o0.shift d := by
  cases c with
  | one ob =>
    cases i with
    | zero => exact ⟨ob, rfl, (Option.some.inj h).symm⟩
    | succ i => cases h
  | fam n f =>
    have h' : (if i < n then some ((f i).shift d) else none) = some o := by rw [← fam_get (f := fun i => (f i).shift d)]; exact h
    split at h'
    · rename_i hi
      exact ⟨f i, by rw [fam_get, if_pos hi], (Option.some.inj h').symm⟩
    · cases h'
  | hole n f m =>
    have h' : (if i < n ∧ i ≠ m then some ((f i).shift d) else none) = some o := by rw [← hole_get (f := fun i => (f i).shift d)]; exact h
    split at h'
    · rename_i hi
      exact ⟨f i, by rw [hole_get, if_pos hi], (Option.some.inj h').symm⟩
    · cases h'
  | unborn => cases i <;> cases h
  | dead => cases i <;> cases h
theorem shift_get2 {d : Nat} {c : Hl} {i : Nat} {o : OB} (h : c.get i = some o) : (c.shift d).get i = some (o.shift d) := by
  cases c with
  | one ob =>
    cases i with
    | zero => obtain rfl := Option.some.inj h; rfl
    | succ i => cases h
  | fam n f =>
    rw [fam_get] at h
    split at h
    · rename_i hi
      obtain rfl := Option.some.inj h
      show (Hl.fam n fun i => (f i).shift d).get i = _
      rw [fam_get, if_pos hi]
    · cases h
  | hole n f m =>
    rw [hole_get] at h
    split at h
    · rename_i hi
      obtain rfl := Option.some.inj h
      show (Hl.hole n (fun i => (f i).shift d) m).get i = _
      rw [hole_get, if_pos hi]
    · cases h
  | unborn => cases i <;> cases h
  | dead => cases i <;> cases h
theorem Hp.shift (d : Nat) (H : Hp M F w0 own η w) : Hp M F w0 (shOwn d own) (shEta d η) w ∧ Av F (shOwn d own) (shEta d η) = Av F own η := by
  have hg : ∀ k i o, (shOwn d own k).get i = some o → ∃ k0 o0, k = d + k0 ∧ (own k0).get i = some o0 ∧ o = o0.shift d := fun k i o h => by
    unfold shOwn at h
    split at h
    · rename_i hk
      obtain ⟨o0, h1, h2⟩ := shift_get h
      exact ⟨k - d, o0, by omega, h1, h2⟩
    · cases i <;> cases h
  have hg2 : ∀ k i o, (own k).get i = some o → (shOwn d own (d + k)).get i = some (o.shift d) := fun k i o h => by
    unfold shOwn
    rw [if_pos (by omega), show d + k - d = k by omega]
    exact shift_get2 h
  have hav : Av F (shOwn d own) (shEta d η) = Av F own η := funext fun b => propext ⟨fun h => h.imp id fun ⟨k, i, o, hd, h1, h2, h3⟩ => by
    obtain ⟨k0, o0, rfl, h4, _⟩ := hg k i o h1
    exact ⟨k0, i, o0, hd, h4, by rw [sh_eta] at h2; exact h2, h3⟩, fun h => h.imp id fun ⟨k, i, o, hd, h1, h2, h3⟩ => ⟨d + k, i, _, hd, hg2 k i o h1, by rw [sh_eta]; exact h2, h3⟩⟩
  refine ⟨⟨H.mod, fun k i o hk => ?_, fun k i o hd b hk h2 h3 => ?_, fun k i o k' i' o' hd hd' b a1 a2 e1 e2 b1 b2 => ?_, fun k hk i => ?_, H.fl⟩, hav⟩
  · obtain ⟨k0, o0, rfl, h4, rfl⟩ := hg k i o hk
    obtain ⟨hd, e, hok⟩ := H.ob k0 i o0 h4
    exact ⟨hd, by rw [sh_eta]; exact e, by rw [hav]; exact OB.shift_ok d hok⟩
  · obtain ⟨k0, o0, rfl, h4, rfl⟩ := hg k i o hk
    rw [sh_eta] at h2
    exact H.low k0 i o0 hd b h4 h2 h3
  · obtain ⟨k0, o0, rfl, h4, rfl⟩ := hg k i o a1
    obtain ⟨k1, o1, rfl, h5, rfl⟩ := hg k' i' o' a2
    rw [sh_eta] at e1 e2
    obtain ⟨rfl, rfl⟩ := H.apart k0 i o0 k1 i' o1 hd hd' b h4 h5 e1 e2 b1 b2
    exact ⟨rfl, rfl⟩
  · unfold shEta
    split
    · rename_i hd
      refine H.born _ ?_ i
      unfold shOwn at hk
      rw [if_pos hd] at hk
      cases hc : own (k - d) <;> rw [hc] at hk <;> first | rfl | cases hk
    · rfl
theorem shOwn_of (d : Nat) (l : List Hl) : shOwn d (ownsOf 0 l) = ownsOf d (l.map (·.shift d)) := funext fun k => by
  unfold shOwn ownsOf
  split
  · rw [if_pos (Nat.zero_le _), Nat.sub_zero, List.getD_eq_getElem?_getD, List.getD_eq_getElem?_getD, List.getElem?_map]
    cases l[k - d]? <;> rfl
  · rfl
end
section
variable {η η' : Eta} {A A' : Nat → Prop} {w w' : World} {v : Value}
theorem SV.nr_ok (he : ∀ k i v, η k i = some v → η' k i = some v) : ∀ (a : SV) (v : Value), conj a.nr → a.R η A w v → a.R η' A' w v := by
  intro a
  induction a with
  | sl s E n => intro _ h; exact h.elim
  | ep a => intro _ h; exact h.elim
  | own k i => intro v _ h; exact ⟨he _ _ _ h.1, h.2⟩
  | ref k i s j off =>
    rintro v _ ⟨hd, b, h1, h2, h3⟩
    exact ⟨hd, b, he _ _ _ h1, h2, h3⟩
  | cn a b iha ihb =>
    rintro v h ⟨x, xs, e, h1, h2⟩
    obtain ⟨n1, n2⟩ := conj_append h
    exact ⟨x, xs, e, iha _ n1 h1, ihb _ n2 h2⟩
  | agg l ih =>
    rintro v h ⟨vs, e, h1⟩
    exact ⟨vs, e, ih _ h h1⟩
  | opt c a ih =>
    rintro v h h1
    exact ⟨fun hc => ih _ h (h1.1 hc), h1.2⟩
  | any => intro _ _ _; trivial
  | _ => intro _ _ h; exact h
theorem OB.nr_ok (he : ∀ k i v, η k i = some v → η' k i = some v) {o : OB} {h : Value} (hn : conj o.nr) (k : o.ok η A w h) : o.ok η' A' w h := by
  cases o with
  | var T a =>
    obtain ⟨b, v, h1, h2, h3, h4⟩ := k
    exact ⟨b, v, h1, h2, SV.nr_ok he _ _ hn h3, h4⟩
  | row T s E n =>
    obtain ⟨A0, c, h1, h2, h3, h4, h5⟩ := k
    refine ⟨A0, c, h1, h2, h3, h4, h5.imp id fun ⟨g, cs, e1, e2, e3, e4⟩ => ⟨g, cs, e1, e2, e3, fun i hi => ?_⟩⟩
    obtain ⟨e0, q1, q2, q3⟩ := e4 i hi
    exact ⟨e0, q1, SV.nr_ok he _ _ (hn i hi) q2, q3⟩
end
section
variable {P : Program} {o : Oper} {ρ : Operand → Value} {M F F' : Nat → Prop} {w0 w w' : World} {own : Nat → Hl} {η η' : Eta} {x y : Operand} {a b : SV} {nx : Nat} {l : List Hl}
def upEtas (η η' : Eta) (nx n : Nat) : Eta := fun k => if nx ≤ k ∧ k < nx + n then η' k else η k
theorem Hp.merge (H : Hp M F w0 own η w) (C : Hp (fun _ => False) F' w (ownsOf nx l) η' w') (hu : ∀ k, nx ≤ k → k < nx + l.length → own k = .unborn)
    (hA : (∀ b, Av F own η b → F' b) ∨ ∀ c ∈ l, conj c.nr) :
    Hp M F w0 (upOwns own (newsL nx l)) (upEtas η η' nx l.length) w' ∧ Keep η (upEtas η η' nx l.length) (Av F own η) (Av F (upOwns own (newsL nx l)) (upEtas η η' nx l.length)) w w' ∧
    ∀ (a : SV) (v : Value), ((∀ b, Av F own η b → F' b) ∨ conj a.nr) → a.R η' (Av F' (ownsOf nx l) η') w' v → a.R (upEtas η η' nx l.length) (Av F (upOwns own (newsL nx l)) (upEtas η η' nx l.length)) w' v := by
  have hin : ∀ k, nx ≤ k ∧ k < nx + l.length → upOwns own (newsL nx l) k = ownsOf nx l k ∧ upEtas η η' nx l.length k = η' k := fun k hk => by
    rw [newsL_up, if_pos hk]
    unfold ownsOf upEtas
    rw [if_pos hk.1, if_pos hk]
    exact ⟨rfl, rfl⟩
  have hout : ∀ k, ¬ (nx ≤ k ∧ k < nx + l.length) → upOwns own (newsL nx l) k = own k ∧ upEtas η η' nx l.length k = η k ∧ ownsOf nx l k = .unborn := fun k hk => by
    rw [newsL_up, if_neg hk]
    unfold upEtas ownsOf
    rw [if_neg hk]
    refine ⟨rfl, rfl, ?_⟩
    split
    · rw [List.getD_eq_getElem?_getD, List.getElem?_eq_none (by omega)]; rfl
    · rfl
  have he1 : ∀ k i v, η k i = some v → upEtas η η' nx l.length k i = some v := fun k i v hv => by
    by_cases h : nx ≤ k ∧ k < nx + l.length
    · rw [H.born k (hu k h.1 h.2)] at hv; cases hv
    · rw [(hout k h).2.1]; exact hv
  have he2 : ∀ k i v, η' k i = some v → upEtas η η' nx l.length k i = some v := fun k i v hv => by
    by_cases h : nx ≤ k ∧ k < nx + l.length
    · rw [(hin k h).2]; exact hv
    · rw [C.born k (hout k h).2.2] at hv; cases hv
  have hold : ∀ k i o hd b, (own k).get i = some o → η k i = some hd → hb hd = some b → b < w.heap.size := fun k i o hd b h1 h2 h3 => by
    obtain ⟨hd', e, hk'⟩ := H.ob k i o h1
    rw [h2] at e
    obtain rfl := Option.some.inj e
    exact (OB.blk_lt hk' h3).1
  have hnew : ∀ k i o hd b, (ownsOf nx l k).get i = some o → η' k i = some hd → hb hd = some b → w.heap.size ≤ b := fun k i o hd b h1 h2 h3 => ((C.low k i o hd b h1 h2 h3).1).resolve_right id
  have hav : ∀ b, Av F (upOwns own (newsL nx l)) (upEtas η η' nx l.length) b → Av F own η b ∨ (w.heap.size ≤ b ∧ Av F' (ownsOf nx l) η' b) := fun b hx => by
    rcases hx with hx | ⟨k, i, o, hd, h1, h2, h3⟩
    · exact .inl (.inl hx)
    · by_cases h : nx ≤ k ∧ k < nx + l.length
      · rw [(hin k h).1] at h1
        rw [(hin k h).2] at h2
        exact .inr ⟨hnew k i o hd b h1 h2 h3, .inr ⟨k, i, o, hd, h1, h2, h3⟩⟩
      · rw [(hout k h).1] at h1
        rw [(hout k h).2.1] at h2
        exact .inl (.inr ⟨k, i, o, hd, h1, h2, h3⟩)
  have K : Keep η (upEtas η η' nx l.length) (Av F own η) (Av F (upOwns own (newsL nx l)) (upEtas η η' nx l.length)) w w' :=
    ⟨he1, C.mod.size, C.mod.u64, fun g hg _ => C.mod.low g hg id, fun g hg ha hx => (hav g hx).elim ha fun e => by omega⟩
  have K2 : (∀ b, Av F own η b → F' b) → Keep η' (upEtas η η' nx l.length) (Av F' (ownsOf nx l) η') (Av F (upOwns own (newsL nx l)) (upEtas η η' nx l.length)) w' w' := fun hf =>
    ⟨he2, Nat.le_refl _, fun _ _ => rfl, fun _ _ _ => rfl, fun g _ ha hx => ha ((hav g hx).elim (fun e => .inl (hf g e)) fun e => e.2)⟩
  refine ⟨⟨H.mod.trans ⟨C.mod.os, C.mod.tape, C.mod.output, C.mod.size, fun b hb _ => C.mod.low b hb id, C.mod.u64⟩, fun k i o hk => ?_, fun k i o hd b hk h2 h3 => ?_, fun k i o k' i' o' hd hd' b a1 a2 e1 e2 b1 b2 => ?_, fun k hk i => ?_, H.fl⟩, K, fun a v hn ha => ?_⟩
  · by_cases h : nx ≤ k ∧ k < nx + l.length
    · rw [(hin k h).1] at hk
      obtain ⟨hd, e, hok⟩ := C.ob k i o hk
      refine ⟨hd, by rw [(hin k h).2]; exact e, ?_⟩
      rcases hA with hA | hA
      · exact OB.keep hok (K2 hA) fun _ _ => rfl
      · refine OB.nr_ok he2 ?_ hok
        unfold ownsOf at hk
        rw [if_pos h.1, List.getD_eq_getElem?_getD, List.getElem?_eq_getElem (by omega), Option.getD_some] at hk
        have := hA _ (List.getElem_mem (l := l) (n := k - nx) (by omega))
        cases hc : l[k - nx] with
        | one ob =>
          rw [hc] at hk this
          cases i with
          | zero => obtain rfl := Option.some.inj hk; exact this
          | succ i => cases hk
        | fam n f =>
          rw [hc] at hk this
          rw [fam_get] at hk
          split at hk
          · rename_i hi
            obtain rfl := Option.some.inj hk
            exact this i hi
          · cases hk
        | hole n f m => rw [hc] at this; exact this.elim
        | unborn => rw [hc] at hk; cases i <;> cases hk
        | dead => rw [hc] at hk; cases i <;> cases hk
    · rw [(hout k h).1] at hk
      obtain ⟨hd, e, hok⟩ := H.ob k i o hk
      exact ⟨hd, by rw [(hout k h).2.1]; exact e, OB.keep hok K fun b hb => C.mod.low b (OB.blk_lt hok hb).1 id⟩
  · by_cases h : nx ≤ k ∧ k < nx + l.length
    · rw [(hin k h).1] at hk
      rw [(hin k h).2] at h2
      have := hnew k i o hd b hk h2 h3
      exact ⟨.inl (Nat.le_trans H.mod.size this), fun hF => by have := H.fl b hF; have := H.mod.size; omega⟩
    · rw [(hout k h).1] at hk
      rw [(hout k h).2.1] at h2
      exact H.low k i o hd b hk h2 h3
  · by_cases h : nx ≤ k ∧ k < nx + l.length
    · rw [(hin k h).1] at a1
      rw [(hin k h).2] at e1
      by_cases h' : nx ≤ k' ∧ k' < nx + l.length
      · rw [(hin k' h').1] at a2
        rw [(hin k' h').2] at e2
        exact C.apart k i o k' i' o' hd hd' b a1 a2 e1 e2 b1 b2
      · rw [(hout k' h').1] at a2
        rw [(hout k' h').2.1] at e2
        have := hnew k i o hd b a1 e1 b1
        have := hold k' i' o' hd' b a2 e2 b2
        omega
    · rw [(hout k h).1] at a1
      rw [(hout k h).2.1] at e1
      by_cases h' : nx ≤ k' ∧ k' < nx + l.length
      · rw [(hin k' h').1] at a2
        rw [(hin k' h').2] at e2
        have := hnew k' i' o' hd' b a2 e2 b2
        have := hold k i o hd b a1 e1 b1
        omega
      · rw [(hout k' h').1] at a2
        rw [(hout k' h').2.1] at e2
        exact H.apart k i o k' i' o' hd hd' b a1 a2 e1 e2 b1 b2
  · by_cases h : nx ≤ k ∧ k < nx + l.length
    · rw [(hin k h).1] at hk
      rw [(hin k h).2]
      exact C.born k hk i
    · rw [(hout k h).1] at hk
      rw [(hout k h).2.1]
      exact H.born k hk i
  · rcases hn with hn | hn
    · exact SV.keep (K2 hn) _ _ ha
    · exact SV.nr_ok he2 _ _ hn ha
/-- an argument, as the callee asks for it -/
def argLe (own : Nat → Hl) (x a : SV) : List Prop := match x with
  | .own k i => match (own k).gs i, a with
    | _, .any => []
    | (some (.row _ s E n), sd), .sl s' E' n' => if s = s' then [n = n', ∀ j, j < n → conj (SV.le (E j) (E' j))] ++ sd else [False]
    | (some (.var _ c), sd), .ep c' => SV.le c c' ++ sd
    | _, _ => [False]
  | x => SV.le x a
def argsLe (own : Nat → Hl) : List SV → List SV → List Prop
  | [], [] => []
  | x :: xs, a :: bs => argLe own x a ++ argsLe own xs bs
  | _, _ => [False]
def ownIds : List SV → List (Nat × Nat)
  | [] => []
  | .own k i :: l => (k, i) :: ownIds l
  | _ :: l => ownIds l
/-- what the callee is not given -/
def less (F : Nat → Prop) (own : Nat → Hl) (η : Eta) (ids : List (Nat × Nat)) : Nat → Prop := fun b => Av F own η b ∧ ∀ p ∈ ids, ∀ h, η p.1 p.2 = some h → hb h ≠ some b
theorem argLe_ok {ids : List (Nat × Nat)} {own' : Nat → Hl} {xx a : SV} {v : Value} (H : Hp M F w0 own η w) (hid : ∀ k i, xx = .own k i → (k, i) ∈ ids ∧ own k = own' k) (h : conj (argLe own' xx a)) (hv : xx.R η (Av F own η) w v) : a.R η (less F own η ids) w v := by
  have Kw : Keep η η (Av F own η) (less F own η ids) w w := Keep.weak fun g _ h hx => h hx.1
  have gen : conj (SV.le xx a) → a.R η (less F own η ids) w v := fun h => SV.keep Kw _ _ (SV.le_ok _ _ _ h hv)
  unfold argLe at h
  split at h
  · rename_i k i
    obtain ⟨hmem, hk⟩ := hid k i rfl
    rw [← hk] at h
    split at h
    · trivial
    · rename_i T s E n sd s' E' n' hob
      split at h
      · rename_i e
        subst e
        obtain ⟨h, hsd⟩ := conj_append h
        obtain ⟨rfl, hE⟩ := h
        have hob := gs_conj hob hsd
        obtain ⟨hd, he, hok⟩ := H.ob k i _ hob
        have hv1 := hv.1
        rw [hv1] at he
        obtain rfl := Option.some.inj he
        obtain ⟨A0, c, rfl, h1, h2, h3, h4⟩ := hok
        refine ⟨A0, c, rfl, fun e => ?_, h1, h2, fun j hj => ?_⟩
        · subst e
          rcases h4 with ⟨_, h5, h6⟩ | ⟨g, cs, e, _⟩
          · exact ⟨h5, h6⟩
          · cases e
        · rcases h4 with ⟨_, h5, h6⟩ | ⟨g, cs, rfl, hB, hcs, hel⟩
          · omega
          · obtain ⟨e0, q1, q2, q3⟩ := hel j hj
            exact ⟨g, 0, rfl, fun hx => hx.2 _ hmem _ hv1 rfl, hB.lt, e0, q1, SV.keep Kw _ _ (SV.le_ok _ _ _ (hE j hj) q2), fun z u hz => by rw [Nat.zero_add]; exact q3 z u hz⟩
      · exact h.elim
    · rename_i T c sd c' hob
      obtain ⟨h, hsd⟩ := conj_append h
      have hob := gs_conj hob hsd
      obtain ⟨hd, he, hok⟩ := H.ob k i _ hob
      have hv1 := hv.1
      rw [hv1] at he
      obtain rfl := Option.some.inj he
      obtain ⟨b, u, rfl, hB, hR, hT⟩ := hok
      exact ⟨b, 0, rfl, fun hx => hx.2 _ hmem _ hv1 rfl, hB.lt, u, SV.keep Kw _ _ (SV.le_ok _ _ _ h hR), fun z y hz => by rw [Nat.zero_add, hB.cell]; exact hz⟩
    · exact h.elim
  · exact gen h
theorem argsLe_ok {ids : List (Nat × Nat)} {own' : Nat → Hl} (H : Hp M F w0 own η w) : ∀ (xs bs : List SV) (vs : List Value), (∀ k i, SV.own k i ∈ xs → (k, i) ∈ ids ∧ own k = own' k) → conj (argsLe own' xs bs) → vs.length = xs.length → (∀ (i : Nat) (x : SV) (v : Value), xs[i]? = some x → vs[i]? = some v → x.R η (Av F own η) w v) → ArgsR bs η (less F own η ids) w vs
  | [], [], [], _, _, _, _ => trivial
  | x :: xs, a :: bs, v :: vs, hid, h, hl, hv => by
    obtain ⟨h1, h2⟩ := conj_append h
    exact ⟨argLe_ok H (fun k i e => hid k i (by rw [e]; simp)) h1 (hv 0 x v rfl rfl), argsLe_ok H xs bs vs (fun k i hm => hid k i (by simp [hm])) h2 (by simpa using hl) fun i x v hx hv' => hv (i + 1) x v (by simpa using hx) (by simpa using hv')⟩
  | [], _ :: _, _, _, h, _, _ => h.elim
  | _ :: _, [], _, _, h, _, _ => h.elim
  | [], [], _ :: _, _, _, hl, _ => by simp at hl
  | _ :: _, _ :: _, [], _, _, hl, _ => by simp at hl
theorem ownIds_mem : ∀ (xs : List SV) (k i : Nat), SV.own k i ∈ xs → (k, i) ∈ ownIds xs
  | x :: xs, k, i, h => by
    rcases List.mem_cons.1 h with h | h
    · subst h; exact List.mem_cons_self ..
    · have := ownIds_mem xs k i h
      cases x <;> first | exact this | exact List.mem_cons_of_mem _ this
def nrs : List Hl → List Prop
  | [] => []
  | c :: l => c.nr ++ nrs l
theorem nrs_ok : ∀ (l : List Hl), conj (nrs l) → ∀ c ∈ l, conj c.nr
  | c :: l, h, d, hd => by
    obtain ⟨h1, h2⟩ := conj_append h
    rcases List.mem_cons.1 hd with e | e
    · subst e; exact h1
    · exact nrs_ok l h2 d e
def callR (P : Program) (f : FuncId) (xs : List SV) (own : Nat → Hl) (nx : Nat) : Hint → Res
  | .call A R news => ⟨R.shift nx, [CallOK P f A R news] ++ (argsLe own xs A ++ (if (ownIds xs).isEmpty = true then [] else (R.shift nx).nr ++ nrs (news.map (·.shift nx)))), newsL nx (news.map (·.shift nx)), (ownIds xs).map (·.1)⟩
  | _ => bad
theorem snd_callF {f : FuncId} {ops : List Operand} {ts : Array TypeId} {xs : List SV} {own' : Nat → Hl} {hi : Hint} (H : Hp M F w0 own η w) (h : o.op = .call { callee := .value (.func f), args := ops.toArray, argTypes := ts }) (hρ : ρ (.func f) = .func (.func f) #[] #[]) (hl : xs.length = ops.length) (hx : ∀ (i : Nat) (p : Operand) (x : SV), ops[i]? = some p → xs[i]? = some x → x.R η (Av F own η) w (ρ p)) {r : Res} (hr : callR P f xs own' nx hi = r) (ho : ∀ k ∈ r.rd, own k = own' k) (hk : ∀ p ∈ r.new, nx ≤ p.1 → own p.1 = .unborn) (hs : conj r.side) : Snd P o ρ M F w0 own η w r := by
  unfold callR at hr
  split at hr
  · rename_i A R news
    subst hr
    obtain ⟨hc, hs⟩ := conj_append hs
    obtain ⟨hle, hn⟩ := conj_append hs
    have hargs := argsLe_ok (ids := ownIds xs) H xs A (ops.map ρ) (fun k i hm => ⟨ownIds_mem xs k i hm, ho k (by
      have := ownIds_mem xs k i hm
      exact List.mem_map.2 ⟨(k, i), this, rfl⟩)⟩) hle (by simp [hl]) fun i x v hxi hv => by
        rw [List.getElem?_map] at hv
        obtain ⟨p, hp, rfl⟩ := Option.map_eq_some_iff.1 hv
        exact hx i p x hp hxi
    have hnn : (∀ b, Av F own η b → less F own η (ownIds xs) b) ∨ (conj (R.shift nx).nr ∧ ∀ c ∈ news.map (·.shift nx), conj c.nr) := by
      split at hn
      · rename_i e
        left
        intro b hb
        refine ⟨hb, fun p hp => ?_⟩
        rw [List.isEmpty_iff.1 e] at hp
        cases hp
      · obtain ⟨n1, n2⟩ := conj_append hn
        exact .inr ⟨n1, nrs_ok _ n2⟩
    have hun : ∀ k, nx ≤ k → k < nx + (news.map (·.shift nx)).length → own k = .unborn := fun k h1 h2 => by
      have key : ∀ (l : List Hl) (nx : Nat), nx ≤ k → k < nx + l.length → ∃ c, (k, c) ∈ newsL nx l := by
        intro l
        induction l with
        | nil => intro nx h1 h2; simp at h2; omega
        | cons c l ih =>
          intro nx h1 h2
          by_cases e : k = nx
          · subst e; exact ⟨c, List.mem_cons_self ..⟩
          · obtain ⟨d, hd⟩ := ih (nx + 1) (by omega) (by simp at h2; omega)
            exact ⟨d, List.mem_cons_of_mem _ hd⟩
      obtain ⟨c, hm⟩ := key _ nx h1 h2
      exact hk _ hm h1
    refine yld_call h hc.cal hρ ((hc.run η (less F own η (ownIds xs)) w (ops.map ρ) (fun b hb => H.av_lt hb.1) hargs).mono fun e w' => ?_)
    rintro ⟨v, η', rfl, C, hR⟩
    obtain ⟨C', hav⟩ := C.shift nx
    have hR' := SV.shift_ok nx _ _ hR
    rw [shOwn_of] at C' hav
    rw [← hav] at hR'
    obtain ⟨m1, m2, m3⟩ := H.merge C' hun (hnn.imp id fun h => h.2)
    exact ⟨v, rfl, _, m1, m2, m3 _ _ (hnn.imp id fun h => h.1) hR'⟩
  · subst hr; exact hs.elim
end
end Go.Proofs.Ytngghjhmfpmilaa
/- All operations, with their guards; a region by terms. -/
namespace Go.Proofs.Ytngghjhmfpmilaa
open Go.RowKit
def mmR (mx : Bool) : List SV → Res
  | [.ex (.int .i64 p), .ex (.int .i64 q)] => vl (.ex (.int .i64 (if mx = true then max p q else min p q))) []
  | [.ex (.int .i64 p), .ex (.int .i64 q), .ex (.int .i64 r)] => if mx = true then bad else vl (.ex (.int .i64 (min (min p q) r))) []
  | _ => bad
/-- a literal row, told by its elements one by one -/
def leL : List SV → (Nat → SV) → Nat → List Prop
  | [], _, _ => []
  | a :: l, E, i => SV.le a (E i) ++ leL l E (i + 1)
def litT (P : Program) (T : TypeId) (len : Nat) (ks : List Nat) (xs : List SV) : Hint → Res
  | .row _ E => match litR P T len ks xs with
    | ⟨.sl s _ n, side, [], []⟩ => if xs.length = n then ⟨.sl s E n, leL xs E 0 ++ side, [], []⟩ else bad
    | _ => bad
  | _ => litR P T len ks xs
theorem leL_ok : ∀ {xs : List SV} {E : Nat → SV} {i : Nat}, conj (leL xs E i) → ∀ j a, xs[j]? = some a → conj (SV.le a (E (i + j)))
  | [], _, _, _, j, a, h => by simp at h
  | b :: l, E, i, hc, j, a, h => by
    obtain ⟨h1, h2⟩ := conj_append hc
    cases j with
    | zero => simp at h; subst h; exact h1
    | succ j =>
      have := leL_ok h2 j a (by simpa using h)
      rw [show i + (j + 1) = i + 1 + j by omega]
      exact this
theorem litR_E {P : Program} {T : TypeId} {len n s : Nat} {ks : List Nat} {xs : List SV} {E0 : Nat → SV} {side : List Prop} (h : litR P T len ks xs = ⟨.sl s E0 n, side, [], []⟩) : E0 = litE xs := by
  unfold litR at h
  split at h
  · split at h
    · split at h
      · split at h
        · simp only [vl, Res.mk.injEq, SV.sl.injEq] at h
          exact h.1.2.1.symm
        · cases h
      · cases h
    · cases h
  · cases h
def opR (P : Program) (fr : Tmp → SV) (own : Nat → Hl) (nx : Nat) (op : Op) (h : Hint) : Res := match op with
  | .move x => vl (opd fr x) []
  | .assign x => vl (opd fr x) []
  | .pick c a b => pickR (opd fr c) (opd fr a) (opd fr b)
  | .alloc T => allocR P T nx
  | .box T x => boxR T (opd fr x) nx
  | .build T ps => buildR P T (ps.toList.map fun p => (p.1, opd fr p.2))
  | .buildSlice T len ps => litT P T len (ps.toList.map (·.1)) (ps.toList.map fun p => opd fr p.2) h
  | .load T x => loadR P T (opd fr x) own
  | .store T x y => storeR P T (opd fr x) (opd fr y) own h
  | .binOp op t x y _ => binR P op t (opd fr x) (opd fr y) h
  | .unOp op _ x => unR op (opd fr x) h
  | .convert s d x => convR P s d (opd fr x) h
  | .makeSlice T x y => makeR P T (opd fr x) (opd fr y) nx h
  | .slice T x lo hi none => sliR P T (opd fr x) (lo.map (opd fr)) (hi.map (opd fr)) h
  | .fieldAddr T x f => faddrR P T f (opd fr x) own
  | .indexAddr T x y => idxR P T (opd fr x) (opd fr y) own h
  | .extract x i => extR (opd fr x) i
  | .call c => match c.callee, c.args.toList, c.argTypes.toList with
    | .builtin .len, [x], [T] => lenR P T (opd fr x) own
    | .builtin .append, [x, y], [T, T'] => appR P T T' (opd fr x) (opd fr y) own nx h
    | .builtin .copy, [x, y], [T, T'] => copyR P T T' (opd fr x) (opd fr y) own h
    | .builtin .max, xs, _ => mmR true (xs.map (opd fr))
    | .builtin .min, xs, _ => mmR false (xs.map (opd fr))
    | .value (.func f), xs, _ => callR P f (xs.map (opd fr)) own nx h
    | _, _, _ => bad
  | _ => bad
section
variable {P : Program} {o : Oper} {ρ : Operand → Value} {M F : Nat → Prop} {w0 w : World} {own own' : Nat → Hl} {η : Eta} {fr : Tmp → SV} {nx : Nat} {hh : Hint}
theorem yld_min3s {P : Program} {Φ : Value → World → Prop} {ts : Array TypeId} {p q r : Int} {x y z : Operand} (h : o.op = .call { callee := .builtin .min, args := #[x, y, z], argTypes := ts }) (hx : ρ x = .int .i64 p) (hy : ρ y = .int .i64 q) (hz : ρ z = .int .i64 r) (K : Φ (.int .i64 (min (min p q) r)) w) : Yld P o ρ w Φ :=
  yld_val (v := .int .i64 (min (min p q) r)) (by unfold execOp; rw [h]; simp [resolve, invoke, builtin, hx, hy, hz, Builtin.min_, Builtin.min2]; omega) K
theorem snd_mm {mx : Bool} {args : List Operand} {ts : Array TypeId} (H : Hp M F w0 own η w) (h : o.op = .call { callee := .builtin (if mx = true then .max else .min), args := args.toArray, argTypes := ts }) (hx : ∀ x ∈ args, (opd fr x).R η (Av F own η) w (ρ x)) {r : Res} (hr : mmR mx (args.map (opd fr)) = r) (hs : conj r.side) : Snd P o ρ M F w0 own η w r := by
  unfold mmR at hr
  split at hr
  · rename_i p q hl
    subst hr
    obtain ⟨x, y, rfl⟩ : ∃ x y, args = [x, y] := by
      have := congrArg List.length hl
      simp only [List.length_map, List.length_cons, List.length_nil] at this
      match args, this with
      | [x, y], _ => exact ⟨x, y, rfl⟩
    simp only [List.map_cons, List.map_nil, List.cons.injEq, and_true] at hl
    have h1 : ρ x = .int .i64 p := by have := hx x (by simp); rw [hl.1] at this; exact this
    have h2 : ρ y = .int .i64 q := by have := hx y (by simp); rw [hl.2] at this; exact this
    cases mx with
    | true => exact yld_max h h1 h2 ⟨η, H, Keep.weak fun _ _ h => h, rfl⟩
    | false => exact yld_min h h1 h2 ⟨η, H, Keep.weak fun _ _ h => h, rfl⟩
  · rename_i p q r0 hl
    split at hr
    · subst hr; exact hs.elim
    · rename_i hm
      subst hr
      obtain rfl : mx = false := by simpa using hm
      obtain ⟨x, y, z, rfl⟩ : ∃ x y z, args = [x, y, z] := by
        have := congrArg List.length hl
        simp only [List.length_map, List.length_cons, List.length_nil] at this
        match args, this with
        | [x, y, z], _ => exact ⟨x, y, z, rfl⟩
      simp only [List.map_cons, List.map_nil, List.cons.injEq, and_true] at hl
      have h1 : ρ x = .int .i64 p := by have := hx x (by simp); rw [hl.1] at this; exact this
      have h2 : ρ y = .int .i64 q := by have := hx y (by simp); rw [hl.2.1] at this; exact this
      have h3 : ρ z = .int .i64 r0 := by have := hx z (by simp); rw [hl.2.2] at this; exact this
      exact yld_min3s h h1 h2 h3 ⟨η, H, Keep.weak fun _ _ h => h, rfl⟩
  · subst hr; exact hs.elim
theorem snd_litT {T : TypeId} {len : Nat} {ps : Array (Nat × Operand)} {xs : List SV} (H : Hp M F w0 own η w) (h : o.op = .buildSlice T len ps) (hx : ∀ (i : Nat) (p : Nat × Operand) (a : SV), ps.toList[i]? = some p → xs[i]? = some a → a.R η (Av F own η) w (ρ p.2)) {r : Res} (hr : litT P T len (ps.toList.map (·.1)) xs hh = r) (hs : conj r.side) : Snd P o ρ M F w0 own η w r := by
  unfold litT at hr
  split at hr
  · rename_i j E
    split at hr
    · rename_i s E0 n side e
      split at hr
      · rename_i hl
        subst hr
        obtain ⟨h1, h2⟩ := conj_append hs
        refine Yld.mono (snd_lit H h hx e h2) fun v w' ⟨η', k1, k2, k3⟩ => ⟨η', k1, k2, SV.le_ok (.sl s E0 n) (.sl s E n) v ?_ k3⟩
        obtain rfl := litR_E e
        unfold SV.le
        rw [if_pos rfl]
        refine ⟨rfl, fun i hi => ?_⟩
        have hx : xs[i]? = some xs[i] := List.getElem?_eq_getElem (by omega)
        have := leL_ok h1 i _ hx
        rw [Nat.zero_add] at this
        rw [litE_get hx]
        exact this
      · subst hr; exact hs.elim
    · subst hr; exact hs.elim
  · exact snd_lit H h hx hr hs
theorem op_snd (H : Hp M F w0 own η w) (hx : ∀ x ∈ o.op.operands.toList, (opd fr x).R η (Av F own η) w (ρ x)) (hρ : ∀ f, ρ (.func f) = .func (.func f) #[] #[]) {r : Res} (hr : opR P fr own' nx o.op hh = r) (ho : ∀ k ∈ r.rd, own k = own' k) (hk : ∀ p ∈ r.new, nx ≤ p.1 → own p.1 = .unborn) (hs : conj r.side) : Snd P o ρ M F w0 own η w r := by
  unfold opR at hr
  split at hr
  · rename_i x e; subst hr; exact snd_move H (.inl e) (hx x (by rw [e]; simp [Op.operands]))
  · rename_i x e; subst hr; exact snd_move H (.inr e) (hx x (by rw [e]; simp [Op.operands]))
  · rename_i c a b e; subst hr; exact snd_pick H e (hx c (by rw [e]; simp [Op.operands])) (hx a (by rw [e]; simp [Op.operands])) (hx b (by rw [e]; simp [Op.operands])) hs
  · rename_i T e; exact snd_alloc H e hr hk hs
  · rename_i T x e; exact snd_box H e (hx x (by rw [e]; simp [Op.operands])) hr hk hs
  · rename_i T ps e
    refine snd_build H e (by simp) (fun i p q hp hq => ?_) hr hs
    rw [List.getElem?_map, hp] at hq
    obtain rfl := Option.some.inj hq
    refine hx p.2 ?_
    rw [e]
    simp only [Op.operands]
    exact List.mem_map.2 ⟨p, List.mem_of_getElem? hp, rfl⟩
  · rename_i T len ps e
    refine snd_litT H e (fun i p a hp ha => ?_) hr hs
    rw [List.getElem?_map, hp] at ha
    obtain rfl := Option.some.inj ha
    refine hx p.2 ?_
    rw [e]
    simp only [Op.operands]
    exact List.mem_map.2 ⟨p, List.mem_of_getElem? hp, rfl⟩
  · rename_i T x e; exact snd_load H e (hx x (by rw [e]; simp [Op.operands])) hr ho hs
  · rename_i T x y e; exact snd_store H e (hx x (by rw [e]; simp [Op.operands])) (hx y (by rw [e]; simp [Op.operands])) hr ho hs
  · rename_i op t x y t' e; subst hr; exact snd_bin H e (hx x (by rw [e]; simp [Op.operands])) (hx y (by rw [e]; simp [Op.operands])) hs
  · rename_i op t x e; subst hr; exact snd_un H e (hx x (by rw [e]; simp [Op.operands])) hs
  · rename_i s d x e; subst hr; exact snd_conv H e (hx x (by rw [e]; simp [Op.operands])) hs
  · rename_i T x y e; exact snd_make H e (hx x (by rw [e]; simp [Op.operands])) (hx y (by rw [e]; simp [Op.operands])) hr hk hs
  · rename_i T x lo hi e
    refine snd_sli H e (hx x (by rw [e]; simp [Op.operands])) (fun p hp => ⟨opd fr p, by rw [hp]; rfl, hx p (by rw [e, hp]; simp [Op.operands])⟩) (fun hp => by rw [hp]; rfl) (fun p hp => ⟨opd fr p, by rw [hp]; rfl, hx p (by rw [e, hp]; simp [Op.operands])⟩) (fun hp => by rw [hp]; rfl) hr hs
  · rename_i T x f e; exact snd_faddr H e (hx x (by rw [e]; simp [Op.operands])) hr ho hs
  · rename_i T x y e; exact snd_idx H e (hx x (by rw [e]; simp [Op.operands])) (hx y (by rw [e]; simp [Op.operands])) hr ho hs
  · rename_i x i e; subst hr; exact snd_ext H e (hx x (by rw [e]; simp [Op.operands])) hs
  · rename_i c e
    obtain ⟨cal, args, ts⟩ := c
    have ha : ∀ x ∈ args.toList, (opd fr x).R η (Av F own η) w (ρ x) := fun x hm => hx x (by rw [e]; simp only [Op.operands, Call.operands]; split <;> simp at hm ⊢ <;> simp [hm])
    simp only at hr
    split at hr
    · rename_i x T h2 h3
      have e1 : args = #[x] := by rw [← Array.toList_inj]; exact h2
      have e2 : ts = #[T] := by rw [← Array.toList_inj]; exact h3
      subst e1; subst e2
      exact snd_len H e (ha x (by simp)) hr ho hs
    · rename_i x y T T' h2 h3
      have e1 : args = #[x, y] := by rw [← Array.toList_inj]; exact h2
      have e2 : ts = #[T, T'] := by rw [← Array.toList_inj]; exact h3
      subst e1; subst e2
      exact snd_app H e (ha x (by simp)) (ha y (by simp)) hr ho hk hs
    · rename_i x y T T' h2 h3
      have e1 : args = #[x, y] := by rw [← Array.toList_inj]; exact h2
      have e2 : ts = #[T, T'] := by rw [← Array.toList_inj]; exact h3
      subst e1; subst e2
      exact snd_copy H e (ha x (by simp)) (ha y (by simp)) hr ho hs
    · exact snd_mm (mx := true) (ts := ts) H (by rw [e]; simp) ha hr hs
    · exact snd_mm (mx := false) (ts := ts) H (by rw [e]; simp) ha hr hs
    · rename_i f
      exact snd_callF H (by rw [e]) (hρ f) (by simp) (fun i p x hp hxx => by
        rw [List.getElem?_map, hp] at hxx
        obtain rfl := Option.some.inj hxx
        exact ha p (List.mem_of_getElem? hp)) hr ho hk hs
    · subst hr; exact hs.elim
  · subst hr; exact hs.elim
def strip (fr : Tmp → SV) : Tmp → SV := fun t => match fr t with
  | .opt _ s => s
  | s => s
def optC (fr : Tmp → SV) (c : Bool) : List Operand → List Prop
  | [] => []
  | .tmp t :: l => (match fr t with
    | .opt c' _ => [c = true → c' = true]
    | _ => []) ++ optC fr c l
  | _ :: l => optC fr c l
def opG (P : Program) (ops : Array Oper) (fr : Tmp → SV) (own : Nat → Hl) (nx : Nat) (o : Oper) (h : Hint) : Res := match o.guard with
  | none => opR P fr own nx o.op h
  | some (g, want) => match dstOf ops g with
    | none => bad
    | some d => match boolOf (fr d) with
      | none => bad
      | some (t, cs) =>
        let c := cs.all id && (t == want)
        let r := opR P (strip fr) own nx o.op h
        if r.new.isEmpty = true then ⟨.opt c r.sv, optC fr c o.op.operands.toList ++ r.side.map (fun p => c = true → p), [], r.rd⟩ else bad
theorem optC_ok {c : Bool} {A : Nat → Prop} (hc : c = true) : ∀ (l : List Operand), conj (optC fr c l) → (∀ x ∈ l, (opd fr x).R η A w (ρ x)) → ∀ x ∈ l, (opd (strip fr) x).R η A w (ρ x)
  | [], _, _, x, hx => by cases hx
  | y :: l, h, hall, x, hx => by
    have rest : conj (optC fr c l) → x ∈ l → (opd (strip fr) x).R η A w (ρ x) := fun h' hm => optC_ok hc l h' (fun z hz => hall z (by simp [hz])) x hm
    cases y with
    | tmp t =>
      obtain ⟨h1, h2⟩ := conj_append h
      rcases List.mem_cons.1 hx with e | hm
      · subst e
        have := hall (.tmp t) (by simp)
        show (strip fr t).R η A w _
        unfold strip
        have h3 : (fr t).R η A w (ρ (.tmp t)) := this
        split
        · rename_i c' s e
          rw [e] at h3
          have h1' : conj [c = true → c' = true] := by
            rw [e] at h1; exact h1
          exact h3.1 (h1' hc)
        · exact h3
      · exact rest h2 hm
    | const v =>
      rcases List.mem_cons.1 hx with e | hm
      · subst e; exact hall (.const v) (by simp)
      · exact rest h hm
    | global g =>
      rcases List.mem_cons.1 hx with e | hm
      · subst e; trivial
      · exact rest h hm
    | func f =>
      rcases List.mem_cons.1 hx with e | hm
      · subst e; trivial
      · exact rest h hm
theorem conj_imp {c : Bool} (hc : c = true) : ∀ (l : List Prop), conj (l.map fun p => c = true → p) → conj l
  | [], _ => trivial
  | [_], h => h hc
  | _ :: q :: l, h => ⟨h.1 hc, conj_imp hc (q :: l) h.2⟩
theorem yielded_getD {ops : Array Oper} {g : Nat} {t : Tmp} {tmps : Array Value} (hd : dstOf ops g = some t) : yielded ops tmps g = guardV (tmps.getD t undef) := by
  cases ht : tmps[t]? with
  | some v => rw [yielded_of hd ht]; simp [ht]
  | none =>
    unfold yielded
    unfold dstOf at hd
    rw [hd]
    simp [ht]
    rfl
theorem boolOf_val {a : SV} {t : Bool} {cs : List Bool} {A : Nat → Prop} {v : Value} (h : boolOf a = some (t, cs)) (hv : a.R η A w v) (want : Bool) : (guardV v == some want) = (cs.all id && (t == want)) := by
  unfold boolOf at h
  split at h
  · simp only [Option.some.injEq, Prod.mk.injEq] at h
    obtain ⟨rfl, rfl⟩ := h
    obtain rfl : v = .bool _ := hv
    simp [guardV]
  · rename_i c t0
    simp only [Option.some.injEq, Prod.mk.injEq] at h
    obtain ⟨rfl, rfl⟩ := h
    cases c with
    | true => obtain rfl : v = .bool _ := hv.1 rfl; simp [guardV]
    | false => rw [hv.2 rfl]; rfl
  · cases h
theorem upOwns_keys : ∀ (l : List (Nat × Hl)) (own own' : Nat → Hl) (k : Nat), upOwns own l k = if k ∈ l.map (·.1) then upOwns own' l k else own k
  | [], own, own', k => by simp [upOwns]
  | p :: l, own, own', k => by
    show upOwns (upOwn own p.1 p.2) l k = if k ∈ (p :: l).map (·.1) then upOwns (upOwn own' p.1 p.2) l k else own k
    rw [upOwns_keys l (upOwn own p.1 p.2) (upOwn own' p.1 p.2) k]
    by_cases h : k ∈ l.map (·.1)
    · rw [if_pos h, if_pos (by simp at h ⊢; exact .inr h)]
    · rw [if_neg h]
      by_cases e : k = p.1
      · subst e
        rw [if_pos (by simp), upOwns_keys l (upOwn own' p.1 p.2) own p.1, if_neg h]
        unfold upOwn
        rw [if_pos rfl, if_pos rfl]
      · rw [if_neg (by simp at h ⊢; exact ⟨e, h⟩)]
        unfold upOwn
        rw [if_neg e]
/-- THE OPERATION, in a region -/
theorem opG_ok {ops : Array Oper} {σ : Nat → SSt} {wr rd : Nat → List Nat} {N i : Nat} {r : Res} (ho : ops[i]? = some o) (hr : opG P ops (σ i).fr (σ i).own nx o hh = r) (hs : conj r.side) (hd : ∀ d, o.dst = some d → d < N) (hu : ∀ k, nx ≤ k → (σ i).own k = .unborn)
    (hwr : wr i = r.new.map (·.1)) (hrd : rd i = r.rd) (hfr : ∀ d, o.dst = some d → (σ (i + 1)).fr d = r.sv) (hown : (σ (i + 1)).own = upOwns (σ i).own r.new) : OpOK P ops σ wr rd M F w0 N i := by
  intro o' ψ η a w ho' hsl hkn hS
  rw [ho] at ho'
  obtain rfl := Option.some.inj ho'
  have hdst : dstOf ops i = o.dst := by simp [dstOf, ho]
  have hstep : (ψ.step ops σ wr i).own = upOwns ψ.own r.new := funext fun k => by
    show (if k ∈ wr i then _ else _) = _
    rw [hwr, hown, upOwns_keys r.new ψ.own (σ i).own k]
  have hin : ∀ x ∈ o.op.operands.toList, (opd (σ i).fr x).R η (Av F ψ.own η) w (a.eval x) := fun x hx => by
    cases x with
    | tmp t =>
      have : ψ.fr t = (σ i).fr t := hsl t (List.mem_append_left _ (List.mem_filterMap.2 ⟨.tmp t, hx, rfl⟩))
      show ((σ i).fr t).R η _ w _
      rw [← this]
      exact hS.sl t
    | const v => exact rfl
    | global g => trivial
    | func f => trivial
  have hko : ∀ k ∈ r.rd, ψ.own k = (σ i).own k := fun k hk => hkn k (.inl (by rw [hrd]; exact hk))
  have hkk : ∀ p ∈ r.new, nx ≤ p.1 → ψ.own p.1 = .unborn := fun p hp hle => by
    rw [hkn p.1 (.inr (by rw [hwr]; exact List.mem_map.2 ⟨p, hp, rfl⟩)), hu _ hle]
  have fin : ∀ v w' η', Hp M F w0 (upOwns ψ.own r.new) η' w' → Keep η η' (Av F ψ.own η) (Av F (upOwns ψ.own r.new) η') w w' → r.sv.R η' (Av F (upOwns ψ.own r.new) η') w' v → Sat M F w0 N (ψ.step ops σ wr i) η' (a.put o.dst v) w' := fun v w' η' h1 h2 h3 => by
    refine ⟨by rw [hstep]; exact h1, fun t => ?_, by rw [put_size]; exact hS.size, by rw [put_def]; exact hS.dfr⟩
    rw [hstep]
    show (if dstOf ops i = some t then (σ (i + 1)).fr t else ψ.fr t).R _ _ _ _
    rw [hdst]
    by_cases e : o.dst = some t
    · rw [if_pos e, hfr t e, e]
      have hlt := hd t e
      have : (a.put (some t) v).tmps.getD t undef = v := by rw [getD_get, put_get, if_pos rfl, if_pos (by rw [hS.size]; exact hlt)]; rfl
      rw [this]; exact h3
    · rw [if_neg e]
      have : (a.put o.dst v).tmps.getD t undef = a.tmps.getD t undef := by
        cases hdd : o.dst with
        | none => rfl
        | some d => rw [getD_get, put_get, if_neg (fun e' => e (by rw [hdd, e'])), getD_get]
      rw [this]
      exact SV.keep h2 _ _ (hS.sl t)
  unfold opG at hr
  split at hr
  · rename_i hg
    have hw : Region.wanted o (yielded ops a.tmps) = true := wanted_none hg
    rw [if_pos hw]
    exact (op_snd hS.hp hin (fun f => rfl) hr hko hkk hs).mono fun v w' ⟨η', h1, h2, h3⟩ => ⟨η', fin v w' η' h1 h2 h3⟩
  · rename_i g want hg
    split at hr
    · subst hr; exact hs.elim
    · rename_i d hgd
      split at hr
      · subst hr; exact hs.elim
      · rename_i t cs hb
        simp only at hr
        split at hr
        · rename_i hne
          have hdl : d ∈ o.looksAt ops := List.mem_append_right _ (by
            have : (ops[g]?).bind (·.dst) = some d := hgd
            simp [hg, this])
          have hvd : ((σ i).fr d).R η (Av F ψ.own η) w (a.tmps.getD d undef) := by rw [← hsl d hdl]; exact hS.sl d
          have hwant : Region.wanted o (yielded ops a.tmps) = (cs.all id && (t == want)) := by
            rw [← boolOf_val hb hvd want, ← yielded_getD hgd]
            simp [Region.wanted, hg]
          generalize hcc : (cs.all id && (t == want)) = c at hr hwant
          generalize hq : opR P (strip (σ i).fr) (σ i).own nx o.op hh = q at hr hne
          subst hr
          obtain ⟨s1, s2⟩ := conj_append hs
          rw [hwant]
          cases c with
          | true =>
            rw [if_pos rfl]
            have hn : q.new = [] := List.isEmpty_iff.1 hne
            refine (op_snd hS.hp (optC_ok rfl _ s1 hin) (fun f => rfl) hq hko (fun p hp => by rw [hn] at hp; cases hp) (conj_imp rfl _ s2)).mono fun v w' ⟨η', h1, h2, h3⟩ => ⟨η', fin v w' η' ?_ ?_ ?_⟩
            · rw [hn] at h1; exact h1
            · rw [hn] at h2; exact h2
            · rw [hn] at h3; exact ⟨fun _ => h3, fun e => by cases e⟩
          | false =>
            rw [if_neg (by decide)]
            exact ⟨η, fin undef w η hS.hp (Keep.weak fun _ _ h => h) ⟨(fun e => by cases e), fun _ => rfl⟩⟩
        · subst hr; exact hs.elim
end
end Go.Proofs.Ytngghjhmfpmilaa
/- The same state, told otherwise: own blocks under other numbers, let go of, put together, shared from here on. -/
namespace Go.Proofs.Ytngghjhmfpmilaa
open Go.RowKit
def lk {α : Type} (d : α) : List (Nat × α) → Nat → α
  | [], _ => d
  | (t', a) :: l, t => if t = t' then a else lk d l t
def lko {α : Type} : List (Nat × α) → Nat → Option α
  | [], _ => none
  | (t', a) :: l, t => if t = t' then some a else lko l t
/-- what is told: slots, own blocks, the first number that is not in use -/
structure Stt where
  fr : List (Nat × SV)
  own : List (Nat × Hl)
  nx : Nat
def Stt.ss (s : Stt) : SSt := ⟨lk .any s.fr, lk .unborn s.own⟩
/-- where an own block comes from -/
inductive Src where
  | id (k : Nat)
  | put (K i k2 : Nat)
  | nil
  | emp
def Src.used : Src → List Nat
  | .id k => [k]
  | .put K _ k2 => [K, k2]
  | _ => []
def srcP : Src → Nat → Option (Nat × Nat)
  | .id k, i => some (k, i)
  | .put K i0 k2, i => if i = i0 then some (k2, 0) else some (K, i)
  | _, _ => none
def srcEta (η : Eta) : Src → Nat → Option Value
  | .nil, i => if i = 0 then some (.slice none 0 0) else none
  | s, i => match srcP s i with
    | some (k, j) => η k j
    | none => none
def etaC (ss : List (Nat × Src)) (η : Eta) : Eta := fun k => match lko ss k with
  | some s => srcEta η s
  | none => fun _ => none
def usedAll : List (Nat × Src) → List Nat
  | [] => []
  | (_, s) :: l => s.used ++ usedAll l
def distinct : List Nat → Bool
  | [] => true
  | x :: l => !l.contains x && distinct l
def SV.cle (f : Nat → Nat → SV → List Prop) (g : Nat → Nat → List Prop) : SV → SV → List Prop
  | .own k i, b => f k i b
  | .ex (.slice none 0 0), .own k' i' => g k' i'
  | .ex (.agg cs), .agg l => if cs.all (·.oneCell') = true then exLs cs.toList l else [False]
  | .ex u, b => exLe u b
  | _, .any => []
  | .nat x, .nat y => [x = y]
  | .int x, .int y => [x = y]
  | .rat x, .rat y => [x = y]
  | .sl s E n, .sl s' E' n' => if s = s' then [n = n', ∀ i, i < n → conj (SV.cle f g (E i) (E' i))] else [False]
  | .ep a, .ep b => SV.cle f g a b
  | .nl, .nl => []
  | .cn a b, .cn a' b' => SV.cle f g a a' ++ SV.cle f g b b'
  | .agg l, .agg l' => SV.cle f g l l'
  | .opt c a, .opt c' a' => (c = c') :: SV.cle f g a a'
  | _, _ => [False]
/-- an own header, under another number -/
def ren (ss : List (Nat × Src)) (k i : Nat) : SV → List Prop
  | .any => []
  | .own k' i' => match lko ss k' with
    | some (.id k0) => if k0 = k then [i = i'] else [False]
    | some (.put K i0 k2) => if k = k2 then [i = 0, i' = i0] else if k = K then [i = i', i' ≠ i0] else [False]
    | _ => [False]
  | _ => [False]
def nilG (ss : List (Nat × Src)) (k' i' : Nat) : List Prop := match lko ss k' with
  | some .nil => [i' = 0]
  | _ => [False]
/-- an own header, shared from here on -/
def frz (ss : List (Nat × Src)) (own : Nat → Hl) (f : Nat → Nat → SV → List Prop) (k i : Nat) : SV → List Prop
  | .sl s' E' n' => if (usedAll ss).contains k = true then [False] else match (own k).gs i with
    | (some (.row _ s E n), sd) => if s = s' then [n = n', ∀ j, j < n → conj (SV.cle f (nilG ss) (E j) (E' j))] ++ sd else [False]
    | _ => [False]
  | .ep c' => if (usedAll ss).contains k = true then [False] else match (own k).gs i with
    | (some (.var _ c), sd) => SV.cle f (nilG ss) c c' ++ sd
    | _ => [False]
  | b => ren ss k i b
def cleA (ss : List (Nat × Src)) (own : Nat → Hl) : SV → SV → List Prop := SV.cle (frz ss own (frz ss own (ren ss))) (nilG ss)
def OB.cle (ss : List (Nat × Src)) (own : Nat → Hl) : OB → OB → List Prop
  | .var T a, .var T' a' => if T = T' then cleA ss own a a' else [False]
  | .row T s E n, .row T' s' E' n' => if T = T' ∧ s = s' then [n = n', ∀ j, j < n → conj (cleA ss own (E j) (E' j))] else [False]
  | _, _ => [False]
def hlC (ss : List (Nat × Src)) (own : Nat → Hl) (s : Option Src) (c' : Hl) : List Prop := match s, c' with
  | some (.id k), .one o' => match own k with
    | .one o => o.cle ss own o'
    | _ => [False]
  | some (.id k), .fam n' f' => match own k with
    | .fam n f => [n = n', ∀ i, i < n → conj ((f i).cle ss own (f' i))]
    | _ => [False]
  | some (.put K i0 k2), .fam n' f' => match own K, own k2 with
    | .hole n f m, .one o2 => [n' = n, i0 = m, conj (o2.cle ss own (f' i0)), ∀ i, i < n → i ≠ i0 → conj ((f i).cle ss own (f' i))]
    | .fam n f, .one o2 => [n' = n + 1, i0 = n, conj (o2.cle ss own (f' n)), ∀ i, i < n → conj ((f i).cle ss own (f' i))]
    | _, _ => [False]
  | some .nil, .one (.row T _ _ n) => if T = 105 then [False] else [n = 0]
  | some .emp, .fam n _ => [n = 0]
  | none, .dead => []
  | _, _ => [False]
def convS (ss : List (Nat × Src)) (s : Stt) : List (Nat × SV) → List Prop
  | [] => []
  | (t, a) :: l => cleA ss (lk .unborn s.own) (lk .any s.fr t) a ++ convS ss s l
def convO (ss : List (Nat × Src)) (s : Stt) : List (Nat × Hl) → List Prop
  | [] => []
  | (k, c) :: l => hlC ss (lk .unborn s.own) (lko ss k) c ++ convO ss s l
def convB (ss : List (Nat × Src)) (s' : Stt) : Bool := distinct (usedAll ss) && distinct (ss.map (·.1)) && distinct (s'.own.map (·.1)) && ss.all (fun p => (s'.own.map (·.1)).contains p.1) && s'.own.all (fun p => decide (p.1 < s'.nx))
def conv (ss : List (Nat × Src)) (s s' : Stt) : List Prop := if convB ss s' = true then convS ss s s'.fr ++ convO ss s s'.own else [False]
section
variable {ss : List (Nat × Src)} {η η' : Eta} {A A' : Nat → Prop} {w : World} {v : Value} {M F : Nat → Prop} {w0 : World} {own own' : Nat → Hl}
theorem SV.cle_ok {f : Nat → Nat → SV → List Prop} {g : Nat → Nat → List Prop} (hA : ∀ b, b < w.heap.size → ¬ A b → ¬ A' b) (hf : ∀ k i b v, conj (f k i b) → (SV.own k i).R η A w v → b.R η' A' w v) (hg : ∀ k i, conj (g k i) → (SV.own k i).R η' A' w (.slice none 0 0)) :
    ∀ (a b : SV) (v : Value), conj (SV.cle f g a b) → a.R η A w v → b.R η' A' w v := by
  intro a
  induction a with
  | any => intro b v h _; cases b <;> first | trivial | exact h.elim
  | ex u =>
    intro b v h hv
    obtain rfl : v = u := hv
    cases b with
    | agg l =>
      cases v with
      | agg cs =>
        have h' : conj (if cs.all (·.oneCell') = true then exLs cs.toList l else [False]) := h
        split at h'
        · rename_i hs
          obtain ⟨vs, h1, h2⟩ := exLs_ok (η := η') (A := A') (w := w) cs.toList l (fun c hc => Array.all_eq_true_iff_forall_mem.1 hs c (by simpa using hc)) h'
          exact ⟨vs, by rw [h2], h1⟩
        · exact h'.elim
      | slice a n c => cases a <;> cases n <;> cases c <;> exact exLe_ok h
      | _ => exact exLe_ok h
    | own k i =>
      cases v with
      | slice a n c =>
        cases a with
        | none =>
          cases n with
          | zero =>
            cases c with
            | zero => exact hg k i h
            | succ c => exact exLe_ok h
          | succ n => cases c <;> exact exLe_ok h
        | some a => cases n <;> cases c <;> exact exLe_ok h
      | _ => exact exLe_ok h
    | _ =>
      cases v with
      | slice a n c => cases a <;> cases n <;> cases c <;> exact exLe_ok h
      | _ => exact exLe_ok h
  | nat x => intro b v h hv; cases b <;> first | trivial | exact h.elim | (rw [← show x = _ from h]; exact hv)
  | int x => intro b v h hv; cases b <;> first | trivial | exact h.elim | (rw [← show x = _ from h]; exact hv)
  | rat x => intro b v h hv; cases b <;> first | trivial | exact h.elim | (rw [← show x = _ from h]; exact hv)
  | sl s E n ih =>
    intro b v h hv
    cases b <;> first | trivial | exact h.elim | skip
    rename_i s' E' n'
    have h' : conj (if s = s' then [n = n', ∀ i, i < n → conj (SV.cle f g (E i) (E' i))] else [False]) := h
    split at h'
    · rename_i e
      subst e
      obtain ⟨e, h2⟩ := h'
      subst e
      obtain ⟨A0, c, ev, h3, h4, h5, k⟩ := hv
      refine ⟨A0, c, ev, h3, h4, h5, fun i hi => ?_⟩
      obtain ⟨gg, o, e1, e2, e3, e0, e4, e5, e6⟩ := k i hi
      exact ⟨gg, o, e1, hA gg e3 e2, e3, e0, e4, ih i _ _ (h2 i hi) e5, e6⟩
    · exact h'.elim
  | ep a ih =>
    intro b v h hv
    cases b <;> first | trivial | exact h.elim | skip
    obtain ⟨gg, o, e1, e2, e3, e0, e5, e6⟩ := hv
    exact ⟨gg, o, e1, hA gg e3 e2, e3, e0, ih _ _ h e5, e6⟩
  | own k i => intro b v h hv; exact hf k i b v h hv
  | ref k i s j off =>
    intro b v h hv
    cases b <;> first | trivial | exact h.elim
  | nl => intro b v h hv; cases b <;> first | trivial | exact h.elim | exact hv
  | cn a b iha ihb =>
    intro b v h hv
    cases b <;> first | trivial | exact h.elim | skip
    obtain ⟨h1, h2⟩ := conj_append h
    obtain ⟨x, xs, e, e1, e2⟩ := hv
    exact ⟨x, xs, e, iha _ _ h1 e1, ihb _ _ h2 e2⟩
  | agg l ih =>
    intro b v h hv
    cases b <;> first | trivial | exact h.elim | skip
    obtain ⟨vs, e, e1⟩ := hv
    exact ⟨vs, e, ih _ _ h e1⟩
  | opt c a ih =>
    intro b v h hv
    cases b <;> first | trivial | exact h.elim | skip
    obtain ⟨h1, h2⟩ := conj_cons h
    subst h1
    exact ⟨fun hc => ih _ _ h2 (hv.1 hc), hv.2⟩
theorem etaC_of {k i : Nat} {s : Src} {p : Nat × Nat} (h : lko ss k = some s) (hp : srcP s i = some p) : etaC ss η k i = η p.1 p.2 := by
  unfold etaC
  rw [h]
  cases s <;> simp only [srcEta, hp] <;> first | rfl | cases hp
theorem ren_ok {k i : Nat} {b : SV} (h : conj (ren ss k i b)) (hv : (SV.own k i).R η A w v) : b.R (etaC ss η) A' w v := by
  unfold ren at h
  split at h
  · trivial
  · rename_i k' i'
    split at h
    · rename_i k0 hs
      split at h
      · rename_i e
        subst e
        obtain rfl : i = i' := h
        exact ⟨by rw [etaC_of hs rfl]; exact hv.1, hv.2⟩
      · exact h.elim
    · rename_i K i0 k2 hs
      split at h
      · rename_i e
        subst e
        obtain ⟨e1, e2⟩ := h
        subst e1
        have e2 : i' = i0 := e2
        subst e2
        exact ⟨by rw [etaC_of hs (p := (k, 0)) (by simp [srcP])]; exact hv.1, hv.2⟩
      · split at h
        · rename_i e
          subst e
          obtain ⟨e1, e2⟩ := h
          subst e1
          have e2 : i ≠ i0 := e2
          exact ⟨by rw [etaC_of hs (p := (k, i)) (by simp [srcP, e2])]; exact hv.1, hv.2⟩
        · exact h.elim
    · exact h.elim
  · exact h.elim
theorem nilG_ok {k i : Nat} (h : conj (nilG ss k i)) : (SV.own k i).R (etaC ss η) A' w (.slice none 0 0) := by
  unfold nilG at h
  split at h
  · rename_i hs
    obtain rfl : i = 0 := h
    refine ⟨?_, rfl⟩
    unfold etaC
    rw [hs]
    rfl
  · exact h.elim
/-- which own block stands behind another one -/
theorem used_mem : ∀ (l : List (Nat × Src)) {k : Nat} {s : Src}, lko l k = some s → ∀ x ∈ s.used, x ∈ usedAll l
  | (k', s') :: l, k, s, h, x, hx => by
    unfold lko at h
    split at h
    · obtain rfl := Option.some.inj h
      exact List.mem_append_left _ hx
    · exact List.mem_append_right _ (used_mem l h x hx)
theorem distinct_app : ∀ (l m : List Nat), distinct (l ++ m) = true → distinct l = true ∧ distinct m = true ∧ ∀ x ∈ l, x ∉ m
  | [], m, h => ⟨rfl, h, fun x hx => by cases hx⟩
  | a :: l, m, h => by
    simp only [List.cons_append, distinct, Bool.and_eq_true, Bool.not_eq_true'] at h
    obtain ⟨h1, h2⟩ := h
    obtain ⟨i1, i2, i3⟩ := distinct_app l m h2
    have h1' : a ∉ l ++ m := by
      intro hx
      rw [← List.contains_iff_mem] at hx
      rw [hx] at h1
      cases h1
    refine ⟨?_, i2, fun x hx => ?_⟩
    · simp only [distinct, Bool.and_eq_true, Bool.not_eq_true', i1, and_true]
      cases hc : l.contains a with
      | false => rfl
      | true => exact absurd (List.mem_append_left _ (List.contains_iff_mem.1 hc)) h1'
    · rcases List.mem_cons.1 hx with e | hx
      · subst e; exact fun hm => h1' (List.mem_append_right _ hm)
      · exact i3 x hx
theorem used_apart : ∀ (l : List (Nat × Src)), distinct (usedAll l) = true → ∀ {k1 k2 : Nat} {s1 s2 : Src}, lko l k1 = some s1 → lko l k2 = some s2 → k1 ≠ k2 → ∀ x ∈ s1.used, x ∉ s2.used
  | [], _, _, _, _, _, h1, _, _, _, _ => by cases h1
  | (k', s') :: l, hd, k1, k2, s1, s2, h1, h2, hne, x, hx => by
    obtain ⟨_, d2, d3⟩ := distinct_app s'.used (usedAll l) hd
    unfold lko at h1 h2
    split at h1
    · obtain rfl := Option.some.inj h1
      split at h2
      · rename_i e1 e2; exact absurd (e1.trans e2.symm) hne
      · exact fun hm => d3 x hx (used_mem l h2 x hm)
    · split at h2
      · obtain rfl := Option.some.inj h2
        exact fun hm => d3 x hm (used_mem l h1 x hx)
      · exact used_apart l d2 h1 h2 hne x hx
theorem used_self : ∀ (l : List (Nat × Src)), distinct (usedAll l) = true → ∀ {k : Nat} {s : Src}, lko l k = some s → distinct s.used = true
  | [], _, _, _, h => by cases h
  | (k', s') :: l, hd, k, s, h => by
    obtain ⟨d1, d2, _⟩ := distinct_app s'.used (usedAll l) hd
    unfold lko at h
    split at h
    · obtain rfl := Option.some.inj h; exact d1
    · exact used_self l d2 h
theorem srcP_used {s : Src} {i : Nat} {p : Nat × Nat} (h : srcP s i = some p) : p.1 ∈ s.used := by
  cases s with
  | id k => obtain rfl := Option.some.inj h; simp [Src.used]
  | put K i0 k2 =>
    have h : (if i = i0 then some (k2, 0) else some (K, i)) = some p := h
    split at h <;> obtain rfl := Option.some.inj h <;> simp [Src.used]
  | nil => cases h
  | emp => cases h
theorem srcP_inj {s : Src} {i j : Nat} {p : Nat × Nat} (hd : distinct s.used = true) (h1 : srcP s i = some p) (h2 : srcP s j = some p) : i = j := by
  cases s with
  | id k =>
    obtain rfl := Option.some.inj h1
    have := Option.some.inj h2
    simp at this
    exact this.symm
  | put K i0 k2 =>
    have hne : K ≠ k2 := by
      intro e
      subst e
      simp [Src.used, distinct] at hd
    have h1 : (if i = i0 then some (k2, 0) else some (K, i)) = some p := h1
    have h2 : (if j = i0 then some (k2, 0) else some (K, j)) = some p := h2
    rw [← h1] at h2
    split at h2 <;> split at h2 <;> simp at h2
    · omega
    · exact absurd h2.1 (Ne.symm hne)
    · exact absurd h2.1 hne
    · exact h2.symm
  | nil => cases h1
  | emp => cases h1

/-- what is told of the new own blocks stands on old ones -/
def Stands (ss : List (Nat × Src)) (own : Nat → Hl) (c : Option Src) (i : Nat) (o' : OB) : Prop :=
  (c = some .nil ∧ i = 0 ∧ ∃ T s E, o' = .row T s E 0 ∧ T ≠ 105) ∨ ∃ s p o0, c = some s ∧ srcP s i = some p ∧ (own p.1).get p.2 = some o0 ∧ conj (o0.cle ss own o')
theorem hlC_ok {c : Option Src} {c' : Hl} {i : Nat} {o' : OB} (h : conj (hlC ss own c c')) (hg : c'.get i = some o') : Stands ss own c i o' := by
  unfold hlC at h
  split at h
  · rename_i k o1
    split at h
    · rename_i o hk
      cases i with
      | succ i => cases hg
      | zero =>
        obtain rfl := Option.some.inj hg
        exact .inr ⟨_, (k, 0), o, rfl, rfl, by rw [hk]; rfl, h⟩
    · exact h.elim
  · rename_i k n' f'
    split at h
    · rename_i n f hk
      obtain ⟨rfl, h2⟩ := h
      rw [fam_get] at hg
      split at hg
      · rename_i hi
        obtain rfl := Option.some.inj hg
        exact .inr ⟨_, (k, i), f i, rfl, rfl, by rw [hk]; rw [fam_get, if_pos hi], h2 i hi⟩
      · cases hg
    · exact h.elim
  · rename_i K i0 k2 n' f'
    split at h
    · rename_i n f m o2 hK hk2
      obtain ⟨rfl, rfl, h2, h3⟩ := h
      rw [fam_get] at hg
      split at hg
      · rename_i hi
        obtain rfl := Option.some.inj hg
        by_cases e : i = i0
        · subst e
          exact .inr ⟨_, (k2, 0), o2, rfl, by simp [srcP], by rw [hk2]; rfl, h2⟩
        · exact .inr ⟨_, (K, i), f i, rfl, by simp [srcP, e], by rw [hK, hole_get, if_pos ⟨hi, e⟩], h3 i hi e⟩
      · cases hg
    · rename_i n f o2 hK hk2
      obtain ⟨rfl, rfl, h2, h3⟩ := h
      rw [fam_get] at hg
      split at hg
      · rename_i hi
        obtain rfl := Option.some.inj hg
        by_cases e : i = i0
        · subst e
          exact .inr ⟨_, (k2, 0), o2, rfl, by simp [srcP], by rw [hk2]; rfl, h2⟩
        · exact .inr ⟨_, (K, i), f i, rfl, by simp [srcP, e], by rw [hK, fam_get, if_pos (by omega)], h3 i (by omega)⟩
      · cases hg
    · exact h.elim
  · rename_i T s E n
    split at h
    · exact h.elim
    · rename_i hT
      obtain rfl : n = 0 := h
      cases i with
      | succ i => cases hg
      | zero =>
        obtain rfl := Option.some.inj hg
        exact .inl ⟨rfl, rfl, T, s, E, rfl, hT⟩
  · rename_i n f
    obtain rfl : n = 0 := h
    rw [fam_get] at hg
    split at hg
    · omega
    · cases hg
  · cases i <;> cases hg
  · exact h.elim
structure Based (ss : List (Nat × Src)) (own own' : Nat → Hl) : Prop where
  st : ∀ k i o', (own' k).get i = some o' → Stands ss own (lko ss k) i o'
  un : ∀ k, own' k = .unborn → lko ss k = none
  dis : distinct (usedAll ss) = true
theorem Based.av (B : Based ss own own') {b : Nat} (h : Av F own' (etaC ss η) b) : F b ∨ ∃ k i o hd, (own k).get i = some o ∧ η k i = some hd ∧ hb hd = some b ∧ k ∈ usedAll ss := by
  rcases h with h | ⟨k, i, o', hd, h1, h2, h3⟩
  · exact .inl h
  · rcases B.st k i o' h1 with ⟨e, rfl, _⟩ | ⟨s, p, o0, e1, e2, e3, _⟩
    · unfold etaC at h2
      rw [e] at h2
      obtain rfl : Value.slice none 0 0 = hd := Option.some.inj h2
      cases h3
    · rw [etaC_of e1 e2] at h2
      exact .inr ⟨p.1, p.2, o0, hd, e3, h2, h3, used_mem ss e1 _ (srcP_used e2)⟩
theorem frz_ok {f : Nat → Nat → SV → List Prop} (H : Hp M F w0 own η w) (B : Based ss own own') (hf : ∀ k i b v, conj (f k i b) → (SV.own k i).R η (Av F own η) w v → b.R (etaC ss η) (Av F own' (etaC ss η)) w v) {k i : Nat} {b : SV} (h : conj (frz ss own f k i b)) (hv : (SV.own k i).R η (Av F own η) w v) : b.R (etaC ss η) (Av F own' (etaC ss η)) w v := by
  have hA : ∀ b, b < w.heap.size → ¬ Av F own η b → ¬ Av F own' (etaC ss η) b := fun b _ h1 h2 => h1 ((B.av h2).imp id fun ⟨k, i, o, hd, a1, a2, a3, _⟩ => ⟨k, i, o, hd, a1, a2, a3⟩)
  have in_ : ∀ a b v, conj (SV.cle f (nilG ss) a b) → a.R η (Av F own η) w v → b.R (etaC ss η) (Av F own' (etaC ss η)) w v := SV.cle_ok hA hf fun k i h => nilG_ok h
  have notin : ∀ {o : OB} {g : Nat}, (own k).get i = some o → k ∉ usedAll ss → hb v = some g → ¬ Av F own' (etaC ss η) g := fun {o g} ho hk hg hx => by
    rcases B.av hx with hx | ⟨k', i', o', hd, a1, a2, a3, a4⟩
    · exact (H.low k i o v g ho hv.1 hg).2 hx
    · obtain ⟨rfl, _⟩ := H.apart k i o k' i' o' v hd g ho a1 hv.1 a2 hg a3
      exact hk a4
  unfold frz at h
  split at h
  · rename_i s' E' n'
    split at h
    · exact h.elim
    · rename_i hu
      have hk : k ∉ usedAll ss := fun hm => hu (List.contains_iff_mem.2 hm)
      split at h
      · rename_i T s E n sd hob
        split at h
        · rename_i e
          subst e
          obtain ⟨h, hsd⟩ := conj_append h
          obtain ⟨rfl, hE⟩ := h
          have hob := gs_conj hob hsd
          obtain ⟨hd, he, hok⟩ := H.ob k i _ hob
          have hv1 := hv.1
          rw [hv1] at he
          obtain rfl := Option.some.inj he
          obtain ⟨A0, c, rfl, h1, h2, h3, h4⟩ := hok
          refine ⟨A0, c, rfl, fun e => ?_, h1, h2, fun j hj => ?_⟩
          · subst e
            rcases h4 with ⟨_, h5, h6⟩ | ⟨g, cs, e, _⟩
            · exact ⟨h5, h6⟩
            · cases e
          · rcases h4 with ⟨_, h5, h6⟩ | ⟨g, cs, rfl, hB, hcs, hel⟩
            · omega
            · obtain ⟨e0, q1, q2, q3⟩ := hel j hj
              exact ⟨g, 0, rfl, notin hob hk rfl, hB.lt, e0, q1, in_ _ _ _ (hE j hj) q2, fun z u hz => by rw [Nat.zero_add]; exact q3 z u hz⟩
        · exact h.elim
      · exact h.elim
  · rename_i c'
    split at h
    · exact h.elim
    · rename_i hu
      have hk : k ∉ usedAll ss := fun hm => hu (List.contains_iff_mem.2 hm)
      split at h
      · rename_i T c sd hob
        obtain ⟨h, hsd⟩ := conj_append h
        have hob := gs_conj hob hsd
        obtain ⟨hd, he, hok⟩ := H.ob k i _ hob
        have hv1 := hv.1
        rw [hv1] at he
        obtain rfl := Option.some.inj he
        obtain ⟨b, u, rfl, hB, hR, hT⟩ := hok
        exact ⟨b, 0, rfl, notin hob hk rfl, hB.lt, u, in_ _ _ _ h hR, fun z y hz => by rw [Nat.zero_add, hB.cell]; exact hz⟩
      · exact h.elim
  · exact ren_ok h hv
theorem cleA_ok (H : Hp M F w0 own η w) (B : Based ss own own') (a b : SV) (v : Value) (h : conj (cleA ss own a b)) (hv : a.R η (Av F own η) w v) : b.R (etaC ss η) (Av F own' (etaC ss η)) w v := by
  have hA : ∀ b, b < w.heap.size → ¬ Av F own η b → ¬ Av F own' (etaC ss η) b := fun b _ h1 h2 => h1 ((B.av h2).imp id fun ⟨k, i, o, hd, a1, a2, a3, _⟩ => ⟨k, i, o, hd, a1, a2, a3⟩)
  exact SV.cle_ok hA (fun k i b v h hv => frz_ok H B (fun k i b v h hv => frz_ok H B (fun k i b v h hv => ren_ok h hv) h hv) h hv) (fun k i h => nilG_ok h) a b v h hv
theorem OB.cle_ok (H : Hp M F w0 own η w) (B : Based ss own own') {o o' : OB} {hd : Value} (h : conj (o.cle ss own o')) (k : o.ok η (Av F own η) w hd) : o'.ok (etaC ss η) (Av F own' (etaC ss η)) w hd := by
  unfold OB.cle at h
  split at h
  · rename_i T a T' a'
    split at h
    · rename_i e
      subst e
      obtain ⟨b, u, h1, h2, h3, h4⟩ := k
      exact ⟨b, u, h1, h2, cleA_ok H B _ _ _ h h3, h4⟩
    · exact h.elim
  · rename_i T s E n T' s' E' n'
    split at h
    · rename_i e
      obtain ⟨rfl, rfl⟩ := e
      obtain ⟨rfl, hE⟩ := h
      obtain ⟨A0, c, h1, h2, h3, h4, h5⟩ := k
      refine ⟨A0, c, h1, h2, h3, h4, h5.imp id fun ⟨g, cs, e1, e2, e3, e4⟩ => ⟨g, cs, e1, e2, e3, fun i hi => ?_⟩⟩
      obtain ⟨e0, q1, q2, q3⟩ := e4 i hi
      exact ⟨e0, q1, cleA_ok H B _ _ _ (hE i hi) q2, q3⟩
    · exact h.elim
  · exact h.elim
theorem Hp.based (H : Hp M F w0 own η w) (B : Based ss own own') : Hp M F w0 own' (etaC ss η) w := by
  refine ⟨H.mod, fun k i o' hk => ?_, fun k i o' hd b hk h2 h3 => ?_, fun k1 i1 o1 k2 i2 o2 h1 h2 b a1 a2 e1 e2 b1 b2 => ?_, fun k hk i => ?_, H.fl⟩
  · rcases B.st k i o' hk with ⟨e, rfl, T, s, E, rfl, hT⟩ | ⟨s, p, o0, e1, e2, e3, e4⟩
    · refine ⟨.slice none 0 0, ?_, none, 0, rfl, Nat.le_refl _, Nat.zero_le _, hT, .inl ⟨rfl, rfl, rfl⟩⟩
      unfold etaC
      rw [e]
      rfl
    · obtain ⟨hd, e5, hok⟩ := H.ob p.1 p.2 o0 e3
      exact ⟨hd, by rw [etaC_of e1 e2]; exact e5, OB.cle_ok H B e4 hok⟩
  · rcases B.st k i o' hk with ⟨e, rfl, _⟩ | ⟨s, p, o0, e1, e2, e3, e4⟩
    · unfold etaC at h2
      rw [e] at h2
      obtain rfl : Value.slice none 0 0 = hd := Option.some.inj h2
      cases h3
    · rw [etaC_of e1 e2] at h2
      exact H.low p.1 p.2 o0 hd b e3 h2 h3
  · rcases B.st k1 i1 o1 a1 with ⟨e, rfl, _⟩ | ⟨s, p, o0, q1, q2, q3, q4⟩
    · unfold etaC at e1
      rw [e] at e1
      obtain rfl : Value.slice none 0 0 = h1 := Option.some.inj e1
      cases b1
    · rcases B.st k2 i2 o2 a2 with ⟨e, rfl, _⟩ | ⟨s', p', o0', r1, r2, r3, r4⟩
      · unfold etaC at e2
        rw [e] at e2
        obtain rfl : Value.slice none 0 0 = h2 := Option.some.inj e2
        cases b2
      · rw [etaC_of q1 q2] at e1
        rw [etaC_of r1 r2] at e2
        obtain ⟨x1, x2⟩ := H.apart p.1 p.2 o0 p'.1 p'.2 o0' h1 h2 b q3 r3 e1 e2 b1 b2
        have hp : p = p' := Prod.ext x1 x2
        subst hp
        by_cases e : k1 = k2
        · subst e
          rw [q1] at r1
          obtain rfl := Option.some.inj r1
          exact ⟨rfl, srcP_inj (used_self ss B.dis q1) q2 r2⟩
        · exact absurd (srcP_used r2) (used_apart ss B.dis q1 r1 e _ (srcP_used q2))
  · unfold etaC
    rw [B.un k hk]
theorem lk_mem {α : Type} {d : α} : ∀ (l : List (Nat × α)) (k : Nat), lk d l k = d ∨ (k, lk d l k) ∈ l
  | [], _ => .inl rfl
  | (k', a) :: l, k => by
    unfold lk
    split
    · rename_i e; subst e; exact .inr (List.mem_cons_self ..)
    · exact (lk_mem l k).imp id (List.mem_cons_of_mem _)
theorem convS_mem {s : Stt} : ∀ (l : List (Nat × SV)), conj (convS ss s l) → ∀ p ∈ l, conj (cleA ss (lk .unborn s.own) (lk .any s.fr p.1) p.2)
  | (t, a) :: l, h, p, hp => by
    obtain ⟨h1, h2⟩ := conj_append h
    rcases List.mem_cons.1 hp with e | hp
    · subst e; exact h1
    · exact convS_mem l h2 p hp
theorem convO_mem {s : Stt} : ∀ (l : List (Nat × Hl)), conj (convO ss s l) → ∀ p ∈ l, conj (hlC ss (lk .unborn s.own) (lko ss p.1) p.2)
  | (t, a) :: l, h, p, hp => by
    obtain ⟨h1, h2⟩ := conj_append h
    rcases List.mem_cons.1 hp with e | hp
    · subst e; exact h1
    · exact convO_mem l h2 p hp
theorem lko_mem {α : Type} : ∀ (l : List (Nat × α)) {k : Nat} {a : α}, lko l k = some a → (k, a) ∈ l
  | (k', b) :: l, k, a, h => by
    unfold lko at h
    split at h
    · rename_i e; subst e; obtain rfl := Option.some.inj h; exact List.mem_cons_self ..
    · exact List.mem_cons_of_mem _ (lko_mem l h)
theorem lk_key {α : Type} {d : α} : ∀ (l : List (Nat × α)) {k : Nat}, k ∈ l.map (·.1) → (k, lk d l k) ∈ l
  | (k', b) :: l, k, h => by
    unfold lk
    split
    · rename_i e; subst e; exact List.mem_cons_self ..
    · rename_i e
      refine List.mem_cons_of_mem _ (lk_key l ?_)
      simp only [List.map_cons, List.mem_cons] at h
      exact h.resolve_left e
theorem conv_based {s s' : Stt} (h : conj (conv ss s s')) : Based ss (lk .unborn s.own) (lk .unborn s'.own) ∧ (∀ p ∈ s'.fr, conj (cleA ss (lk .unborn s.own) (lk .any s.fr p.1) p.2)) ∧ ∀ k, s'.nx ≤ k → lk .unborn s'.own k = .unborn := by
  unfold conv at h
  split at h
  · rename_i hb
    obtain ⟨h1, h2⟩ := conj_append h
    unfold convB at hb
    simp only [Bool.and_eq_true, List.all_eq_true, decide_eq_true_eq] at hb
    obtain ⟨⟨⟨⟨b1, b2⟩, b3⟩, b4⟩, b5⟩ := hb
    refine ⟨⟨fun k i o' hk => ?_, fun k hk => ?_, b1⟩, convS_mem _ h1, fun k hk => ?_⟩
    · rcases lk_mem (d := Hl.unborn) s'.own k with e | e
      · rw [e] at hk; cases i <;> cases hk
      · exact hlC_ok (convO_mem _ h2 _ e) hk
    · cases hl : lko ss k with
      | none => rfl
      | some sr =>
        have hm := lko_mem ss hl
        have := b4 _ hm
        have hkey : k ∈ s'.own.map (·.1) := List.contains_iff_mem.1 this
        have he := lk_key (d := Hl.unborn) s'.own hkey
        have := convO_mem _ h2 _ he
        rw [hk] at this
        simp only [hl] at this
        cases sr <;> exact this.elim
    · rcases lk_mem (d := Hl.unborn) s'.own k with e | e
      · exact e
      · have := b5 _ e
        simp only at this
        omega
  · exact h.elim
theorem Sat.conv {N : Nat} {s s' : Stt} {a : Act} (h : Sat M F w0 N s.ss η a w) (hc : conj (conv ss s s')) : Sat M F w0 N s'.ss (etaC ss η) a w := by
  obtain ⟨B, hs, _⟩ := conv_based hc
  refine ⟨h.hp.based B, fun t => ?_, h.size, h.dfr⟩
  rcases lk_mem (d := SV.any) s'.fr t with e | e
  · show (lk .any s'.fr t).R _ _ _ _
    rw [e]; trivial
  · exact cleA_ok h.hp B _ _ _ (hs _ e) (h.sl t)
end
end Go.Proofs.Ytngghjhmfpmilaa
/- A function's whole run by terms: what must hold for it to yield what is said. -/
namespace Go.Proofs.Ytngghjhmfpmilaa
open Go.RowKit
def Stt.put (s : Stt) (o : Oper) (r : Res) : Stt :=
  { fr := match o.dst with
      | some d => (d, r.sv) :: s.fr
      | none => s.fr
    own := r.new.reverse ++ s.own, nx := r.new.foldl (fun m p => max m (p.1 + 1)) s.nx }
def resAt (P : Program) (ops : Array Oper) (hs : List (Nat × Hint)) (s : Stt) (i : Nat) (o : Oper) : Res := opG P ops (lk .any s.fr) (lk .unborn s.own) s.nx o (lk .no hs i)
def regF (P : Program) (ops : Array Oper) (hs : List (Nat × Hint)) : List Oper → Nat → Stt → List Prop × Stt × List (List Nat × List Nat)
  | [], _, s => ([], s, [])
  | o :: os, i, s =>
    let r := resAt P ops hs s i o
    let q := regF P ops hs os (i + 1) (s.put o r)
    (r.side ++ q.1, q.2.1, (r.new.map (·.1), r.rd) :: q.2.2)
def regB (draw : Bool) (ops : Array Oper) (N : Nat) (q : List (List Nat × List Nat)) : Bool :=
  ops.toList.all (fun o => match o.dst with | some d => decide (d < N) | none => true) && (!draw || regOK .any ops N (fun i => (q.getD i ([], [])).1) (fun i => (q.getD i ([], [])).2))
def Unb (s : Stt) : Prop := ∀ k, s.nx ≤ k → lk Hl.unborn s.own k = .unborn
section
variable {P : Program} {ops : Array Oper} {hs : List (Nat × Hint)} {s : Stt}
theorem lk_rev : ∀ (l m : List (Nat × Hl)), lk Hl.unborn (l.reverse ++ m) = upOwns (lk .unborn m) l := by
  intro l
  induction l with
  | nil => intro m; rfl
  | cons p l ih =>
    intro m
    rw [List.reverse_cons, List.append_assoc, ih ([p] ++ m)]
    show upOwns _ l = upOwns (upOwn (lk .unborn m) p.1 p.2) l
    congr 1
def seqS (P : Program) (ops : Array Oper) (hs : List (Nat × Hint)) (s : Stt) : Nat → Stt
  | 0 => s
  | i + 1 => match ops[i]? with
    | some o => (seqS P ops hs s i).put o (resAt P ops hs (seqS P ops hs s i) i o)
    | none => seqS P ops hs s i
theorem seqS_succ {i : Nat} {o : Oper} (h : ops[i]? = some o) : seqS P ops hs s (i + 1) = (seqS P ops hs s i).put o (resAt P ops hs (seqS P ops hs s i) i o) := by
  show (match ops[i]? with | some o => _ | none => _) = _
  rw [h]
theorem regF_spec : ∀ (d i : Nat), i + d = ops.size → (regF P ops hs (ops.toList.drop i) i (seqS P ops hs s i)).2.1 = seqS P ops hs s ops.size ∧
    (conj (regF P ops hs (ops.toList.drop i) i (seqS P ops hs s i)).1 → ∀ j o, i ≤ j → ops[j]? = some o → conj (resAt P ops hs (seqS P ops hs s j) j o).side) ∧
    ∀ j o, i ≤ j → ops[j]? = some o → (regF P ops hs (ops.toList.drop i) i (seqS P ops hs s i)).2.2[j - i]? = some ((resAt P ops hs (seqS P ops hs s j) j o).new.map (·.1), (resAt P ops hs (seqS P ops hs s j) j o).rd)
  | 0, i, h => by
    obtain rfl : i = ops.size := by omega
    rw [List.drop_eq_nil_of_le (by simp)]
    refine ⟨rfl, fun _ j o hj ho => ?_, fun j o hj ho => ?_⟩ <;> exact absurd (Array.getElem?_eq_some_iff.1 ho).1 (by omega)
  | d + 1, i, h => by
    have hi : i < ops.size := by omega
    have ho : ops[i]? = some ops[i] := Array.getElem?_eq_getElem hi
    have hdrop : ops.toList.drop i = ops[i] :: ops.toList.drop (i + 1) := by
      rw [List.drop_eq_getElem_cons (by simpa using hi)]
      congr 1
    obtain ⟨h1, h2, h3⟩ := regF_spec d (i + 1) (by omega)
    rw [hdrop]
    unfold regF
    simp only
    rw [← seqS_succ ho]
    refine ⟨h1, fun hc j o hj hjo => ?_, fun j o hj hjo => ?_⟩
    · obtain ⟨c1, c2⟩ := conj_append hc
      by_cases e : j = i
      · subst e
        rw [ho] at hjo
        obtain rfl := Option.some.inj hjo
        exact c1
      · exact h2 c2 j o (by omega) hjo
    · by_cases e : j = i
      · subst e
        rw [ho] at hjo
        obtain rfl := Option.some.inj hjo
        rw [Nat.sub_self]
        rfl
      · rw [show j - i = (j - (i + 1)) + 1 by omega, List.getElem?_cons_succ]
        exact h3 j o (by omega) hjo
theorem fold_max : ∀ (l : List (Nat × Hl)) (m : Nat), m ≤ l.foldl (fun m p => max m (p.1 + 1)) m ∧ ∀ p ∈ l, p.1 < l.foldl (fun m p => max m (p.1 + 1)) m
  | [], m => ⟨Nat.le_refl _, fun p h => by cases h⟩
  | q :: l, m => by
    obtain ⟨h1, h2⟩ := fold_max l (max m (q.1 + 1))
    refine ⟨Nat.le_trans (Nat.le_max_left ..) h1, fun p hp => ?_⟩
    rcases List.mem_cons.1 hp with e | hp
    · subst e
      exact Nat.lt_of_lt_of_le (Nat.lt_of_lt_of_le (Nat.lt_succ_self _) (Nat.le_max_right ..)) h1
    · exact h2 p hp
theorem Unb.put {o : Oper} {r : Res} (h : Unb s) : Unb (s.put o r) := fun k hk => by
  obtain ⟨h1, h2⟩ := fold_max r.new s.nx
  have hk : r.new.foldl (fun m p => max m (p.1 + 1)) s.nx ≤ k := hk
  show lk .unborn (r.new.reverse ++ s.own) k = _
  rw [lk_rev, upOwns_keys r.new _ (fun _ => .unborn) k, if_neg ?_]
  · exact h k (by omega)
  · intro hm
    obtain ⟨p, hp, rfl⟩ := List.mem_map.1 hm
    have := h2 p hp
    omega
theorem Unb.seq (h : Unb s) : ∀ i, Unb (seqS P ops hs s i)
  | 0 => h
  | i + 1 => by
    show Unb (match ops[i]? with | some o => _ | none => _)
    split
    · exact (Unb.seq h i).put
    · exact Unb.seq h i
variable {M F : Nat → Prop} {w0 w : World} {N : Nat} {Q : Exit → Act → World → Prop} {η : Eta} {a : Act}
theorem region_stt {id : Nat} {draw : Bool} (hm : P.follows .mixedOrders = true) (hu : Unb s) (hB : regB draw ops N (regF P ops hs ops.toList 0 s).2.2 = true) (hsd : conj (regF P ops hs ops.toList 0 s).1) (hS : Sat M F w0 N s.ss η a w)
    (hfin : ∀ η a w, Sat M F w0 N (regF P ops hs ops.toList 0 s).2.1.ss η a w → Q .normal a w) : (Code.region id ops draw).wp P Q a w := by
  obtain ⟨h1, h2, h3⟩ := regF_spec (P := P) (ops := ops) (hs := hs) (s := s) ops.size 0 (by omega)
  have e0 : ops.toList.drop 0 = ops.toList := rfl
  rw [e0] at h1 h2 h3
  have h1 : (regF P ops hs ops.toList 0 s).2.1 = seqS P ops hs s ops.size := h1
  have h2 : ∀ j o, ops[j]? = some o → conj (resAt P ops hs (seqS P ops hs s j) j o).side := fun j o => h2 hsd j o (Nat.zero_le _)
  have h3 : ∀ j o, ops[j]? = some o → (regF P ops hs ops.toList 0 s).2.2[j]? = some ((resAt P ops hs (seqS P ops hs s j) j o).new.map (·.1), (resAt P ops hs (seqS P ops hs s j) j o).rd) := fun j o => h3 j o (Nat.zero_le _)
  rw [h1] at hfin
  unfold regB at hB
  simp only [Bool.and_eq_true, Bool.or_eq_true, Bool.not_eq_true', List.all_eq_true] at hB
  obtain ⟨hN, hreg⟩ := hB
  have hd : ∀ (i : Nat) (o : Oper), ops[i]? = some o → ∀ d, o.dst = some d → d < N := fun i o ho d hd => by
    have := hN o (by rw [Array.mem_toList_iff]; exact Array.mem_of_getElem? ho)
    rw [hd] at this
    simpa using this
  have hw : ∀ (i : Nat) (o : Oper), ops[i]? = some o → ((regF P ops hs ops.toList 0 s).2.2.getD i ([], [])).1 = (resAt P ops hs (seqS P ops hs s i) i o).new.map (·.1) ∧ ((regF P ops hs ops.toList 0 s).2.2.getD i ([], [])).2 = (resAt P ops hs (seqS P ops hs s i) i o).rd := fun i o ho => by
    rw [List.getD_eq_getElem?_getD, h3 i o ho]
    exact ⟨rfl, rfl⟩
  refine region_go (σ := fun i => (seqS P ops hs s i).ss) (wr := fun i => ((regF P ops hs ops.toList 0 s).2.2.getD i ([], [])).1) (rd := fun i => ((regF P ops hs ops.toList 0 s).2.2.getD i ([], [])).2) hm (fun e => hreg.resolve_left (by rw [e]; decide)) ⟨fun i hi t ht => ?_, fun i hi k hk => ?_⟩ (fun i hi => ?_) hS hfin
  · have ho : ops[i]? = some ops[i] := Array.getElem?_eq_getElem hi
    simp only [seqS_succ ho]
    have hne : ops[i].dst ≠ some t := by
      intro e
      exact ht (by simp [dstOf, ho, e])
    show lk SV.any ((seqS P ops hs s i).put ops[i] (resAt P ops hs (seqS P ops hs s i) i ops[i])).fr t = _
    cases hdd : ops[i].dst with
    | none => simp only [Stt.put, hdd]; rfl
    | some d =>
      simp only [Stt.put, hdd]
      show (if t = d then _ else _) = _
      rw [if_neg (fun e' => hne (by rw [hdd, e']))]
      rfl
  · have ho : ops[i]? = some ops[i] := Array.getElem?_eq_getElem hi
    rw [(hw i _ ho).1] at hk
    simp only [seqS_succ ho]
    show lk Hl.unborn ((resAt P ops hs (seqS P ops hs s i) i ops[i]).new.reverse ++ (seqS P ops hs s i).own) k = _
    rw [lk_rev, upOwns_keys _ _ (fun _ => .unborn) k, if_neg hk]
    rfl
  · have ho : ops[i]? = some ops[i] := Array.getElem?_eq_getElem hi
    refine opG_ok (r := resAt P ops hs (seqS P ops hs s i) i ops[i]) ho rfl (h2 i _ ho) (hd i _ ho) ((hu.seq i)) (hw i _ ho).1 (hw i _ ho).2 (fun d e => ?_) ?_
    · simp only [seqS_succ ho]
      show lk SV.any ((seqS P ops hs s i).put ops[i] (resAt P ops hs (seqS P ops hs s i) i ops[i])).fr d = _
      simp only [Stt.put, e]
      show (if d = d then _ else _) = _
      rw [if_pos rfl]
    · simp only [seqS_succ ho]
      exact lk_rev _ _
end
inductive Ex where
  | normal
  | exit (id : Nat)
  | ret
/-- hints on code: what a region's operations need, states told otherwise ahead of a region, tests that are known, loops, results -/
inductive CE : Type 1 where
  | reg (id : Nat) (h : List (Nat × Hint))
  | conv (id : Nat) (ss : List (Nat × Src)) (s : Stt)
  | dec (t : Nat) (b : Bool)
  | loop (id : Nat) (G : Type) (inv : G → Prop) (mu : G → Nat) (st : G → Stt) (s0 s1 : List (Nat × Src)) (ch : G → List CE)
  | ret (id : Nat) (ss : List (Nat × Src))
def fReg : List CE → Nat → List (Nat × Hint)
  | .reg id h :: l, k => if k = id then h else fReg l k
  | _ :: l, k => fReg l k
  | [], _ => []
def fConv : List CE → Nat → Option (List (Nat × Src) × Stt)
  | .conv id ss s :: l, k => if k = id then some (ss, s) else fConv l k
  | _ :: l, k => fConv l k
  | [], _ => none
def fDec : List CE → Operand → Option Bool
  | .dec t b :: l, .tmp k => if k = t then some b else fDec l (.tmp k)
  | _ :: l, k => fDec l k
  | [], _ => none
def fLoop : List CE → Nat → Option CE
  | .loop id G inv mu st s0 s1 ch :: l, k => if k = id then some (.loop id G inv mu st s0 s1 ch) else fLoop l k
  | _ :: l, k => fLoop l k
  | [], _ => none
def fRet : List CE → Nat → List (Nat × Src)
  | .ret id ss :: l, k => if k = id then ss else fRet l k
  | _ :: l, k => fRet l k
  | [], _ => []
def firstReg : Code → Nat
  | .region id _ _ => id
  | .seq a _ => firstReg a
  | .block _ c => firstReg c
  | .loop c => firstReg c
  | _ => 0
structure HS : Type 1 where
  s : Stt
  ch : List CE
  last : Nat
def pre : List Prop → Prop → Prop
  | [], K => K
  | p :: ps, K => p ∧ pre ps K
def regV (P : Program) (N id : Nat) (ops : Array Oper) (draw : Bool) (K : HS → Prop) (s : HS) : Prop :=
  let q := regF P ops (fReg s.ch id) ops.toList 0 s.s
  pre q.1 (if regB draw ops N q.2.2 = true then K ⟨q.2.1, s.ch, id⟩ else False)
def vc (P : Program) (N : Nat) : Code → (Ex → HS → Prop) → HS → Prop
  | .skip, K, s => K .normal s
  | .region id ops draw, K, s => match fConv s.ch id with
    | none => regV P N id ops draw (K .normal) s
    | some (ss, s') => pre (conv ss s.s s') (regV P N id ops draw (K .normal) ⟨s', s.ch, s.last⟩)
  | .seq a b, K, s => vc P N a (fun e s' => match e with
    | .normal => vc P N b K s'
    | e => K e s') s
  | .cond c x y, K, s => match opd (lk .any s.s.fr) c with
    | .ex (.bool t) => match fDec s.ch c with
      | some true => t = true ∧ vc P N x K s
      | some false => t = false ∧ vc P N y K s
      | none => (t = true → vc P N x K s) ∧ (t = false → vc P N y K s)
    | _ => False
  | .block id c, K, s => vc P N c (fun e s' => match e with
    | .exit i => if i = id then K .normal s' else K (.exit i) s'
    | e => K e s') s
  | .loop c, K, s => match fLoop s.ch (firstReg c) with
    | some (.loop _ G inv mu st s0 s1 ch) => (∃ g0 : G, pre (conv s0 s.s (st g0)) (inv g0)) ∧ ∀ g : G, inv g → vc P N c (fun e s' => match e with
      | .normal => ∃ g' : G, pre (conv s1 s'.s (st g')) (inv g' ∧ mu g' < mu g)
      | e => K e s') ⟨st g, ch g ++ s.ch, s.last⟩
    | _ => False
  | .exit id, K, s => K (.exit id) s
  | .ret, K, s => K .ret s
  | _, _, _ => False
theorem pre_ok : ∀ {l : List Prop} {K : Prop}, pre l K → conj l ∧ K
  | [], _, h => ⟨trivial, h⟩
  | [_], _, h => h
  | _ :: q :: l, K, h => by
    obtain ⟨h1, h2⟩ := pre_ok (l := q :: l) h.2
    exact ⟨⟨h.1, h1⟩, h2⟩
def toX : Ex → Exit
  | .normal => .normal
  | .exit id => .exit id
  | .ret => .ret
section
variable {P : Program} {M F : Nat → Prop} {w0 : World} {N : Nat}
def Rel (M F : Nat → Prop) (w0 : World) (N : Nat) (K : Ex → HS → Prop) (Q : Exit → Act → World → Prop) : Prop := ∀ e s η a w, K e s → Unb s.s → Sat M F w0 N s.s.ss η a w → Q (toX e) a w
theorem Unb.conv {ss : List (Nat × Src)} {s s' : Stt} (h : conj (conv ss s s')) : Unb s' := (conv_based h).2.2
theorem regV_ok {id : Nat} {ops : Array Oper} {draw : Bool} {K : Ex → HS → Prop} {s : HS} {Q : Exit → Act → World → Prop} {η : Eta} {a : Act} {w : World} (hm : P.follows .mixedOrders = true) (h : regV P N id ops draw (K .normal) s) (hu : Unb s.s) (hS : Sat M F w0 N s.s.ss η a w) (hK : Rel M F w0 N K Q) : (Code.region id ops draw).wp P Q a w := by
  unfold regV at h
  simp only at h
  obtain ⟨h1, h2⟩ := pre_ok h
  split at h2
  · rename_i hB
    refine region_stt hm hu hB h1 hS fun η a w hs => hK .normal _ η a w h2 ?_ hs
    have := (regF_spec (P := P) (ops := ops) (hs := fReg s.ch id) (s := s.s) ops.size 0 (by omega)).1
    have e : (regF P ops (fReg s.ch id) ops.toList 0 s.s).2.1 = seqS P ops (fReg s.ch id) s.s ops.size := this
    show Unb (regF P ops (fReg s.ch id) ops.toList 0 s.s).2.1
    rw [e]
    exact hu.seq _
  · exact h2.elim
theorem vc_ok (hm : P.follows .mixedOrders = true) : ∀ (c : Code) (K : Ex → HS → Prop) (Q : Exit → Act → World → Prop) (s : HS) (η : Eta) (a : Act) (w : World), vc P N c K s → Unb s.s → Sat M F w0 N s.s.ss η a w → Rel M F w0 N K Q → c.wp P Q a w := by
  intro c
  induction c with
  | skip => intro K Q s η a w h hu hS hK; exact wp_skip (hK .normal s η a w h hu hS)
  | region id ops draw =>
    intro K Q s η a w h hu hS hK
    unfold vc at h
    split at h
    · exact regV_ok hm h hu hS hK
    · rename_i ss s' _
      obtain ⟨h1, h2⟩ := pre_ok h
      exact regV_ok (s := ⟨s', s.ch, s.last⟩) hm h2 (Unb.conv h1) (hS.conv h1) hK
  | seq x y ihx ihy =>
    intro K Q s η a w h hu hS hK
    refine wp_seq (ihx _ _ s η a w h hu hS fun e s' η' a' w' h' hu' hS' => ?_)
    cases e with
    | normal => exact ihy K Q s' η' a' w' h' hu' hS' hK
    | exit id => exact hK (.exit id) s' η' a' w' h' hu' hS'
    | ret => exact hK .ret s' η' a' w' h' hu' hS'
  | cond c x y ihx ihy =>
    intro K Q s η a w h hu hS hK
    unfold vc at h
    split at h
    · rename_i t hc
      have hev : a.eval c = .bool t := by
        cases c with
        | tmp k =>
          have := hS.sl k
          have e : (lk SV.any s.s.fr k) = .ex (.bool t) := hc
          have this : (lk SV.any s.s.fr k).R _ _ _ _ := this
          rw [e] at this
          exact this
        | const v => simp only [opd, SV.ex.injEq] at hc; exact hc
        | global g => cases hc
        | func f => cases hc
      split at h
      · obtain ⟨rfl, h⟩ := h
        exact wp_cond_true hev (ihx K Q s η a w h hu hS hK)
      · obtain ⟨rfl, h⟩ := h
        exact wp_cond_false hev (ihy K Q s η a w h hu hS hK)
      · exact wp_cond_split hev (fun ht => ihx K Q s η a w (h.1 ht) hu hS hK) fun ht => ihy K Q s η a w (h.2 ht) hu hS hK
    · exact h.elim
  | block id c ih =>
    intro K Q s η a w h hu hS hK
    refine wp_block (ih _ _ s η a w h hu hS fun e s' η' a' w' h' hu' hS' => ?_)
    cases e with
    | normal => exact hK .normal s' η' a' w' h' hu' hS'
    | exit i =>
      show (if i = id then Q .normal a' w' else Q (.exit i) a' w')
      have h' : (if i = id then K .normal s' else K (.exit i) s') := h'
      split at h'
      · rename_i e; rw [if_pos e]; exact hK .normal s' η' a' w' h' hu' hS'
      · rename_i e; rw [if_neg e]; exact hK (.exit i) s' η' a' w' h' hu' hS'
    | ret => exact hK .ret s' η' a' w' h' hu' hS'
  | loop c ih =>
    intro K Q s η a w h hu hS hK
    unfold vc at h
    split at h
    · rename_i id G inv mu st s0 s1 ch _
      obtain ⟨⟨g0, h0⟩, hr⟩ := h
      obtain ⟨c0, i0⟩ := pre_ok h0
      refine wp_loop_ghost (fun n a w => ∃ g η, mu g = n ∧ inv g ∧ Unb (st g) ∧ Sat M F w0 N (st g).ss η a w) (mu g0) ⟨g0, _, rfl, i0, Unb.conv c0, hS.conv c0⟩ ?_
      rintro n a' w' ⟨g, η', rfl, hi, hug, hSg⟩
      refine ih _ _ ⟨st g, ch g ++ s.ch, s.last⟩ η' a' w' (hr g hi) hug hSg fun e s' η2 a2 w2 h' hu' hS' => ?_
      cases e with
      | normal =>
        obtain ⟨g', hg⟩ := h'
        obtain ⟨c1, i1, i2⟩ := pre_ok hg
        exact ⟨mu g', i2, g', _, rfl, i1, Unb.conv c1, hS'.conv c1⟩
      | exit id => exact hK (.exit id) s' η2 a2 w2 h' hu' hS'
      | ret => exact hK .ret s' η2 a2 w2 h' hu' hS'
    · exact h.elim
  | exit id => intro K Q s η a w h hu hS hK; exact wp_exit (hK (.exit id) s η a w h hu hS)
  | ret => intro K Q s η a w h hu hS hK; exact wp_ret (hK .ret s η a w h hu hS)
  | _ => intro _ _ _ _ _ _ h; exact h.elim
end
/-- no own block in it -/
def SV.no : SV → List Prop
  | .own .. | .ref .. => [False]
  | .sl _ E n => [∀ i, i < n → conj (E i).no]
  | .ep a => a.no
  | .cn a b => a.no ++ b.no
  | .agg l => l.no
  | .opt _ a => a.no
  | _ => []
def noAll : List SV → List Prop
  | [] => []
  | a :: l => a.no ++ noAll l
def startF : Nat → List SV → List (Nat × SV)
  | _, [] => []
  | i, a :: l => (i, a) :: startF (i + 1) l
def rvF (tmps : Array Value) : ResultVar → Sem Value
  | .tmp t => pure (tmps.getD t undef)
  | .cell a t => do loadVar t (← asAddr (tmps.getD a undef))
def resSV (P : Program) (s : Stt) : ResultVar → Option SV
  | .tmp t => some (lk .any s.fr t)
  | .cell t T => match lk SV.any s.fr t, tyNK P T with
    | .own k i, some (n, kk) => match (lk Hl.unborn s.own k).gs i with
      | (ob, []) => match readO n kk ob 0 0 0 with
        | some (a, []) => some a
        | _ => none
      | _ => none
    | _, _ => none
def lstSV : List SV → SV
  | [] => .nl
  | a :: l => .cn a (lstSV l)
def retSV (P : Program) (s : Stt) (rs : List ResultVar) : Option SV := match rs with
  | [r] => resSV P s r
  | [] => some .nl
  | [r1, r2] => match resSV P s r1, resSV P s r2 with
    | some a, some b => some (lstSV [a, b])
    | _, _ => none
  | [r1, r2, r3] => match resSV P s r1, resSV P s r2, resSV P s r3 with
    | some a, some b, some c => some (lstSV [a, b, c])
    | _, _, _ => none
  | _ => none
def retV (P : Program) (fn : Func) (R : SV) (news : List Hl) (s : HS) : Prop := match retSV P s.s fn.results.toList with
  | some a => conj (conv (fRet s.ch s.last) ⟨[(0, a)], s.s.own, s.s.nx⟩ ⟨[(0, R)], newsL 0 news, news.length⟩)
  | none => False
def retK (P : Program) (fn : Func) (R : SV) (news : List Hl) : Ex → HS → Prop
  | .exit _, _ => False
  | _, s => retV P fn R news s
section
variable {P : Program} {M F : Nat → Prop} {w0 w : World} {N : Nat} {η η' : Eta} {A : Nat → Prop}
theorem SV.no_ok : ∀ (a : SV) (v : Value), conj a.no → a.R η A w v → a.R η' A w v := by
  intro a
  induction a with
  | own k i => intro _ h; exact h.elim
  | ref k i s j off => intro _ h; exact h.elim
  | sl s E n ih =>
    rintro v h ⟨A0, c, e, h1, h2, h3, k⟩
    refine ⟨A0, c, e, h1, h2, h3, fun i hi => ?_⟩
    obtain ⟨g, o, e1, e2, e3, e0, e4, e5, e6⟩ := k i hi
    exact ⟨g, o, e1, e2, e3, e0, e4, ih i _ (h i hi) e5, e6⟩
  | ep a ih =>
    rintro v h ⟨g, o, e1, e2, e3, e0, e5, e6⟩
    exact ⟨g, o, e1, e2, e3, e0, ih _ h e5, e6⟩
  | cn a b iha ihb =>
    rintro v h ⟨x, xs, e, h1, h2⟩
    obtain ⟨n1, n2⟩ := conj_append h
    exact ⟨x, xs, e, iha _ n1 h1, ihb _ n2 h2⟩
  | agg l ih =>
    rintro v h ⟨vs, e, h1⟩
    exact ⟨vs, e, ih _ h h1⟩
  | opt c a ih =>
    rintro v h ⟨h1, h2⟩
    exact ⟨fun hc => ih _ h (h1 hc), h2⟩
  | any => intro _ _ _; trivial
  | _ => intro _ _ h; exact h
theorem resSV_ok {s : Stt} {r : ResultVar} {c : SV} {a : Act} (h : resSV P s r = some c) (hS : Sat M F w0 N s.ss η a w) : ∃ v, (rvF a.tmps r).run P w = .ok v w ∧ c.R η (Av F (lk .unborn s.own) η) w v := by
  cases r with
  | tmp t => obtain rfl := Option.some.inj h; exact ⟨_, rfl, hS.sl t⟩
  | cell t T =>
    unfold resSV at h
    simp only at h
    split at h
    · rename_i k i n kk hl hT
      split at h
      · rename_i ob hg
        split at h
        · rename_i a' hr
          obtain rfl := Option.some.inj h
          have hv := hS.sl t
          have hv : (lk SV.any s.fr t).R η _ w (a.tmps.getD t undef) := hv
          rw [hl] at hv
          cases ob with
          | none => cases hr
          | some ob =>
            have hob := gs_conj hg trivial
            obtain ⟨hd, he, hok⟩ := hS.hp.ob k i ob hob
            obtain ⟨b, oo, u, e1, e2, e3, e4, e5, e6⟩ := readO_ok (a := .own k i) rfl hr hv he hok trivial
            refine ⟨u, ?_, e4⟩
            have := load_at (P := P) hT e5 e6
            show (do loadVar T (← asAddr (a.tmps.getD t undef)) : Sem Value).run P w = _
            rw [e1]
            simpa [Instr.loadAt, Instr.sureAddr, Sem.run_bind, asAddr] using this
        · cases h
      · cases h
    · cases h
theorem retSV_ok {s : Stt} {fn : Func} {c : SV} {a : Act} (h : retSV P s fn.results.toList = some c) (hS : Sat M F w0 N s.ss η a w) : ∃ v, (results fn a.tmps).run P w = .ok v w ∧ c.R η (Av F (lk .unborn s.own) η) w v := by
  have hres : results fn a.tmps = (do
    let vs ← fn.results.mapM (rvF a.tmps)
    pure (if h : vs.size = 1 then vs[0] else .tuple vs)) := by
      unfold results
      congr 1
  unfold retSV at h
  split at h
  · rename_i r hr
    have hr : fn.results = #[r] := by rw [← Array.toList_inj]; exact hr
    obtain ⟨v, h1, h2⟩ := resSV_ok h hS
    exact ⟨v, by rw [hres, hr]; simp [h1], h2⟩
  · rename_i hr
    have hr : fn.results = #[] := by rw [← Array.toList_inj]; exact hr
    obtain rfl := Option.some.inj h
    exact ⟨.tuple #[], by rw [hres, hr]; simp, rfl⟩
  · rename_i r1 r2 hr
    have hr : fn.results = #[r1, r2] := by rw [← Array.toList_inj]; exact hr
    split at h
    · rename_i c1 c2 q1 q2
      obtain rfl := Option.some.inj h
      obtain ⟨v1, h1, h2⟩ := resSV_ok q1 hS
      obtain ⟨v2, h3, h4⟩ := resSV_ok q2 hS
      exact ⟨.tuple #[v1, v2], by rw [hres, hr]; simp [h1, h3], v1, [v2], rfl, h2, v2, [], rfl, h4, rfl⟩
    · cases h
  · rename_i r1 r2 r3 hr
    have hr : fn.results = #[r1, r2, r3] := by rw [← Array.toList_inj]; exact hr
    split at h
    · rename_i c1 c2 c3 q1 q2 q3
      obtain rfl := Option.some.inj h
      obtain ⟨v1, h1, h2⟩ := resSV_ok q1 hS
      obtain ⟨v2, h3, h4⟩ := resSV_ok q2 hS
      obtain ⟨v3, h5, h6⟩ := resSV_ok q3 hS
      exact ⟨.tuple #[v1, v2, v3], by rw [hres, hr]; simp [h1, h3, h5], v1, [v2, v3], rfl, h2, v2, [v3], rfl, h4, v3, [], rfl, h6, rfl⟩
    · cases h
  · cases h
theorem newsL_lk : ∀ (l : List Hl) (nx k : Nat), lk Hl.unborn (newsL nx l) k = ownsOf nx l k
  | [], nx, k => by
    unfold ownsOf
    split <;> rfl
  | c :: l, nx, k => by
    show (if k = nx then c else lk Hl.unborn (newsL (nx + 1) l) k) = _
    split
    · rename_i e
      subst e
      unfold ownsOf
      rw [if_pos (Nat.le_refl _), Nat.sub_self]; rfl
    · rename_i e
      rw [newsL_lk l (nx + 1)]
      unfold ownsOf
      by_cases h : nx + 1 ≤ k
      · rw [if_pos h, if_pos (by omega), show k - nx = (k - (nx + 1)) + 1 by omega]; rfl
      · rw [if_neg h]
        split
        · omega
        · rfl
theorem startF_lk : ∀ (l : List SV) (i t : Nat), lk SV.any (startF i l) t = if i ≤ t then l.getD (t - i) .any else .any
  | [], i, t => by split <;> rfl
  | a :: l, i, t => by
    show (if t = i then a else lk SV.any (startF (i + 1) l) t) = _
    split
    · rename_i e
      subst e
      rw [if_pos (Nat.le_refl _), Nat.sub_self]; rfl
    · rename_i e
      rw [startF_lk l (i + 1)]
      by_cases h : i + 1 ≤ t
      · rw [if_pos h, if_pos (by omega), show t - i = (t - (i + 1)) + 1 by omega]; rfl
      · rw [if_neg h, if_neg (by omega)]
theorem argsR_get : ∀ (l : List SV) (vs : List Value), conj (noAll l) → ArgsR l η A w vs → vs.length = l.length ∧ ∀ i, (l.getD i .any).R η' A w (vs.getD i undef)
  | [], [], _, _ => ⟨rfl, fun i => trivial⟩
  | a :: l, v :: vs, hn, h => by
    obtain ⟨n1, n2⟩ := conj_append hn
    obtain ⟨h1, h2⟩ := argsR_get l vs n2 h.2
    refine ⟨by simp [h1], fun i => ?_⟩
    cases i with
    | zero => exact SV.no_ok _ _ n1 h.1
    | succ i => exact h2 i
  | [], _ :: _, _, h => h.elim
  | _ :: _, [], _, h => h.elim
/-- THE FUNCTION -/
theorem callOK_of {f : FuncId} {fn : Func} {c : Code} {As : List SV} {R : SV} {news : List Hl} {ch : List CE} (hm : P.follows .mixedOrders = true) (hf : P.funcs[f]? = some fn) (hb : fn.body = some c) (hn : (fn.name == "runtime.NumGoroutine") = false) (hl : decide (As.length ≤ fn.ntmps) = true)
    (h : pre (noAll As) (vc P fn.ntmps c (retK P fn R news) ⟨⟨startF 0 As, [], 0⟩, ch, 0⟩)) : CallOK P f As R news := by
  obtain ⟨hno, h⟩ := pre_ok h
  refine ⟨callable_of hf hb hn, fun η0 F w vals hF hA => ?_⟩
  obtain ⟨hlen, hR⟩ := argsR_get (η' := fun _ _ => none) As vals hno hA
  have hl : As.length ≤ fn.ntmps := by simpa using hl
  have hS : Sat (fun _ => False) F w fn.ntmps (Stt.ss ⟨startF 0 As, [], 0⟩) (fun _ _ => none) { tmps := vals.toArray ++ Array.replicate (fn.ntmps - vals.toArray.size) undef, defers := [] } w := by
    have hav : ∀ b, Av F (fun _ => Hl.unborn) (fun _ _ => none) b → F b := fun b hx => by
      rcases hx with hx | ⟨k, i, o, hd, h1, _⟩
      · exact hx
      · cases i <;> cases h1
    refine ⟨⟨ModM.refl _ _, fun k i o hk => ?_, fun k i o hd b hk => ?_, fun k i o k' i' o' hd hd' b hk => ?_, fun k _ i => rfl, hF⟩, fun t => ?_, ?_, rfl⟩
    · cases i <;> cases hk
    · cases i <;> cases hk
    · cases i <;> cases hk
    · show (lk SV.any (startF 0 As) t).R _ _ _ _
      rw [startF_lk, if_pos (Nat.zero_le _), Nat.sub_zero]
      rcases Nat.lt_or_ge t As.length with ht | ht
      · have := hR t
        have e : (vals.toArray ++ Array.replicate (fn.ntmps - vals.toArray.size) undef).getD t undef = vals.getD t undef := by
          simp only [getD_get ⟨_, []⟩, List.getD_eq_getElem?_getD]
          rw [Array.getElem?_append_left (by simp; omega)]
          simp
        show SV.R _ _ _ _ ((vals.toArray ++ Array.replicate (fn.ntmps - vals.toArray.size) undef).getD t undef)
        rw [e]
        exact SV.keep (Keep.weak fun g _ hg hx => hg (hav g hx)) _ _ this
      · rw [List.getD_eq_getElem?_getD, List.getElem?_eq_none ht]
        trivial
    · simp; omega
  refine calls_of_wp hf hb (vc_ok (M := fun _ => False) (F := F) (w0 := w) hm c _ _ _ _ _ _ h (fun k _ => rfl) hS fun e s η a w' hK hu hS' => ?_)
  have key : retV P fn R news s → a.defers = [] ∧ ∃ v, (results fn a.tmps).run P w' = .ok v w' ∧ ∃ v' η', Ending.returned v = .returned v' ∧ Hp (fun _ => False) F w (ownsOf 0 news) η' w' ∧ R.R η' (Av F (ownsOf 0 news) η') w' v' := fun hK => by
    unfold retV at hK
    split at hK
    · rename_i c0 hr
      obtain ⟨v, h1, h2⟩ := retSV_ok hr hS'
      have hS2 : Sat (fun _ => False) F w 1 (Stt.ss ⟨[(0, c0)], s.s.own, s.s.nx⟩) η ⟨#[v], []⟩ w' := ⟨hS'.hp, fun t => by
        show (if t = 0 then c0 else SV.any).R _ _ _ _
        split
        · rename_i e; subst e; exact h2
        · trivial, rfl, rfl⟩
      have hC := hS2.conv hK
      have he : (Stt.ss ⟨[(0, R)], newsL 0 news, news.length⟩).own = ownsOf 0 news := funext fun k => newsL_lk news 0 k
      refine ⟨hS'.dfr, v, h1, v, etaC (fRet s.ch s.last) η, rfl, ?_, ?_⟩
      · have := hC.hp
        rw [he] at this
        exact this
      · have := hC.sl 0
        rw [he] at this
        exact this
    · exact hK.elim
  cases e with
  | normal => exact key hK
  | exit id => exact hK.elim
  | ret => exact key hK
end
end Go.Proofs.Ytngghjhmfpmilaa
