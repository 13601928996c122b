/- The parts Red, Ht, Lin, SX, SW, DetI, SE, Ker, SE2, SE3, SF, SFS, SFC, Inv. -/
import Derived.Test.YtgighdoacajmfaaGreatQ5
set_option maxRecDepth 100000
namespace Go.Proofs.YtgighdoacajmfaaGreat
def leadK (B : Nat → Nat → Rat) (c : Nat) : Nat → Nat → Nat
 | a, 0 => a
 | a, d + 1 => if B a c = 0 then leadK B c (a + 1) d else a
theorem leadK_le {B : Nat → Nat → Rat} {c : Nat} : ∀ d a, a ≤ leadK B c a d ∧ leadK B c a d ≤ a + d
 | 0, a => ⟨Nat.le_refl a, Nat.le_refl a⟩
 | d + 1, a => by
  unfold leadK
  split
  ·have := leadK_le (B := B) (c := c) d (a + 1); omega
  ·omega
theorem leadK_at {B : Nat → Nat → Rat} {c : Nat} : ∀ d a, leadK B c a d < a + d → B (leadK B c a d) c ≠ 0
 | 0, a, h => absurd h (Nat.lt_irrefl a)
 | d + 1, a, h => by
  unfold leadK at h ⊢
  split
  ·rename_i e; rw [if_pos e] at h; exact leadK_at d (a + 1) zo
  ·assumption
theorem leadK_none {B : Nat → Nat → Rat} {c : Nat} : ∀ d a i, a ≤ i → i < leadK B c a d → B i c = 0
 | 0, a, i, h, h2 => absurd h2 (Nat.not_lt.2 h)
 | d + 1, a, i, h, h2 => by
  unfold leadK at h2
  split at h2
  ·rename_i e
   by_cases q : i = a
   ·rw [q]; exact e
   ·exact leadK_none d (a + 1) i zo h2
  ·omega
def scaleQ (B : Nat → Nat → Rat) (a c : Nat) : Nat → Nat → Rat := setR B a (fun j => (B a c)⁻¹ * B a j)
def clearQ (B : Nat → Nat → Rat) (a c : Nat) : Nat → Nat → Rat := fun r j => if r = a then B a j else B r j + -(B r c) * B a j
abbrev RedS := (Nat → Nat → Rat) × Nat × (Nat → Nat)
def redStep (m : Nat) (s : RedS) (c : Nat) : RedS :=
 if leadK s.1 c s.2.1 (m - s.2.1) < m then (clearQ (scaleQ (swapR s.1 s.2.1 (leadK s.1 c s.2.1 (m - s.2.1))) s.2.1 c) s.2.1 c, s.2.1 + 1, fun i => if i = s.2.1 then c else s.2.2 i) else s
def red (m : Nat) (A : Nat → Nat → Rat) : Nat → RedS
 | 0 => (A, 0, fun _ => 0)
 | c + 1 => redStep m (red m A c) c
def Spn (m : Nat) (B : Nat → Nat → Rat) (x : Nat → Rat) : Prop := ∃ t : Nat → Rat, ∀ j, x j = sumQ (fun k => t k * B k j) m
theorem Spn.self {m : Nat} {B : Nat → Nat → Rat} {r : Nat} (hr : r < m) : Spn m B (B r) := ⟨fun k => if k = r then 1 else 0, fun j => by
 rw [sumQ_one (k := r) m hr fun i _ hi => by show (if i = r then (1 : Rat) else 0) * B i j = 0; rw [if_neg hi]; grind]
 show B r j = (if r = r then (1 : Rat) else 0) * B r j
 rw [if_pos rfl]; grind⟩
theorem Spn.lin {m : Nat} {B : Nat → Nat → Rat} {x y : Nat → Rat} (s t : Rat) (hx : Spn m B x) (hy : Spn m B y) : Spn m B (fun j => s * x j + t * y j) := by
 obtain ⟨u, hu⟩ := hx
 obtain ⟨v, hv⟩ := hy
 refine ⟨fun k => s * u k + t * v k, fun j => ?_⟩
 show s * x j + t * y j = sumQ (fun k => (s * u k + t * v k) * B k j) m
 rw [hu, hv, ← sumQ_mul, ← sumQ_mul, ← sumQ_add]
 exact sumQ_congr m fun i _ => by grind
theorem Spn.sum {m p : Nat} {B : Nat → Nat → Rat} {X : Nat → Nat → Rat} {t : Nat → Rat} (h : ∀ k, k < p → Spn m B (X k)) : Spn m B (fun j => sumQ (fun k => t k * X k j) p) := by
 induction p with
 | zero => exact ⟨fun _ => 0, fun j => by show 0 = sumQ (fun k => 0 * B k j) m; rw [sumQ_congr m (g := fun _ => 0) fun i _ => by grind, sumQ_zero]⟩
 | succ p ih =>
  have h1 := Spn.lin 1 (t p) (ih fun k hk => h k zo) (h p zo)
  obtain ⟨u, hu⟩ := h1
  exact ⟨u, fun j => by rw [← hu]; show sumQ (fun k => t k * X k j) p + t p * X p j = _; grind⟩
theorem Spn.trans {m p : Nat} {B C : Nat → Nat → Rat} {x : Nat → Rat} (hx : Spn p C x) (h : ∀ k, k < p → Spn m B (C k)) : Spn m B x := by
 obtain ⟨t, ht⟩ := hx
 obtain ⟨u, hu⟩ := Spn.sum (t := t) h
 exact ⟨u, fun j => (ht j).trans (hu j)⟩
def Same2 (m : Nat) (A B : Nat → Nat → Rat) : Prop := (∀ r, r < m → Spn m B (A r)) ∧ ∀ r, r < m → Spn m A (B r)
theorem Same2.rfl {m : Nat} {A : Nat → Nat → Rat} : Same2 m A A := ⟨fun _ h => .self h, fun _ h => .self h⟩
theorem Same2.trans {m : Nat} {A B C : Nat → Nat → Rat} (h : Same2 m A B) (k : Same2 m B C) : Same2 m A C := ⟨fun r hr => (h.1 r hr).trans k.1, fun r hr => (k.2 r hr).trans h.2⟩
theorem same_swap {m : Nat} {A : Nat → Nat → Rat} {k l : Nat} (hk : k < m) (hl : l < m) : Same2 m A (swapR A k l) := by
 have h : ∀ r, r < m → (if r = k then l else if r = l then k else r) < m := fun r hr => by split; exact hl; split; exact hk; exact hr
 have inv : ∀ r, swapR A k l (if r = k then l else if r = l then k else r) = A r := fun r => by
  funext j
  show A (if (if r = k then l else if r = l then k else r) = k then l else if (if r = k then l else if r = l then k else r) = l then k else (if r = k then l else if r = l then k else r)) j = A r j
  congr 1
  repeat (first | split | omega)
 exact ⟨fun r hr => by rw [← inv r]; exact Spn.self (h r hr), fun r hr => Spn.self (B := A) (h r hr)⟩
theorem same_scale {m : Nat} {A : Nat → Nat → Rat} {a c : Nat} (ha : a < m) (h : A a c ≠ 0) : Same2 m A (scaleQ A a c) := by
 have e : ∀ r, r ≠ a → scaleQ A a c r = A r := fun r hr => by funext j; exact if_neg hr
 have e2 : ∀ j, scaleQ A a c a j = (A a c)⁻¹ * A a j := fun j => if_pos _root_.rfl
 constructor
 ·intro r hr
  by_cases q : r = a
  ·subst q
   obtain ⟨t, ht⟩ := Spn.lin (A r c) 0 (Spn.self (B := scaleQ A r c) hr) (Spn.self (B := scaleQ A r c) hr)
   refine ⟨t, fun j => ?_⟩
   rw [← ht]; dsimp only; rw [e2]
   have : A r c * (A r c)⁻¹ = 1 := Rat.mul_inv_cancel _ h
   grind
  ·rw [← e r q]; exact Spn.self hr
 ·intro r hr
  by_cases q : r = a
  ·subst q
   obtain ⟨t, ht⟩ := Spn.lin (A r c)⁻¹ 0 (Spn.self (B := A) hr) (Spn.self (B := A) hr)
   exact ⟨t, fun j => by rw [← ht]; dsimp only; rw [e2]; grind⟩
  ·rw [e r q]; exact Spn.self hr
theorem same_clear {m : Nat} {A : Nat → Nat → Rat} {a c : Nat} (ha : a < m) : Same2 m A (clearQ A a c) := by
 have e2 : clearQ A a c a = A a := by funext j; exact if_pos _root_.rfl
 have e : ∀ r, r ≠ a → ∀ j, clearQ A a c r j = A r j + -(A r c) * A a j := fun r hr j => if_neg hr
 constructor
 ·intro r hr
  by_cases q : r = a
  ·subst q
   have := Spn.self (B := clearQ A r c) hr
   rw [e2] at this; exact this
  ·obtain ⟨t, ht⟩ := Spn.lin 1 (A r c) (Spn.self (B := clearQ A a c) hr) (Spn.self (B := clearQ A a c) ha)
   exact ⟨t, fun j => by rw [← ht]; dsimp only; rw [e r q, e2]; grind⟩
 ·intro r hr
  by_cases q : r = a
  ·subst q; rw [e2]; exact Spn.self hr
  ·obtain ⟨t, ht⟩ := Spn.lin 1 (-(A r c)) (Spn.self (B := A) hr) (Spn.self (B := A) ha)
   exact ⟨t, fun j => by rw [← ht]; dsimp only; rw [e r q]; grind⟩
structure RedInv (m : Nat) (A : Nat → Nat → Rat) (c : Nat) (s : RedS) : Prop where
 am : s.2.1 ≤ m
 ac : s.2.1 ≤ c
 lt : ∀ i, i < s.2.1 → s.2.2 i < c
 inc : ∀ i j, i < j → j < s.2.1 → s.2.2 i < s.2.2 j
 one : ∀ i, i < s.2.1 → s.1 i (s.2.2 i) = 1
 zero : ∀ i, i < s.2.1 → ∀ r, r < m → r ≠ i → s.1 r (s.2.2 i) = 0
 left : ∀ i, i < s.2.1 → ∀ j, j < s.2.2 i → s.1 i j = 0
 low : ∀ r, s.2.1 ≤ r → r < m → ∀ j, j < c → s.1 r j = 0
 same : Same2 m A s.1
theorem red_inv (m : Nat) (A : Nat → Nat → Rat) : ∀ c, RedInv m A c (red m A c)
 | 0 => ⟨Nat.zero_le _, Nat.le_refl _, fun _ h => absurd h (Nat.not_lt_zero _), fun _ _ _ h => absurd h (Nat.not_lt_zero _), fun _ h => absurd h (Nat.not_lt_zero _), fun _ h => absurd h (Nat.not_lt_zero _), fun _ h => absurd h (Nat.not_lt_zero _), fun _ _ _ _ h => absurd h (Nat.not_lt_zero _), .rfl⟩
 | c + 1 => by
  have H := red_inv m A c
  show RedInv m A (c + 1) (redStep m (red m A c) c)
  generalize red m A c = s at H
  obtain ⟨B, a, L⟩ := s
  have h1 := leadK_le (B := B) (c := c) (m - a) a
  have hn := leadK_none (B := B) (c := c) (m - a) a
  have ha := leadK_at (B := B) (c := c) (m - a) a
  unfold redStep
  have am := H.am; have ac := H.ac
  simp only at am ac h1 hn ha ⊢
  generalize leadK B c a (m - a) = k at h1 hn ha
  by_cases hk : k < m
  ·rw [if_pos hk]
   have hp := ha zo
   have am' : a < m := by omega
   have hS : ∀ r j, swapR B a k r j = B (if r = a then k else if r = k then a else r) j := fun _ _ => rfl
   have p0 : swapR B a k a c ≠ 0 := by rw [hS, if_pos rfl]; exact hp
   have lowS : ∀ r, a ≤ r → r < m → ∀ j, j < c → swapR B a k r j = 0 := fun r h2 h3 j hj => by
    rw [hS]
    refine H.low _ ?_ ?_ j hj
    ·show a ≤ _; split; omega; split <;> omega
    ·split; omega; split <;> omega
   have topS : ∀ r, r < a → swapR B a k r = B r := fun r hr => by funext j; rw [hS, if_neg zo, if_neg zo]
   have zS : ∀ i, i < a → ∀ r, r < m → r ≠ i → swapR B a k r (L i) = 0 := fun i hi r hr hne => by
    rw [hS]
    refine H.zero i hi _ ?_ ?_
    ·split; omega; split <;> omega
    ·split; omega; split <;> omega
   have hC : ∀ r, r ≠ a → ∀ j, clearQ (scaleQ (swapR B a k) a c) a c r j = swapR B a k r j + -(swapR B a k r c) * ((swapR B a k a c)⁻¹ * swapR B a k a j) := fun r hr j => by
    show (if r = a then _ else (if r = a then _ else swapR B a k r j) + -(if r = a then _ else swapR B a k r c) * (if a = a then _ else _)) = _
    rw [if_neg hr, if_neg hr, if_neg hr, if_pos rfl]
   have hD : ∀ j, clearQ (scaleQ (swapR B a k) a c) a c a j = (swapR B a k a c)⁻¹ * swapR B a k a j := fun j => by
    show (if a = a then (if a = a then _ else _) else _) = _
    rw [if_pos rfl, if_pos rfl]
   have inv1 : (swapR B a k a c)⁻¹ * swapR B a k a c = 1 := Rat.inv_mul_cancel _ p0
   refine ⟨am', by show a + 1 ≤ c + 1; omega, fun i hi => ?_, fun i j hij hj => ?_, fun i hi => ?_, fun i hi r hr hne => ?_, fun i hi j hj => ?_, fun r h2 h3 j hj => ?_, ?_⟩
   ·show (if i = a then c else L i) < c + 1
    have hi : i < a + 1 := hi
    split
    ·omega
    ·have := H.lt i (show i < a by omega); simp only at this; omega
   ·show (if i = a then c else L i) < (if j = a then c else L j)
    have hj : j < a + 1 := hj
    rw [if_neg zo]
    split
    ·exact H.lt i (show i < a by omega)
    ·exact H.inc i j hij (show j < a by omega)
   ·show clearQ _ a c i (if i = a then c else L i) = 1
    have hi : i < a + 1 := hi
    by_cases q : i = a
    ·subst q; rw [if_pos rfl, hD]; exact inv1
    ·rw [if_neg q, hC i q, topS i zo, zS i zo a am' zo]
     have := H.one i (show i < a by omega); simp only at this
     rw [this]; grind
   ·show clearQ _ a c r (if i = a then c else L i) = 0
    have hi : i < a + 1 := hi
    by_cases q : i = a
    ·subst q
     rw [if_pos rfl, hC r hne]; grind
    ·rw [if_neg q]
     by_cases q2 : r = a
     ·subst q2; rw [hD, zS i zo r am' hne]; grind
     ·rw [hC r q2, zS i zo a am' zo, zS i zo r hr hne]; grind
   ·have hi : i < a + 1 := hi
    have hj : j < (if i = a then c else L i) := hj
    show clearQ _ a c i j = 0
    by_cases q : i = a
    ·subst q
     rw [if_pos rfl] at hj
     rw [hD, lowS i (Nat.le_refl i) am' j hj]; grind
    ·rw [if_neg q] at hj
     have h5 := H.lt i (show i < a by omega); simp only at h5
     have h6 := H.left i (show i < a by omega) j hj; simp only at h6
     rw [hC i q, lowS a (Nat.le_refl a) am' j zo, topS i zo, h6]; grind
   ·have h2 : a + 1 ≤ r := h2
    show clearQ _ a c r j = 0
    rw [hC r zo]
    by_cases q : j = c
    ·subst q; grind
    ·rw [lowS r zo h3 j zo, lowS a (Nat.le_refl a) am' j zo]; grind
   ·exact H.same.trans ((same_swap am' hk).trans ((same_scale am' p0).trans (same_clear am')))
  ·rw [if_neg hk]
   refine ⟨H.am, by show a ≤ c + 1; omega, fun i hi => Nat.lt_succ_of_lt (H.lt i hi), H.inc, H.one, H.zero, H.left, fun r h2 h3 j hj => ?_, H.same⟩
   by_cases q : j = c
   ·rw [q]; exact hn r h2 zo
   ·exact H.low r h2 h3 j zo
theorem sumQ_cut {f : Nat → Rat} {a : Nat} : ∀ m, a ≤ m → (∀ k, a ≤ k → k < m → f k = 0) → sumQ f m = sumQ f a
 | 0, h, _ => by rw [Nat.le_zero.1 h]
 | m + 1, h, hz => by
  by_cases e : a = m + 1
  ·rw [e]
  ·show sumQ f m + f m = _
   rw [sumQ_cut m zo (fun k h1 h2 => hz k h1 zo), hz m zo zo]; grind
theorem RedInv.row {m n : Nat} {A : Nat → Nat → Rat} {s : RedS} (H : RedInv m A n s) {r : Nat} (hr : r < m) : ∀ j, j < n → A r j = sumQ (fun k => A r (s.2.2 k) * s.1 k j) s.2.1 := by
 obtain ⟨t, ht⟩ := H.same.1 r hr
 have h1 : ∀ j, j < n → A r j = sumQ (fun k => t k * s.1 k j) s.2.1 := fun j hj => by
  rw [ht, sumQ_cut m H.am fun k h1 h2 => by rw [H.low k h1 h2 j hj]; grind]
 intro j hj
 rw [h1 j hj]
 refine sumQ_congr _ fun k hk => ?_
 have hl := H.lt k hk
 rw [h1 _ hl, sumQ_one (k := k) _ hk fun i hi hne => by rw [H.zero k hk i (Nat.lt_of_lt_of_le hi H.am) hne]; grind, H.one k hk]; grind
def cntL (a : Nat) (L : Nat → Nat) (c : Nat) : Nat := match a with
 | 0 => 0
 | a + 1 => if L a < c then a + 1 else cntL a L c
theorem cntL_le {L : Nat → Nat} {c : Nat} : ∀ a, cntL a L c ≤ a
 | 0 => Nat.le_refl 0
 | a + 1 => by
  unfold cntL
  split
  ·omega
  ·have := cntL_le (L := L) (c := c) a; omega
theorem cntL_lt {L : Nat → Nat} {c : Nat} : ∀ a, (∀ i j, i < j → j < a → L i < L j) → ∀ i, i < a → (i < cntL a L c ↔ L i < c)
 | 0, _, i, h => absurd h (Nat.not_lt_zero i)
 | a + 1, hm, i, h => by
  unfold cntL
  by_cases e : L a < c
  ·rw [if_pos e]
   refine ⟨fun _ => ?_, fun _ => h⟩
   by_cases q : i = a
   ·rw [q]; exact e
   ·exact Nat.lt_trans (hm i a zo zo) e
  ·rw [if_neg e]
   have ih := cntL_lt a (fun i j h1 h2 => hm i j h1 zo) (c := c)
   by_cases q : i = a
   ·subst q
    have : cntL i L c ≤ i := cntL_le i
    exact ⟨fun h2 => by omega, fun h2 => absurd h2 e⟩
   ·exact ih i zo
def kerQ (s : RedS) (c j : Nat) : Rat := (if j = c then 1 else 0) + sumQ (fun r => if s.2.2 r = j then - s.1 r c else 0) s.2.1
theorem RedInv.inj {m n : Nat} {A : Nat → Nat → Rat} {s : RedS} (H : RedInv m A n s) {i k : Nat} (hi : i < s.2.1) (hk : k < s.2.1) (e : s.2.2 i = s.2.2 k) : i = k := by
 rcases Nat.lt_trichotomy i k with h | h | h
 ·have := H.inc i k h hk; omega
 ·exact h
 ·have := H.inc k i h hi; omega
theorem RedInv.free {m n : Nat} {A : Nat → Nat → Rat} {s : RedS} (H : RedInv m A n s) (hn : s.2.1 < n) : ∃ c, c < n ∧ ∀ i, i < s.2.1 → s.2.2 i ≠ c := by
 refine Classical.byContradiction fun hc => ?_
 have all : ∀ c, c < n → ∃ i, i < s.2.1 ∧ s.2.2 i = c := fun c hcn => Classical.byContradiction fun k => hc ⟨c, hcn, fun i hi e => k ⟨i, hi, e⟩⟩
 have key : ∀ c, c < n → c < s.2.1 ∧ s.2.2 c = c := by
  intro c
  induction c using Nat.strongRecOn with
  | _ c ih =>
   intro hcn
   obtain ⟨i, hi, e⟩ := all c hcn
   rcases Nat.lt_trichotomy i c with q | q | q
   ·have := (ih i q zo).2; omega
   ·subst q; exact ⟨hi, e⟩
   ·have h1 := H.inc c i q hi
    by_cases c0 : c = 0
    ·omega
    ·have h2 := (ih (c - 1) zo zo).2
     have h3 := H.inc (c - 1) c zo zo
     omega
 have := (key s.2.1 hn).1
 omega
theorem cntL_eq {a x : Nat} {L : Nat → Nat} {c : Nat} (hm : ∀ i j, i < j → j < a → L i < L j) (hx : x ≤ a) (h : ∀ i, i < a → (i < x ↔ L i < c)) : cntL a L c = x := by
 have h1 := cntL_lt (c := c) a hm
 have h2 := cntL_le (L := L) (c := c) a
 rcases Nat.lt_trichotomy (cntL a L c) x with q | q | q
 ·have := (h1 _ zo).2 ((h _ zo).1 q); omega
 ·exact q
 ·have := (h x zo).2 ((h1 x zo).1 q); omega
def htq (q : Rat) : Nat := max (nw q.num.natAbs) (nw q.den)
theorem ht_sz (q : Rat) : htq q ≤ szq q := by unfold htq szq; omega
theorem sz_ht (q : Rat) : szq q ≤ 2 * htq q := by unfold htq szq; omega
theorem ht_divInt (a b : Int) (hb : b ≠ 0) : htq (Rat.divInt a b) ≤ max (nw a.natAbs) (nw b.natAbs) := by
 unfold htq
 rw [new_den a b hb, new_num a b hb]
 have e : ∀ (s : Bool) (x : Nat), (signed s x).natAbs = x := fun s x => by cases s <;> simp [signed]
 rw [e]
 have h1 := nw_mono' (Nat.div_le_self a.natAbs (Nat.gcd a.natAbs b.natAbs))
 have h2 := nw_mono' (Nat.div_le_self b.natAbs (Nat.gcd a.natAbs b.natAbs))
 omega
theorem ht_mul (p q : Rat) : htq (p * q) ≤ htq p + htq q := by
 rw [mul_as]
 have h := ht_divInt (p.num * q.num) ((p.den * q.den : Nat) : Int) (den2_ne p q)
 rw [Int.natAbs_mul, Int.natAbs_natCast] at h
 have h1 := nw_mul p.num.natAbs q.num.natAbs
 have h2 := nw_mul p.den q.den
 unfold htq at *
 omega
theorem ht_add (p q : Rat) : htq (p + q) ≤ htq p + htq q + 1 := by
 rw [add_as]
 have h := ht_divInt (p.num * q.den + q.num * p.den) ((p.den * q.den : Nat) : Int) (den2_ne p q)
 rw [Int.natAbs_natCast] at h
 have h0 := nw_mono' (natAbs_add_nat (p.num * q.den) (q.num * p.den))
 rw [Int.natAbs_mul, Int.natAbs_mul, Int.natAbs_natCast, Int.natAbs_natCast] at h0
 have h3 := nw_add (p.num.natAbs * q.den) (q.num.natAbs * p.den)
 have h4 := nw_mul p.num.natAbs q.den
 have h5 := nw_mul q.num.natAbs p.den
 have h2 := nw_mul p.den q.den
 unfold htq at *
 omega
theorem ht_neg (p : Rat) : htq (-p) = htq p := by unfold htq; rw [Rat.neg_num, Rat.neg_den, Int.natAbs_neg]
theorem ht_zero : htq 0 = 1 := by decide +kernel
theorem ht_one : htq 1 = 1 := by decide +kernel
theorem ht_inv (p : Rat) : htq p⁻¹ ≤ htq p := by
 by_cases h : p = 0
 ·rw [h, Rat.inv_zero]; exact Nat.le_refl _
 ·rw [Rat.inv_def]
  have h1 : p.num ≠ 0 := fun e => h (Rat.num_eq_zero.1 e)
  have := ht_divInt p.den p.num h1
  rw [Int.natAbs_natCast] at this
  unfold htq at *
  omega
theorem ht_dot {a b : Nat → Rat} {S T : Nat} : ∀ n, (∀ i, i < n → htq (a i) ≤ S) → (∀ i, i < n → htq (b i) ≤ T) → htq (dotQ a b n) ≤ n * (S + T + 1) + 1
 | 0, _, _ => by show htq 0 ≤ _; rw [ht_zero]; omega
 | n + 1, ha, hb => by
  have ih := ht_dot n (fun i hi => ha i zo) (fun i hi => hb i zo)
  have h1 := ht_add (dotQ a b n) (a n * b n)
  have h2 := ht_mul (a n) (b n)
  have h3 := ha n zo
  have h4 := hb n zo
  show htq (dotQ a b n + a n * b n) ≤ _
  rw [Nat.add_mul]
  omega
theorem ht_room {a b : Rat} {S : Nat} (ha : htq a ≤ S) (hb : htq b ≤ S) (hS : S ≤ 4294967296) : szq a + szq b ≤ 17179869184 := by
 have := sz_ht a
 have := sz_ht b
 omega
theorem ht_room2 {a b r : Rat} {S : Nat} (ha : htq a ≤ S) (hb : htq b ≤ S) (hr : htq r ≤ S) (hS : S ≤ 1073741824) : szq r + szq b ≤ 17179869184 ∧ szq a + szq (r * b) ≤ 17179869184 := by
 have := sz_ht a
 have := sz_ht b
 have := sz_ht r
 have := sz_ht (r * b)
 have := ht_mul r b
 omega
def hE (s c : Nat) : Nat := (s + 1) * 4 ^ c
theorem hE_succ (s c : Nat) : hE s (c + 1) = 4 * hE s c := by unfold hE; rw [Nat.pow_succ, ← Nat.mul_assoc, Nat.mul_comm]
theorem hE_zero (s : Nat) : hE s 0 = s + 1 := by unfold hE; omega
theorem hE_mono {s c d : Nat} (h : c ≤ d) : hE s c ≤ hE s d := Nat.mul_le_mul_left _ (Nat.pow_le_pow_right (by decide) h)
theorem hE_top {s c d : Nat} (hc : c ≤ d) (t : Nat) (ht : (s + 1) * 4 ^ d ≤ t) : hE s c ≤ t := Nat.le_trans (hE_mono hc) ht
def HtB (m n B : Nat) (A : Nat → Nat → Rat) : Prop := ∀ i, i < m → ∀ j, j < n → htq (A i j) + 1 ≤ B
theorem HtB.swap {m n B k l : Nat} {A : Nat → Nat → Rat} (hk : k < m) (hl : l < m) (h : HtB m n B A) : HtB m n B (swapR A k l) := fun i hi j hj => by
 show htq (A (if i = k then l else if i = l then k else i) j) + 1 ≤ B
 refine h _ ?_ j hj
 split
 ·exact hl
 ·split
  ·exact hk
  ·exact hi
theorem HtB.scale {m n B a c : Nat} {A : Nat → Nat → Rat} (ha : a < m) (hc : c < n) (h : HtB m n B A) {j : Nat} (hj : j < n) : htq ((A a c)⁻¹ * A a j) + 2 ≤ 2 * B := by
 have h1 := h a ha c hc
 have h2 := h a ha j hj
 have h3 := ht_mul (A a c)⁻¹ (A a j)
 have h4 := ht_inv (A a c)
 omega
theorem HtB.clear {m n B a c : Nat} {A : Nat → Nat → Rat} (ha : a < m) (hc : c < n) (h : HtB m n B A) : HtB m n (4 * B) (clearQ (scaleQ A a c) a c) := fun i hi j hj => by
 have h1 := h.scale ha hc hj
 unfold clearQ scaleQ setR
 dsimp only
 rw [if_pos rfl]
 split
 ·omega
 ·have h2 := h i hi j hj
  have h3 := h i hi c hc
  have h4 := ht_add (A i j) (-(A i c) * ((A a c)⁻¹ * A a j))
  have h5 := ht_mul (-(A i c)) ((A a c)⁻¹ * A a j)
  rw [ht_neg] at h5
  omega
theorem red_ht {m n s : Nat} {A : Nat → Nat → Rat} (h : HtB m n (s + 1) A) : ∀ c, c ≤ n → HtB m n (hE s (red m A c).2.1) (red m A c).1
 | 0, _ => by show HtB m n (hE s 0) A; rw [hE_zero]; exact h
 | c + 1, hc => by
  have ih := red_ht h c zo
  have am := (red_inv m A c).am
  show HtB m n (hE s (redStep m (red m A c) c).2.1) (redStep m (red m A c) c).1
  generalize red m A c = S at ih am
  unfold redStep
  have h1 := leadK_le (B := S.1) (c := c) (m - S.2.1) S.2.1
  split
  ·rename_i hk
   show HtB m n (hE s (S.2.1 + 1)) (clearQ (scaleQ _ S.2.1 c) S.2.1 c)
   rw [hE_succ]
   exact HtB.clear zo zo (ih.swap zo hk)
  ·exact ih
theorem red_htT {m n s : Nat} {A : Nat → Nat → Rat} (h : HtB m n (s + 1) A) {d : Nat} (hd : m ≤ d ∨ n ≤ d) (t : Nat) (ht : (s + 1) * 4 ^ d ≤ t) (c : Nat) (hc : c ≤ n) : HtB m n t (red m A c).1 := fun i hi j hj =>
 Nat.le_trans (red_ht h c hc i hi j hj) (hE_top (by have := (red_inv m A c).am; have := (red_inv m A c).ac; omega) t ht)
structure RowFn (n : Nat) (G : (Nat → Nat → Rat) → Rat) : Prop where
 cong : ∀ A B, (∀ i, i < n → ∀ j, j < n → A i j = B i j) → G A = G B
 swap : ∀ A k l, k < n → l < n → k ≠ l → G (swapR A k l) = - G A
 mul : ∀ A r t, r < n → G (setR A r (fun j => t * A r j)) = t * G A
 add : ∀ A r k t, r < n → k < n → r ≠ k → G (setR A r (fun j => A r j + t * A k j)) = G A
theorem rowFn_cdet (n : Nat) : RowFn n (cdet n) := ⟨fun _ _ h => cdet_congr n h, fun A _ _ hk hl h => cdet_swap A hk hl h, fun A _ t hr => cdet_mulR A t hr, fun A _ _ t hr hk h => cdet_addR A t hr hk h⟩
def mulM (n : Nat) (A Y : Nat → Nat → Rat) : Nat → Nat → Rat := fun i j => sumQ (fun t => A i t * Y t j) n
theorem mulM_set {n : Nat} {A Y : Nat → Nat → Rat} {r : Nat} {x : Nat → Rat} : mulM n (setR A r x) Y = setR (mulM n A Y) r (fun j => sumQ (fun t => x t * Y t j) n) := by
 funext i j
 unfold mulM setR
 by_cases h : i = r
 ·simp only [if_pos h]
 ·simp only [if_neg h]
theorem rowFn_mul (n : Nat) (Y : Nat → Nat → Rat) : RowFn n fun A => cdet n (mulM n A Y) where
 cong A B h := cdet_congr n fun i hi j _ => sumQ_congr n fun t ht => by rw [h i hi t ht]
 swap A k l hk hl h := cdet_swap (mulM n A Y) hk hl h
 mul A r t hr := by
  show cdet n (mulM n (setR A r fun j => t * A r j) Y) = t * cdet n (mulM n A Y)
  rw [mulM_set, ← cdet_mulR (mulM n A Y) t hr]
  refine cdet_congr n fun i _ j _ => ?_
  unfold setR
  split
  ·show sumQ _ n = t * sumQ _ n
   rw [← sumQ_mul]
   exact sumQ_congr n fun i _ => by grind
  ·rfl
 add A r k t hr hk h := by
  show cdet n (mulM n (setR A r fun j => A r j + t * A k j) Y) = cdet n (mulM n A Y)
  rw [mulM_set, ← cdet_addR (mulM n A Y) t hr hk h]
  refine cdet_congr n fun i _ j _ => ?_
  unfold setR
  split
  ·show sumQ _ n = sumQ _ n + t * sumQ _ n
   rw [← sumQ_mul, ← sumQ_add]
   exact sumQ_congr n fun i _ => by grind
  ·rfl
def clrP (B : Nat → Nat → Rat) (a c h : Nat) : Nat → Nat → Rat := fun r j => if r < h ∧ r ≠ a then B r j + -(B r c) * B a j else B r j
theorem clr_fn {n : Nat} {G : (Nat → Nat → Rat) → Rat} (H : RowFn n G) {B : Nat → Nat → Rat} {a c : Nat} (ha : a < n) : ∀ h, h ≤ n → G (clrP B a c h) = G B
 | 0, _ => congrArg G (by funext r j; exact if_neg fun h => absurd h.1 (Nat.not_lt_zero r))
 | h + 1, hn => by
  refine Eq.trans ?_ (clr_fn H (c := c) ha h zo)
  have ea : clrP B a c h a = B a := by funext j; exact if_neg fun h => h.2 rfl
  by_cases e : h = a
  ·congr 1
   funext r j
   unfold clrP
   by_cases q : r < h ∧ r ≠ a
   ·rw [if_pos q, if_pos ⟨by omega, q.2⟩]
   ·rw [if_neg q, if_neg zo]
  ·have eh : clrP B a c h h = B h := by funext j; exact if_neg fun h => absurd h.1 (Nat.lt_irrefl _)
   rw [← H.add (clrP B a c h) h a (-(B h c)) zo ha e]
   congr 1
   funext r j
   show _ = (if r = h then clrP B a c h h j + -(B h c) * clrP B a c h a j else clrP B a c h r j)
   rw [ea, eh]
   unfold clrP
   by_cases q : r = h
   ·subst q; rw [if_pos ⟨by omega, e⟩, if_pos rfl]
   ·rw [if_neg q]
    by_cases q2 : r < h ∧ r ≠ a
    ·rw [if_pos q2, if_pos ⟨by omega, q2.2⟩]
    ·rw [if_neg q2, if_neg zo]
theorem clear_fn {n : Nat} {G : (Nat → Nat → Rat) → Rat} (H : RowFn n G) {B : Nat → Nat → Rat} {a c : Nat} (ha : a < n) : G (clearQ B a c) = G B := by
 rw [← clr_fn H ha n (Nat.le_refl n) (B := B) (c := c)]
 refine H.cong _ _ fun i hi j _ => ?_
 unfold clearQ clrP
 by_cases e : i = a
 ·rw [if_pos e, if_neg fun h => h.2 e, e]
 ·rw [if_neg e, if_pos ⟨hi, e⟩]
theorem rat_mul_ne {x y : Rat} (hx : x ≠ 0) (hy : y ≠ 0) : x * y ≠ 0 := fun h => (Rat.mul_eq_zero.1 h).elim hx hy
theorem red_fn {n : Nat} {A : Nat → Nat → Rat} : ∀ c, c ≤ n → ∃ u : Rat, u ≠ 0 ∧ ∀ G, RowFn n G → G A = u * G (red n A c).1
 | 0, _ => ⟨1, by decide, fun G _ => by show G A = 1 * G A; grind⟩
 | c + 1, hc => by
  obtain ⟨u, hu, hG⟩ := red_fn (n := n) (A := A) c zo
  have am := (red_inv n A c).am
  show ∃ u : Rat, u ≠ 0 ∧ ∀ G, RowFn n G → G A = u * G (redStep n (red n A c) c).1
  generalize red n A c = s at hG am
  unfold redStep
  have h1 := leadK_le (B := s.1) (c := c) (n - s.2.1) s.2.1
  have h2 := leadK_at (B := s.1) (c := c) (n - s.2.1) s.2.1
  generalize leadK s.1 c s.2.1 (n - s.2.1) = k at h1 h2
  by_cases hk : k < n
  ·rw [if_pos hk]
   have ha : s.2.1 < n := by omega
   have hp : swapR s.1 s.2.1 k s.2.1 c ≠ 0 := by
    show s.1 (if s.2.1 = s.2.1 then k else _) c ≠ 0
    rw [if_pos rfl]; exact h2 zo
   have hsw : ∃ v : Rat, v ≠ 0 ∧ ∀ G, RowFn n G → G s.1 = v * G (swapR s.1 s.2.1 k) := by
    by_cases e : s.2.1 = k
    ·refine ⟨1, by decide, fun G _ => ?_⟩
     have : swapR s.1 s.2.1 k = s.1 := by
      funext i j
      show s.1 (if i = s.2.1 then k else if i = k then s.2.1 else i) j = s.1 i j
      by_cases e1 : i = s.2.1
      ·rw [if_pos e1, e1, e]
      ·rw [if_neg e1]
       by_cases e2 : i = k
       ·rw [if_pos e2, e2, e]
       ·rw [if_neg e2]
     rw [this]; grind
    ·exact ⟨-1, by decide, fun G H => by rw [H.swap _ _ _ ha hk e]; grind⟩
   obtain ⟨v, hv, hS⟩ := hsw
   refine ⟨u * v * swapR s.1 s.2.1 k s.2.1 c, ?_, fun G H => ?_⟩
   ·exact rat_mul_ne (rat_mul_ne hu hv) hp
   ·show G A = _ * G (clearQ (scaleQ (swapR s.1 s.2.1 k) s.2.1 c) s.2.1 c)
    rw [clear_fn H ha, hG G H, hS G H]
    unfold scaleQ
    rw [H.mul _ _ _ ha]
    have := Rat.mul_inv_cancel _ hp
    grind
  ·rw [if_neg hk]
   exact ⟨u, hu, hG⟩
def idM (i j : Nat) : Rat := if i = j then 1 else 0
theorem cdet_id : ∀ n, cdet n idM = 1
 | 0 => rfl
 | n + 1 => by
  rw [cdet_col0 fun i h _ => if_neg zo, cdet_congr n (B := idM) fun i _ j _ => by
   show (if 1 + i = 1 + j then (1 : Rat) else 0) = if i = j then 1 else 0
   by_cases e : i = j
   ·rw [if_pos e, if_pos zo]
   ·rw [if_neg e, if_neg zo], cdet_id n]
  show (1 : Rat) * 1 = 1
  grind
theorem RedInv.lead_ge {m n : Nat} {A : Nat → Nat → Rat} {s : RedS} (H : RedInv m A n s) : ∀ i, i < s.2.1 → i ≤ s.2.2 i
 | 0, _ => Nat.zero_le _
 | i + 1, h => by
  have := H.lead_ge i zo
  have := H.inc i (i + 1) zo h
  omega
theorem RedInv.lead_le {m n : Nat} {A : Nat → Nat → Rat} {s : RedS} (H : RedInv m A n s) : ∀ d i, i + d + 1 = s.2.1 → s.2.2 i + d < n
 | 0, i, h => H.lt i zo
 | d + 1, i, h => by
  have := H.lead_le d (i + 1) zo
  have := H.inc i (i + 1) zo zo
  omega
theorem RedInv.lead_eq {m n : Nat} {A : Nat → Nat → Rat} {s : RedS} (H : RedInv m A n s) (e : s.2.1 = n) {i : Nat} (hi : i < n) : s.2.2 i = i := by
 have h1 := H.lead_ge i zo
 have h2 := H.lead_le (n - 1 - i) i zo
 omega
theorem red_full {n : Nat} {A : Nat → Nat → Rat} (e : (red n A n).2.1 = n) : ∀ i, i < n → ∀ j, j < n → (red n A n).1 i j = idM i j := fun i hi j hj => by
 have H := red_inv n A n
 have hl := H.lead_eq e hj
 unfold idM
 by_cases q : i = j
 ·subst q
  rw [if_pos rfl]
  have := H.one i zo
  rw [hl] at this; exact this
 ·rw [if_neg q]
  have := H.zero j zo i hi q
  rw [hl] at this; exact this
theorem red_sing {n : Nat} {A : Nat → Nat → Rat} (e : (red n A n).2.1 < n) {G : (Nat → Nat → Rat) → Rat} (H : RowFn n G) : G (red n A n).1 = 0 := by
 have hz : ∀ j, j < n → (red n A n).1 (n - 1) j = 0 := fun j hj => (red_inv n A n).low (n - 1) zo zo j hj
 have h := H.mul (red n A n).1 (n - 1) 0 zo
 rw [H.cong (setR (red n A n).1 (n - 1) fun j => 0 * (red n A n).1 (n - 1) j) (red n A n).1 fun i _ j hj => by
  unfold setR
  split
  ·rename_i q; rw [q, hz j hj]; grind
  ·rfl] at h
 rw [h]; grind
theorem red_le (n : Nat) (A : Nat → Nat → Rat) : (red n A n).2.1 ≤ n := (red_inv n A n).am
theorem det_lead {n : Nat} {A : Nat → Nat → Rat} : cdet n A = 0 ↔ (red n A n).2.1 < n := by
 obtain ⟨u, hu, hG⟩ := red_fn (n := n) (A := A) n (Nat.le_refl n)
 constructor
 ·intro h
  refine Nat.lt_of_le_of_ne (red_le n A) fun e => ?_
  have h1 := hG _ (rowFn_cdet n)
  rw [h, cdet_congr n (red_full e), cdet_id] at h1
  exact hu (by grind)
 ·intro h
  rw [hG _ (rowFn_cdet n), red_sing h (rowFn_cdet n)]; grind
theorem det_mul (n : Nat) (A Y : Nat → Nat → Rat) : cdet n (mulM n A Y) = cdet n A * cdet n Y := by
 obtain ⟨u, hu, hG⟩ := red_fn (n := n) (A := A) n (Nat.le_refl n)
 have h1 := hG _ (rowFn_cdet n)
 have h2 := hG _ (rowFn_mul n Y)
 rw [h1, h2]
 by_cases e : (red n A n).2.1 = n
 ·rw [(rowFn_mul n Y).cong _ _ (red_full e), cdet_congr n (red_full e), cdet_id, cdet_congr n (A := mulM n idM Y) (B := Y) fun i hi j _ => by
   unfold mulM
   rw [sumQ_one (k := i) n hi fun t _ ht => by unfold idM; rw [if_neg (Ne.symm ht)]; grind]
   unfold idM; rw [if_pos rfl]; grind]
  grind
 ·have := red_le n A
  rw [red_sing zo (rowFn_mul n Y), red_sing zo (rowFn_cdet n)]; grind
theorem leadK_cong {B B' : Nat → Nat → Rat} {c : Nat} (h : ∀ r, B r c = B' r c) : ∀ d a, leadK B c a d = leadK B' c a d
 | 0, _ => rfl
 | d + 1, a => by unfold leadK; rw [h a, leadK_cong h d (a + 1)]
theorem red_cong {m n : Nat} {A A' : Nat → Nat → Rat} (h : ∀ r j, j < n → A r j = A' r j) : ∀ c, c ≤ n → (red m A c).2 = (red m A' c).2 ∧ ∀ r j, j < n → (red m A c).1 r j = (red m A' c).1 r j
 | 0, _ => ⟨rfl, h⟩
 | c + 1, hc => by
  obtain ⟨h1, h2⟩ := red_cong (m := m) h c zo
  show (redStep m (red m A c) c).2 = (redStep m (red m A' c) c).2 ∧ ∀ r j, j < n → (redStep m (red m A c) c).1 r j = (redStep m (red m A' c) c).1 r j
  generalize red m A c = s at h1 h2
  generalize red m A' c = s' at h1 h2
  obtain ⟨B, t⟩ := s
  obtain ⟨B', t'⟩ := s'
  obtain rfl : t = t' := h1
  have h2 : ∀ r j, j < n → B r j = B' r j := h2
  unfold redStep
  rw [leadK_cong (fun r => h2 r c zo) (m - t.1) t.1]
  split
  ·refine ⟨rfl, fun r j hj => ?_⟩
   have hS : ∀ k r j, j < n → swapR B t.1 k r j = swapR B' t.1 k r j := fun k r j hj => h2 _ j hj
   have hC : ∀ k r j, j < n → scaleQ (swapR B t.1 k) t.1 c r j = scaleQ (swapR B' t.1 k) t.1 c r j := fun k r j hj => by
    unfold scaleQ setR
    dsimp only
    rw [hS k t.1 c zo, hS k t.1 j hj, hS k r j hj]
   show clearQ _ t.1 c r j = clearQ _ t.1 c r j
   unfold clearQ
   rw [hC _ t.1 j hj, hC _ r j hj, hC _ r c zo]
  ·exact ⟨rfl, h2⟩
def wideQ (n : Nat) (q : Nat → Nat → Rat) (b : Nat → Rat) : Nat → Nat → Rat := fun r j => if j < n then q r j else b r
theorem wideQ_lt {n : Nat} {q : Nat → Nat → Rat} {b : Nat → Rat} {r j : Nat} (h : j < n) : wideQ n q b r j = q r j := if_pos h
theorem wideQ_n {n : Nat} {q : Nat → Nat → Rat} {b : Nat → Rat} {r : Nat} : wideQ n q b r n = b r := if_neg (Nat.lt_irrefl n)
theorem red_wide {m n : Nat} {q : Nat → Nat → Rat} {b : Nat → Rat} {c : Nat} (hc : c ≤ n) : (red m (wideQ n q b) c).2 = (red m q c).2 ∧ ∀ r j, j < n → (red m (wideQ n q b) c).1 r j = (red m q c).1 r j := red_cong (fun _ _ hj => wideQ_lt hj) c hc
def noSol (m n : Nat) (q : Nat → Nat → Rat) (b : Nat → Rat) : Prop := leadK (red m (wideQ n q b) n).1 n (red m (wideQ n q b) n).2.1 (m - (red m (wideQ n q b) n).2.1) < m
instance (m n : Nat) (q : Nat → Nat → Rat) (b : Nat → Rat) : Decidable (noSol m n q b) := inferInstanceAs (Decidable (_ < _))
theorem red_none {m n : Nat} {q : Nat → Nat → Rat} {b : Nat → Rat} (h : noSol m n q b) : (red m (wideQ n q b) (n + 1)).2.1 = (red m q n).2.1 + 1 ∧ (red m (wideQ n q b) (n + 1)).2.2 (red m q n).2.1 = n := by
 have h1 : red m (wideQ n q b) (n + 1) = redStep m (red m (wideQ n q b) n) n := rfl
 have h2 := (red_wide (m := m) (n := n) (q := q) (b := b) (Nat.le_refl n)).1
 unfold redStep at h1
 rw [if_pos (show leadK (red m (wideQ n q b) n).1 n (red m (wideQ n q b) n).2.1 (m - (red m (wideQ n q b) n).2.1) < m from h)] at h1
 rw [h1, h2]
 exact ⟨rfl, if_pos rfl⟩
theorem red_some {m n : Nat} {q : Nat → Nat → Rat} {b : Nat → Rat} (h : ¬ noSol m n q b) : red m (wideQ n q b) (n + 1) = red m (wideQ n q b) n := by
 have h1 : red m (wideQ n q b) (n + 1) = redStep m (red m (wideQ n q b) n) n := rfl
 unfold redStep at h1
 rw [if_neg (show ¬ leadK (red m (wideQ n q b) n).1 n (red m (wideQ n q b) n).2.1 (m - (red m (wideQ n q b) n).2.1) < m from h)] at h1
 exact h1
def solQ (s : RedS) (n j : Nat) : Rat := sumQ (fun r => if s.2.2 r = j then s.1 r n else 0) s.2.1
theorem solQ_lead {m c n : Nat} {A : Nat → Nat → Rat} {s : RedS} (H : RedInv m A c s) {k : Nat} (hk : k < s.2.1) : solQ s n (s.2.2 k) = s.1 k n := by
 unfold solQ
 rw [sumQ_one (k := k) _ hk fun i hi hne => if_neg fun e => hne (H.inj hi hk e), if_pos rfl]
theorem sol_sum {m n : Nat} {A : Nat → Nat → Rat} {s : RedS} (H : RedInv m A (n + 1) s) (hl : ∀ i, i < s.2.1 → s.2.2 i < n) {r : Nat} (hr : r < m) : sumQ (fun j => A r j * solQ s n j) n = A r n := by
 have e : ∀ j, j < n → A r j * solQ s n j = sumQ (fun k => if s.2.2 k = j then A r j * s.1 k n else 0) s.2.1 := fun j _ => by
  unfold solQ
  rw [← sumQ_mul]
  exact sumQ_congr _ fun k _ => by split <;> grind
 rw [sumQ_congr n e, sumQ_comm (fun j k => if s.2.2 k = j then A r j * s.1 k n else 0) s.2.1 n, H.row hr n zo]
 refine sumQ_congr _ fun k hk => ?_
 rw [sumQ_one (k := s.2.2 k) n (hl k hk) fun j _ hj => if_neg (Ne.symm hj), if_pos rfl]
theorem sol_ok {m n : Nat} {q : Nat → Nat → Rat} {b : Nat → Rat} (h : ¬ noSol m n q b) {r : Nat} (hr : r < m) : sumQ (fun j => q r j * solQ (red m (wideQ n q b) (n + 1)) n j) n = b r := by
 have H := red_inv m (wideQ n q b) (n + 1)
 have hl : ∀ i, i < (red m (wideQ n q b) (n + 1)).2.1 → (red m (wideQ n q b) (n + 1)).2.2 i < n := fun i hi => by
  rw [red_some h] at hi ⊢
  exact (red_inv m (wideQ n q b) n).lt i hi
 have := sol_sum H hl hr
 rw [wideQ_n] at this
 rw [← this]
 exact sumQ_congr n fun j hj => by rw [wideQ_lt hj]
theorem Spn.rel {m n : Nat} {A : Nat → Nat → Rat} {w x : Nat → Rat} (h : ∀ r, r < m → A r n = sumQ (fun j => A r j * w j) n) (hx : Spn m A x) : x n = sumQ (fun j => x j * w j) n := by
 obtain ⟨t, ht⟩ := hx
 rw [ht n, sumQ_congr m (g := fun k => sumQ (fun j => t k * (A k j * w j)) n) fun k hk => by rw [h k hk, sumQ_mul], sumQ_comm (fun k j => t k * (A k j * w j)) n m]
 refine sumQ_congr n fun j _ => ?_
 rw [ht j]
 have : sumQ (fun k => t k * A k j) m * w j = w j * sumQ (fun k => t k * A k j) m := by grind
 rw [this, ← sumQ_mul]
 exact sumQ_congr m fun k _ => by grind
theorem sol_one {n : Nat} {q : Nat → Nat → Rat} {x y : Nat → Rat} (e : (red n q n).2.1 = n) (h : ∀ r, r < n → sumQ (fun j => q r j * x j) n = sumQ (fun j => q r j * y j) n) : ∀ j, j < n → x j = y j := fun j hj => by
 have H := red_inv n q n
 have hz : ∀ r, r < n → (wideQ n q (fun _ => 0)) r n = sumQ (fun j => (wideQ n q (fun _ => 0)) r j * (x j - y j)) n := fun r hr => by
  rw [wideQ_n, sumQ_congr n (g := fun j => q r j * x j + -1 * (q r j * y j)) fun j hj => by rw [wideQ_lt hj]; grind, sumQ_add, sumQ_mul, h r hr]; grind
 obtain ⟨t, ht⟩ := H.same.2 j hj
 have hS : Spn n (wideQ n q fun _ => 0) (fun i => if i < n then (red n q n).1 j i else 0) := ⟨t, fun i => by
  dsimp only
  by_cases hi : i < n
  ·rw [if_pos hi, ht i]
   exact sumQ_congr n fun k _ => by rw [wideQ_lt hi]
  ·rw [if_neg hi, sumQ_congr n (g := fun _ => 0) fun k _ => by unfold wideQ; rw [if_neg hi]; grind, sumQ_zero]⟩
 have h1 := hS.rel hz
 rw [if_neg (Nat.lt_irrefl n), sumQ_one (k := j) n hj fun i hi hij => by rw [if_pos hi, red_full e j hj i hi]; unfold idM; rw [if_neg (Ne.symm hij)]; grind, if_pos hj, red_full e j hj j hj] at h1
 unfold idM at h1
 rw [if_pos rfl] at h1
 grind
theorem cdet_trM (n : Nat) (A : Nat → Nat → Rat) : cdet n (trM A) = cdet n A := by rw [← det_cdet, det_tr]
open Go.RowKit
theorem sgn_par : ∀ n, sgn n = if n % 2 = 1 then -1 else 1
 | 0 => rfl
 | n + 1 => by
  show - sgn n = _
  rw [sgn_par n]
  by_cases h : n % 2 = 1
  ·rw [if_pos h, if_neg zo]; rfl
  ·rw [if_neg h, if_pos zo]
def dB (E : Nat) : Nat → Nat
 | 0 => 1
 | n + 1 => (n + 1) * (E + dB E n + 2) + 1
theorem ht_sgnm (n : Nat) (x : Rat) : htq (sgn n * x) = htq x := by
 rw [sgn_par]
 split
 ·rw [show (-1 : Rat) * x = -x by grind, ht_neg]
 ·rw [show (1 : Rat) * x = x by grind]
theorem det_ht {E : Nat} : ∀ n {q : Nat → Nat → Rat}, (∀ i, i < n → ∀ j, j < n → htq (q i j) ≤ E) → htq (det n q) ≤ dB E n ∧ ∀ g, g ≤ n → htq (sumQ (fun c => sgn c * q 0 c * det (n - 1) (minor q 0 c)) g) ≤ dB E n
 | 0, q, _ => ⟨by show htq 1 ≤ 1; rw [ht_one]; omega, fun g hg => (by cases Nat.le_zero.1 hg; show htq 0 ≤ 1; rw [ht_zero]; omega)⟩
 | n + 1, q, h => by
  have hs : ∀ g, g ≤ n + 1 → htq (sumQ (fun c => sgn c * q 0 c * det n (minor q 0 c)) g) ≤ g * (E + dB E n + 2) + 1 := by
   intro g
   induction g with
   | zero => intro _; show htq 0 ≤ _; rw [ht_zero]; omega
   | succ g ih =>
    intro hg
    have h1 := ih zo
    have h2 := (det_ht n (q := minor q 0 g) fun i hi j hj => h _ (skp_lt hi) _ (skp_lt hj)).1
    have h3 := ht_add (sumQ (fun c => sgn c * q 0 c * det n (minor q 0 c)) g) (sgn g * q 0 g * det n (minor q 0 g))
    have h4 := ht_mul (sgn g * q 0 g) (det n (minor q 0 g))
    have h5 := ht_sgnm g (q 0 g)
    have h6 := h 0 zo g zo
    have h7 : (g + 1) * (E + dB E n + 2) = g * (E + dB E n + 2) + (E + dB E n + 2) := Nat.succ_mul _ _
    show htq (sumQ (fun c => sgn c * q 0 c * det n (minor q 0 c)) g + sgn g * q 0 g * det n (minor q 0 g)) ≤ _
    omega
  have hm : ∀ g, g ≤ n + 1 → g * (E + dB E n + 2) + 1 ≤ dB E (n + 1) := fun g hg => Nat.succ_le_succ (Nat.mul_le_mul_right _ hg)
  exact ⟨Nat.le_trans (hs (n + 1) (Nat.le_refl _)) (hm _ (Nat.le_refl _)), fun g hg => Nat.le_trans (hs g hg) (hm g hg)⟩
theorem dB_le {E : Nat} (hE : E ≤ 1000) : ∀ n, n ≤ 6 → dB E n ≤ 3000000
 | 0, _ => by show 1 ≤ 3000000; decide
 | 1, _ | 2, _ | 3, _ | 4, _ | 5, _ | 6, _ => by simp only [dB]; omega
 | n + 7, h => by omega
open Go.RowKit
def lenW (n g r : Nat) : Nat := if r < g then n + 1 else n
theorem lenW_self {n g : Nat} : lenW n g g = n := if_neg (Nat.lt_irrefl g)
theorem lenW_at {n g : Nat} : lenW n (g + 1) g = n + 1 := if_pos (Nat.lt_succ_self g)
theorem lenW_ne {n g r : Nat} (h : r ≠ g) : lenW n g r = lenW n (g + 1) r := by
 unfold lenW
 by_cases h1 : r < g
 ·rw [if_pos h1, if_pos zo]
 ·rw [if_neg h1, if_neg zo]
theorem lenW_zero {n r : Nat} : n = lenW n 0 r := (if_neg (Nat.not_lt_zero r)).symm
theorem lenW_all {n g r : Nat} (h : r < g) : lenW n g r = n + 1 := if_pos h
theorem wideQ_new {n k : Nat} {q : Nat → Nat → Rat} {v : Nat → Rat} {r : Nat} (h : k = n) : v r = wideQ n q v r k := by rw [h, wideQ_n]
theorem sMatCopyO {q : Nat → Nat → Rat} {m n : Nat} (hm : m ≤ 68719476736) (hn : n ≤ 68719476736) : CallOK Tryz.prog 16 [.agg (.cn (.sl 1 (mE q n) m) (.cn (.ex (.int .i64 (n : Int))) (.nl)))] (.agg (.cn (.own 0 0) (.cn (.ex (.int .i64 (n : Int))) (.nl)))) [.one (.row 69 1 (fun i0 => .own 1 i0) m), .fam m (fun i0 => .row 55 3 (fun i1 => .rat (q i0 i1)) n)] := by
 exact kP (ch := [.loop 3 (Nat) (fun g => g ≤ m) (fun g => m - g) (fun g => ⟨[(1, .own 0 0), (2, .own 1 0), (3, .own 2 0), (10, .sl 1 (mE q n) m), (11, .ex (.int .i64 (m : Int))), (12, .ex (.int .i64 (g : Int)))], [(0, .one (.var 32 (.agg (.cn (.sl 1 (mE q n) m) (.cn (.ex (.int .i64 (n : Int))) (.nl)))))), (1, .one (.var 32 (.ex (.agg #[.slice none 0 0, .int .i64 0])))), (2, .one (.var 32 (.agg (.cn (.own 3 0) (.cn (.ex (.int .i64 (n : Int))) (.nl)))))), (3, .one (.row 69 1 (fun i0 => .own 4 i0) g)), (4, .fam g (fun i0 => .row 55 3 (fun i1 => .rat (q i0 i1)) n))], 5⟩) [(0, .id 0), (1, .id 1), (2, .id 2), (3, .nil), (4, .emp)] (fun g => [(0, .id 0), (1, .id 1), (2, .id 2), (3, .id 6), (4, .put 4 g 5)]) (fun g => [.reg 4 [(0, .k g)], .reg 5 [(3, .callS (.own 0 0) [.one (.row 55 3 (fun i0 => .rat (q g i0)) n)]), (5, .row 0 (fun i0 => .own (if i0 < g then 4 else 5) (if i0 < g then i0 else 0)))], .reg 6 [(0, .z ((g + 1 : Nat) : Int))], .ret 7 [(0, .id 3), (1, .id 4)]])]) Tryz.func16 ((∀ j0, j0 < m → (∀ j1, j1 < n → True)) ∧ (((fun X1 X2 X3 X4 X5 X6 X7 X8 X9 X10 X11 : Prop => ∃ g0 : Nat, X1 ∧ X2 ∧ X3 ∧ X4 ∧ X5 ∧ X6 ∧ ((0 : Int) = (g0 : Int)) ∧ X7 ∧ X8 ∧ X9 ∧ ((.agg #[.slice none 0 0, .int .i64 0] : Value) = .agg #[.slice none 0 0, .int .i64 0]) ∧ X10 ∧ X11 ∧ ((g0 : Nat) = 0) ∧ ((g0 : Nat) = 0) ∧ (g0 ≤ m)) _ _ _ _ _ _ _ _ _ _ _) ∧ ∀ g : Nat, (g ≤ m) → (((decide ((g : Int) < (m : Int))) = true → _ ∧ (g < m) ∧ _ ∧ (g + 1 ≤ 68719476736) ∧ (∀ j0, j0 < g → (.own (if j0 < g then 4 else 5) (if j0 < g then j0 else 0) : SV) = .own 4 j0) ∧ (∀ j0, j0 < 1 → ((5 : Nat) = (if g + j0 < g then 4 else 5)) ∧ ((0 : Nat) = (if g + j0 < g then g + j0 else 0))) ∧ _ ∧ ((fun X1 X2 X3 X4 X5 X6 X7 X8 X9 X10 X11 X12 : Prop => ∃ g1 : Nat, X1 ∧ X2 ∧ X3 ∧ X4 ∧ X5 ∧ X6 ∧ (((g + 1 : Nat) : Int) = (g1 : Int)) ∧ X7 ∧ X8 ∧ X9 ∧ ((.agg #[.slice none 0 0, .int .i64 0] : Value) = .agg #[.slice none 0 0, .int .i64 0]) ∧ X10 ∧ X11 ∧ ((g + 1 : Nat) = g1) ∧ (∀ j0, j0 < (g + 1) → (((if j0 < g then 4 else 5 : Nat) = 5 ∧ (if j0 < g then j0 else 0 : Nat) = 0 ∧ (j0 : Nat) = g) ∨ ((if j0 < g then 4 else 5 : Nat) = 4 ∧ (if j0 < g then j0 else 0 : Nat) = j0 ∧ (j0 : Nat) ≠ g))) ∧ ((g1 : Nat) = g + 1) ∧ X12 ∧ (((n : Nat) = n) ∧ (∀ j1, j1 < n → ((q g j1 : Rat) = (q g j1)))) ∧ (∀ j0, j0 < g → ((n : Nat) = n) ∧ (∀ j1, j1 < n → ((q j0 j1 : Rat) = (q j0 j1)))) ∧ (g1 ≤ m) ∧ (m - g1 < m - g)) _ _ _ _ _ _ _ _ _ _ _ _)) ∧ ((decide ((g : Int) < (m : Int))) = false → (_ ∧ _ ∧ ((g : Nat) = m) ∧ (∀ j0, j0 < g → ((j0 : Nat) = j0)) ∧ ((g : Nat) = m) ∧ (∀ j0, j0 < g → ((n : Nat) = n) ∧ (∀ j1, j1 < n → ((q j0 j1 : Rat) = (q j0 j1)))))))))
  ⟨(fun _ _ => (fun _ _ => trivial)), ⟨0, (rf 0), (rf 0), (rf 0), (rf m), (leS (mE q n) m), (rf (m : Int)), zo, (rf m), (leS (mE q n) m), (rf (n : Int)), rfl, (rf 0), (rf (n : Int)), zo, zo, zo⟩, fun g hg => ⟨fun hc13 => have hc13 := dT hc13; ⟨(rf (g : Int)), zo, sVecCopy (n := n) (q := (fun i => q g i)) zo, zo, (fun j0 hj0 => by rw [if_pos hj0, if_pos hj0]), (fun j0 hj0 => ⟨(by rw [if_neg zo]), (by rw [if_neg zo])⟩), (wI (g := g) zo), g + 1, (rf 0), (rf 0), (rf 0), (rf m), (leS (mE q n) m), (rf (m : Int)), zo, (rf m), (leS (mE q n) m), (rf (n : Int)), rfl, (rf 0), (rf (n : Int)), zo, (fun j0 hj0 => (by first | omega | (split <;> omega))), zo, (rf g), ⟨rfl, (fun j1 hj1 => rfl)⟩, (fun j0 hj0 => ⟨rfl, (fun j1 hj1 => rfl)⟩), zo, zo⟩, fun hc13 => have hc13 := dF hc13; have hi2 : g = m := zo; ⟨(rf 0), (rf (n : Int)), zo, (fun j0 hj0 => rfl), zo, (fun j0 hj0 => ⟨rfl, (fun j1 hj1 => rfl)⟩)⟩⟩⟩
theorem sMatWithCol {q : Nat → Nat → Rat} {v : Nat → Rat} {m n : Nat} (hm : m ≤ 68719476736) (hn : n < 64) : CallOK Tryz.prog 51 [.agg (.cn (.sl 1 (mE q n) m) (.cn (.ex (.int .i64 (n : Int))) (.nl))), .sl 3 (fun i0 => .rat (v i0)) m] (.cn (.agg (.cn (.sl 1 (mE (wideQ n q v) (n + 1)) m) (.cn (.ex (.int .i64 ((n + 1 : Nat) : Int))) (.nl)))) (.cn (.ex (.bool true)) (.nl))) [] := by
 exact kP (ch := [.dec 18 false, .reg 3 [(1, .callS (.agg (.cn (.own 0 0) (.cn (.ex (.int .i64 (n : Int))) (.nl)))) [.one (.row 69 1 (fun i0 => .own 1 i0) m), .fam m (fun i0 => .row 55 3 (fun i1 => .rat (q i0 i1)) n)])], .reg 4 [(2, .z ((n + 1 : Nat) : Int))], .loop 6 (Nat) (fun g => g ≤ m) (fun g => m - g) (fun g => ⟨[(1, .sl 3 (fun i0 => .rat (v i0)) m), (2, .own 0 0), (4, .own 1 0), (6, .own 4 0), (28, .ex (.int .i64 (m : Int))), (29, .ex (.int .i64 (g : Int)))], [(0, .one (.var 32 (.agg (.cn (.sl 1 (mE q n) m) (.cn (.ex (.int .i64 (n : Int))) (.nl)))))), (1, .one (.var 32 (.ex (.agg #[.slice none 0 0, .int .i64 0])))), (2, .one (.row 69 1 (fun i0 => .own 3 i0) m)), (3, .fam m (fun i0 => .row 55 3 (fun i1 => .rat (wideQ n q v i0 i1)) (lenW n g i0))), (4, .one (.var 32 (.agg (.cn (.own 2 0) (.cn (.ex (.int .i64 ((n + 1 : Nat) : Int))) (.nl))))))], 5⟩) [(0, .id 0), (1, .id 1), (2, .id 2), (3, .id 3), (4, .id 4)] (fun g => [(0, .id 0), (1, .id 1), (2, .id 2), (3, .put 3 g 5), (4, .id 4)]) (fun g => [.reg 8 [(6, .k g), (10, .k g), (13, .row 0 (fun i0 => .rat (wideQ n q v g i0))), (14, .k g), (15, .row 0 (fun i0 => .own (if i0 = g then 5 else 3) (if i0 = g then 0 else i0)))], .reg 9 [(0, .z ((g + 1 : Nat) : Int))]])]) Tryz.func51 (let y0 := ((!decide ((m : Int) = (m : Int))) == false); (∀ j0, j0 < m → (∀ j1, j1 < n → True)) ∧ (∀ j0, j0 < m → True) ∧ (y0 = true → y0 = true) ∧ (y0 = true → y0 = true) ∧ ((!(!decide ((m : Int) = (m : Int)))) = true → y0 = true) ∧ ((bif (!decide ((m : Int) = (m : Int))) then true else (decide ((64 : Int) ≤ (n : Int)))) = false) ∧ (CallOK Tryz.prog 16 [.agg (.cn (.sl 1 (mE q n) m) (.cn (.ex (.int .i64 (n : Int))) (.nl)))] (.agg (.cn (.own 0 0) (.cn (.ex (.int .i64 (n : Int))) (.nl)))) [.one (.row 69 1 (fun i0 => .own 1 i0) m), .fam m (fun i0 => .row 55 3 (fun i1 => .rat (q i0 i1)) n)]) ∧ _ ∧ (((fun X1 X2 X3 X4 X5 X6 X7 X8 X9 X10 X11 X12 X13 : Prop => ∃ g0 : Nat, X1 ∧ X2 ∧ X3 ∧ X4 ∧ X5 ∧ X6 ∧ ((0 : Int) = (g0 : Int)) ∧ X7 ∧ X8 ∧ X9 ∧ ((.agg #[.slice none 0 0, .int .i64 0] : Value) = .agg #[.slice none 0 0, .int .i64 0]) ∧ X10 ∧ (∀ j0, j0 < m → ((j0 : Nat) = j0)) ∧ X11 ∧ (∀ j0, j0 < m → ((n : Nat) = (lenW n g0 j0)) ∧ (∀ j1, j1 < n → ((q j0 j1 : Rat) = (wideQ n q v j0 j1)))) ∧ X12 ∧ X13 ∧ (g0 ≤ m)) _ _ _ _ _ _ _ _ _ _ _ _ _) ∧ ∀ g : Nat, (g ≤ m) → (((decide ((g : Int) < (m : Int))) = true → _ ∧ (g < m) ∧ (g < m) ∧ _ ∧ (g < m) ∧ ((lenW n g g) + 1 ≤ 68719476736) ∧ _ ∧ (∀ j0, j0 < 1 → ((v g : Rat) = (wideQ n q v g ((lenW n g g) + j0)))) ∧ (g < m) ∧ _ ∧ (g < m) ∧ (g < m) ∧ (((5 : Nat) = (if g = g then 5 else 3)) ∧ ((0 : Nat) = (if g = g then 0 else g))) ∧ (∀ t, t < m → t ≠ g → (.own (if t = g then 5 else 3) (if t = g then 0 else t) : SV) = .own 3 t) ∧ _ ∧ ((fun X1 X2 X3 X4 X5 X6 X7 X8 X9 X10 X11 X12 X13 X14 : Prop => ∃ g1 : Nat, X1 ∧ X2 ∧ X3 ∧ X4 ∧ X5 ∧ X6 ∧ (((g + 1 : Nat) : Int) = (g1 : Int)) ∧ X7 ∧ X8 ∧ X9 ∧ ((.agg #[.slice none 0 0, .int .i64 0] : Value) = .agg #[.slice none 0 0, .int .i64 0]) ∧ X10 ∧ (∀ j0, j0 < m → (((if j0 = g then 5 else 3 : Nat) = 5 ∧ (if j0 = g then 0 else j0 : Nat) = 0 ∧ (j0 : Nat) = g) ∨ ((if j0 = g then 5 else 3 : Nat) = 3 ∧ (if j0 = g then 0 else j0 : Nat) = j0 ∧ (j0 : Nat) ≠ g))) ∧ X11 ∧ X12 ∧ (g < m) ∧ ((((lenW n g g) + 1 : Nat) = (lenW n g1 g)) ∧ (∀ j1, j1 < ((lenW n g g) + 1) → ((wideQ n q v g j1 : Rat) = (wideQ n q v g j1)))) ∧ (∀ j0, j0 < m → j0 ≠ g → ((lenW n g j0 : Nat) = (lenW n g1 j0)) ∧ (∀ j1, j1 < (lenW n g j0) → ((wideQ n q v j0 j1 : Rat) = (wideQ n q v j0 j1)))) ∧ X13 ∧ X14 ∧ (g1 ≤ m) ∧ (m - g1 < m - g)) _ _ _ _ _ _ _ _ _ _ _ _ _ _)) ∧ ((decide ((g : Int) < (m : Int))) = false → (_ ∧ (∀ j0, j0 < m → ((lenW n g j0 : Nat) = (n + 1)) ∧ (∀ j1, j1 < (lenW n g j0) → ((wideQ n q v j0 j1 : Rat) = ((wideQ n q v) j0 j1))) ∧ (j0 < m)) ∧ _ ∧ _)))))
  ⟨(fun _ _ => (fun _ _ => trivial)), (fun _ _ => trivial), id, id, (by simp), (by simp; omega), sMatCopyO (q := q) zo zo, (wI (g := n) zo), ⟨0, (rf m), (leS (fun i0 => .rat (v i0)) m), (rf 0), (rf 0), (rf 0), (rf (m : Int)), zo, (rf m), (leS (mE q n) m), (rf (n : Int)), rfl, (rf m), (fun j0 hj0 => rfl), (rf m), (fun j0 hj0 => ⟨lenW_zero, (fun j1 hj1 => (wideQ_lt (by assumption)).symm)⟩), (rf 0), (rf ((n + 1 : Nat) : Int)), zo⟩, fun g hg => have e1 := lenW_self (n := n) (g := g); have e2 := lenW_at (n := n) (g := g); ⟨fun hc30 => have hc30 := dT hc30; ⟨(rf (g : Int)), zo, zo, (rf (g : Int)), zo, zo, (oldS (fun i0 => .rat (wideQ n q v g i0)) (lenW n g g)), (fun j0 hj0 => (wideQ_new zo)), zo, (rf (g : Int)), zo, zo, ⟨(if_pos rfl).symm, (if_pos rfl).symm⟩, (fun t ht hne => by rw [if_neg hne, if_neg hne]), (wI (g := g) zo), g + 1, (rf m), (leS (fun i0 => .rat (v i0)) m), (rf 0), (rf 0), (rf 0), (rf (m : Int)), zo, (rf m), (leS (mE q n) m), (rf (n : Int)), rfl, (rf m), (fun j0 hj0 => (by first | omega | (split <;> omega))), (rf m), (rf g), zo, ⟨(by first | exact lenW_ne (by assumption) | omega), (fun j1 hj1 => rfl)⟩, (fun j0 hj0 hne => ⟨(by first | exact lenW_ne (by assumption) | omega), (fun j1 hj1 => rfl)⟩), (rf 0), (rf ((n + 1 : Nat) : Int)), zo, zo⟩, fun hc30 => have hc30 := dF hc30; have hi2 : g = m := zo; ⟨(rf m), (fun j0 hj0 => ⟨(lenW_all zo), (fun j1 hj1 => rfl), zo⟩), (rf ((n + 1 : Nat) : Int)), (rf (true : Bool))⟩⟩⟩
def szE (s c : Nat) : Nat := (s + 3) * 9 ^ c
theorem szE_succ (s c : Nat) : szE s (c + 1) = 9 * szE s c := by unfold szE; rw [Nat.pow_succ, ← Nat.mul_assoc, Nat.mul_comm]
theorem szE_ge (s c : Nat) : s + 3 ≤ szE s c := by
 unfold szE
 exact Nat.le_mul_of_pos_right _ (Nat.pow_pos (by decide))
theorem szE_top {s c : Nat} (hs : s ≤ 1000) (hc : c ≤ 6) : szE s c ≤ 533035323 := by
 unfold szE
 have h1 : 9 ^ c ≤ 9 ^ 6 := Nat.pow_le_pow_right (by decide) hc
 calc (s + 3) * 9 ^ c ≤ 1003 * 9 ^ 6 := Nat.mul_le_mul zo h1
  _ = 533035323 := by decide
structure DetI (s n : Nat) (q : Nat → Nat → Rat) (g : Nat × (Nat → Nat → Rat) × Rat) : Prop where
 le : g.1 ≤ n
 eq : g.2.2 * cdet (n - g.1) (blk g.1 g.2.1) = cdet n q
 sz : ∀ i, i < n → ∀ j, j < n → szq (g.2.1 i j) ≤ szE s g.1
 so : szq g.2.2 ≤ 2 + g.1 * szE s g.1
theorem blk_zero (A : Nat → Nat → Rat) : blk 0 A = A := by
 funext i j
 show A (0 + i) (0 + j) = A i j
 rw [Nat.zero_add, Nat.zero_add]
theorem DetI.start {s n : Nat} {q : Nat → Nat → Rat} (hs : ∀ i, i < n → ∀ j, j < n → szq (q i j) ≤ s) : DetI s n q (0, q, 1) :=
 ⟨Nat.zero_le n, by show (1 : Rat) * cdet (n - 0) (blk 0 q) = _; rw [blk_zero, Nat.sub_zero]; grind, fun i hi j hj => Nat.le_trans (hs i hi j hj) (by have := szE_ge s 0; show s ≤ szE s 0; omega), by show szq 1 ≤ 2 + 0 * _; rw [Nat.zero_mul]; decide +kernel⟩
theorem setR_ne {A : Nat → Nat → Rat} {r t : Nat} {x : Nat → Rat} (h : t ≠ r) : setR A r x t = A t := by funext j; exact if_neg h
theorem swap_self {A : Nat → Nat → Rat} {k : Nat} : swapR A k k = A := by
 funext i j
 show A (if i = k then k else if i = k then k else i) j = A i j
 by_cases z : i = k
 ·rw [if_pos z, z]
 ·rw [if_neg z, if_neg z]
theorem swap_sz {A : Nat → Nat → Rat} {k l n B : Nat} (hk : k < n) (hl : l < n) (h : ∀ i, i < n → ∀ j, j < n → szq (A i j) ≤ B) : ∀ i, i < n → ∀ j, j < n → szq (swapR A k l i j) ≤ B := fun i hi j hj => by
 show szq (A (if i = k then l else if i = l then k else i) j) ≤ B
 refine h _ ?_ j hj
 split
 ·exact hl
 ·split
  ·exact hk
  ·exact hi
theorem elim_sz1 {a b c d : Rat} {S : Nat} (h0 : 3 ≤ S) (ha : szq a ≤ S) (hb : szq b ≤ S) (hc : szq c ≤ S) (hd : szq d ≤ S) : szq (b / c) ≤ 2 * S + 1 ∧ szq (-(b / c) * d) ≤ 3 * S + 1 ∧ szq (a + -(b / c) * d) ≤ 9 * S := by
 have h1 : szq (b / c) ≤ 2 * S + 1 := by
  rw [Rat.div_def]
  have := szq_mul b c⁻¹
  have := szq_inv c
  omega
 have h2 : szq (-(b / c) * d) ≤ 3 * S + 1 := by
  have := szq_mul (-(b / c)) d
  rw [szq_neg] at this
  omega
 have h3 := szq_add a (-(b / c) * d)
 exact ⟨h1, h2, by omega⟩
theorem elim_szB {B : Nat → Nat → Rat} {c h n S : Nat} (h0 : 3 ≤ S) (hc : c < n) (hB : ∀ i, i < n → ∀ j, j < n → szq (B i j) ≤ S) : ∀ i, i < n → ∀ j, j < n → szq (elimQ B c h i j) ≤ 9 * S := fun i hi j hj => by
 unfold elimQ
 split
 ·exact (elim_sz1 h0 (hB i hi j hj) (hB i hi c hc) (hB c hc c hc) (hB c hc j hj)).2.2
 ·have := hB i hi j hj; omega
theorem DetI.next {s n K : Nat} {q : Nat → Nat → Rat} {g : Nat × (Nat → Nat → Rat) × Rat} (H : DetI s n q g) (hc : g.1 < n) (h1 : g.1 ≤ K) (h2 : K < n) (hp : g.2.1 K g.1 ≠ 0) :
  DetI s n q (g.1 + 1, elimQ (swapR g.2.1 g.1 K) g.1 n, (if K = g.1 then g.2.2 else -g.2.2) * swapR g.2.1 g.1 K g.1 g.1) := by
 have hsw := swap_sz hc h2 H.sz
 have h0 : 3 ≤ szE s g.1 := by have := szE_ge s g.1; omega
 have hpp : swapR g.2.1 g.1 K g.1 g.1 ≠ 0 := by
  show g.2.1 (if g.1 = g.1 then K else _) g.1 ≠ 0
  rw [if_pos rfl]; exact hp
 refine ⟨hc, ?_, fun i hi j hj => ?_, ?_⟩
 ·refine det_step hc hpp ?_
  by_cases e : K = g.1
  ·subst e; rw [if_pos rfl, swap_self]; exact H.eq
  ·rw [if_neg e, swap_det zo h2, ← H.eq]; grind
 ·rw [szE_succ]; exact elim_szB h0 hc hsw i hi j hj
 ·show szq (_ * _) ≤ 2 + (g.1 + 1) * szE s (g.1 + 1)
  have h3 := szq_mul (if K = g.1 then g.2.2 else -g.2.2) (swapR g.2.1 g.1 K g.1 g.1)
  have h4 : szq (if K = g.1 then g.2.2 else -g.2.2) = szq g.2.2 := by split; rfl; exact szq_neg _
  have h5 := hsw g.1 hc g.1 hc
  have h6 := H.so
  rw [szE_succ, Nat.add_mul, Nat.one_mul]
  have h7 : g.1 * szE s g.1 ≤ g.1 * (9 * szE s g.1) := Nat.mul_le_mul_left _ zo
  omega
theorem DetI.none {s n : Nat} {q : Nat → Nat → Rat} {g : Nat × (Nat → Nat → Rat) × Rat} (H : DetI s n q g) (hc : g.1 < n) (h : leadK g.2.1 g.1 g.1 (n - g.1) = n) : cdet n q = 0 := by
 rw [← H.eq]
 exact det_none hc fun i h1 h2 => leadK_none _ _ i h1 (by rw [h]; exact h2)
theorem DetI.done {s n : Nat} {q : Nat → Nat → Rat} {g : Nat × (Nat → Nat → Rat) × Rat} (H : DetI s n q g) (h : g.1 = n) : g.2.2 = cdet n q := by
 rw [← H.eq, h, Nat.sub_self]
 show _ = g.2.2 * 1
 grind
open Go.RowKit
def leadZ (q : Nat → Nat → Rat) (m a c : Nat) : Int := if leadK q c a (m - a) < m then (leadK q c a (m - a) : Int) else -1
theorem leadK_step {q : Nat → Nat → Rat} {m g c : Nat} (hg : g < m) (hz : q g c = 0) : leadK q c g (m - g) = leadK q c (g + 1) (m - (g + 1)) := by
 rw [show m - g = (m - (g + 1)) + 1 by omega]
 exact if_pos hz
theorem leadZ_hit {q : Nat → Nat → Rat} {m a g c : Nat} (hg : g < m) (e : leadK q c a (m - a) = leadK q c g (m - g)) (hz : q g c ≠ 0) : leadZ q m a c = (g : Int) := by
 have : leadK q c g (m - g) = g := by
  rw [show m - g = (m - (g + 1)) + 1 by omega]
  exact if_neg hz
 unfold leadZ
 rw [e, this, if_pos hg]
theorem leadZ_none {q : Nat → Nat → Rat} {m a c : Nat} (e : leadK q c a (m - a) = m) : leadZ q m a c = -1 := by
 unfold leadZ
 rw [e, if_neg (Nat.lt_irrefl m)]
theorem leadZ_pos {q : Nat → Nat → Rat} {m a c : Nat} (h : leadK q c a (m - a) < m) : leadZ q m a c = (leadK q c a (m - a) : Int) := if_pos h
theorem lead_no {q : Nat → Nat → Rat} {m a c : Nat} (h : leadZ q m a c < 0) : ¬ leadK q c a (m - a) < m := fun k => by rw [leadZ_pos k] at h; omega
theorem lead_yes {q : Nat → Nat → Rat} {m a c : Nat} (h : ¬ leadZ q m a c < 0) : leadK q c a (m - a) < m := by
 refine Classical.byContradiction fun k => h ?_
 unfold leadZ
 rw [if_neg k]; decide
theorem red_skip {m g : Nat} {q : Nat → Nat → Rat} (h : ¬ leadK (red m q g).1 g (red m q g).2.1 (m - (red m q g).2.1) < m) : red m q (g + 1) = red m q g := if_neg h
theorem red_step {m g : Nat} {q : Nat → Nat → Rat} (h : leadK (red m q g).1 g (red m q g).2.1 (m - (red m q g).2.1) < m) : red m q (g + 1) = (clearQ (scaleQ (swapR (red m q g).1 (red m q g).2.1 (leadK (red m q g).1 g (red m q g).2.1 (m - (red m q g).2.1))) (red m q g).2.1 g) (red m q g).2.1 g, (red m q g).2.1 + 1, fun i => if i = (red m q g).2.1 then g else (red m q g).2.2 i) := if_pos h
theorem clr_all {B : Nat → Nat → Rat} {a c h r j : Nat} (hr : r < h) : clrP B a c h r j = clearQ B a c r j := by
 unfold clrP clearQ
 by_cases e : r = a
 ·rw [if_neg fun h => h.2 e, if_pos e, e]
 ·rw [if_pos ⟨hr, e⟩, if_neg e]
theorem red_hit1 {m g h j c : Nat} {q : Nat → Nat → Rat} (k : leadK (red m q g).1 g (red m q g).2.1 (m - (red m q g).2.1) < m) (hj : j < h) : clrP (scaleQ (swapR (red m q g).1 (red m q g).2.1 (leadK (red m q g).1 g (red m q g).2.1 (m - (red m q g).2.1))) (red m q g).2.1 g) (red m q g).2.1 g h j c = (red m q (g + 1)).1 j c := by
 rw [red_step k]
 exact clr_all hj
theorem red_hit2 {m g : Nat} {q : Nat → Nat → Rat} (k : leadK (red m q g).1 g (red m q g).2.1 (m - (red m q g).2.1) < m) : (red m q g).2.1 + 1 = (red m q (g + 1)).2.1 := by rw [red_step k]
theorem red_hit3 {m g : Nat} {q : Nat → Nat → Rat} (k : leadK (red m q g).1 g (red m q g).2.1 (m - (red m q g).2.1) < m) : ∀ j0, j0 < (red m q g).2.1 → (SV.ex (.int .i64 (((red m q (g + 1)).2.2 j0 : Nat) : Int)) : SV) = .ex (.int .i64 (((red m q g).2.2 j0 : Nat) : Int)) := fun j0 hj => by
 rw [red_step k]
 show SV.ex (.int .i64 (((if j0 = (red m q g).2.1 then g else (red m q g).2.2 j0 : Nat) : Int))) = _
 rw [if_neg zo]
theorem red_hit4 {m g : Nat} {q : Nat → Nat → Rat} (k : leadK (red m q g).1 g (red m q g).2.1 (m - (red m q g).2.1) < m) : ∀ j0, j0 < 1 → (g : Int) = (((red m q (g + 1)).2.2 ((red m q g).2.1 + j0) : Nat) : Int) := fun j0 hj => by
 obtain rfl : j0 = 0 := by omega
 rw [red_step k]
 show (g : Int) = (((if (red m q g).2.1 + 0 = (red m q g).2.1 then g else _ : Nat)) : Int)
 rw [if_pos (Nat.add_zero _)]
theorem swap_at {A : Nat → Nat → Rat} {a k c : Nat} : A a c = swapR A a k k c := by
 show A a c = A (if k = a then k else if k = k then a else k) c
 by_cases e : k = a
 ·rw [if_pos e, e]
 ·rw [if_neg e, if_pos rfl]
theorem swap_other {A : Nat → Nat → Rat} {a k t : Nat} (h : t ≠ k) : swapR A a k t = setR A a (A k) t := by
 funext j
 show A (if t = a then k else if t = k then a else t) j = if t = a then A k j else A t j
 by_cases e : t = a
 ·rw [if_pos e, if_pos e]
 ·rw [if_neg e, if_neg h, if_neg e]
theorem scale_other {A : Nat → Nat → Rat} {a c t : Nat} (h : t ≠ a) : scaleQ A a c t = A t := setR_ne h
theorem clrP_zero {B : Nat → Nat → Rat} {a c r j : Nat} : B r j = clrP B a c 0 r j := (if_neg fun h => absurd h.1 (Nat.not_lt_zero r)).symm
theorem clrP_self {B : Nat → Nat → Rat} {a c h : Nat} : clrP B a c h a = B a := by funext j; exact if_neg fun h => h.2 rfl
theorem clrP_now {B : Nat → Nat → Rat} {a c h : Nat} : clrP B a c h h = B h := by funext j; exact if_neg fun h => absurd h.1 (Nat.lt_irrefl _)
theorem clrP_ne {B : Nat → Nat → Rat} {a c h t : Nat} (e : t ≠ h) : clrP B a c (h + 1) t = clrP B a c h t := by
 funext j
 unfold clrP
 by_cases q : t < h ∧ t ≠ a
 ·rw [if_pos q, if_pos ⟨by omega, q.2⟩]
 ·rw [if_neg q, if_neg zo]
theorem clrP_at {B : Nat → Nat → Rat} {a c h j : Nat} (e : h ≠ a) : clrP B a c h h j + -(clrP B a c h h c) * clrP B a c h a j = clrP B a c (h + 1) h j := by
 rw [clrP_now, clrP_self]
 exact (if_pos ⟨Nat.lt_succ_self h, e⟩).symm
theorem clrP_skip {B : Nat → Nat → Rat} {a c h t j : Nat} (z : h = a ∨ clrP B a c h h c = 0) : clrP B a c h t j = clrP B a c (h + 1) t j := by
 by_cases e : t = h
 ·subst e
  rw [clrP_now] at z ⊢
  unfold clrP
  by_cases q : t = a
  ·rw [if_neg fun k => k.2 q]
  ·rw [if_pos ⟨Nat.lt_succ_self t, q⟩, z.resolve_left q]; grind
 ·rw [clrP_ne e]
theorem clr_yes {h a : Nat} {x : Rat} (e : (bif !decide ((h : Int) = (a : Int)) then !decide (x = 0) else false) = true) : h ≠ a ∧ x ≠ 0 := by
 by_cases q : h = a
 ·subst q; simp at e
 ·refine ⟨q, fun z => ?_⟩
  subst z; simp at e
theorem clr_no {h a : Nat} {x : Rat} (e : (bif !decide ((h : Int) = (a : Int)) then !decide (x = 0) else false) = false) : h = a ∨ x = 0 := by
 by_cases q : h = a
 ·exact .inl q
 ·refine .inr (Classical.byContradiction fun z => ?_)
  have : ¬ ((h : Int) = (a : Int)) := by omega
  simp [this, z] at e
theorem inv_room {m n a c : Nat} {A : Nat → Nat → Rat} (h : HtB m n 100000000 A) (ha : a < m) (hc : c < n) : szq (A a c) ≤ 17179869184 := by
 have := h a ha c hc
 have := sz_ht (A a c)
 omega
theorem scale_room {m n a c : Nat} {A : Nat → Nat → Rat} (h : HtB m n 100000000 A) (ha : a < m) (hc : c < n) : ∀ j, j < n → szq (A a c)⁻¹ + szq (A a j) ≤ 17179869184 := fun j hj => by
 have h1 := h a ha c hc
 have h2 := h a ha j hj
 exact ht_room (S := 100000000) (by have := ht_inv (A a c); omega) zo (by decide)
theorem clr_room {m n a c h : Nat} {A : Nat → Nat → Rat} (H : HtB m n 100000000 A) (ha : a < m) (hc : c < n) (hh : h < m) (e : h ≠ a) : ∀ j, j < n → szq (-(clrP (scaleQ A a c) a c h h c)) + szq (clrP (scaleQ A a c) a c h a j) ≤ 17179869184 ∧ szq (clrP (scaleQ A a c) a c h h j) + szq (-(clrP (scaleQ A a c) a c h h c) * clrP (scaleQ A a c) a c h a j) ≤ 17179869184 := fun j hj => by
 rw [clrP_now, clrP_self, scale_other e]
 have h1 := H.scale ha hc hj
 have h2 := H h hh j hj
 have h3 := H h hh c hc
 have h4 : htq (scaleQ A a c a j) ≤ 200000000 := by
  show htq (if a = a then _ else _) ≤ _
  rw [if_pos rfl]; omega
 exact ht_room2 (S := 200000000) zo h4 (by rw [ht_neg]; omega) (by decide)
theorem of_guard {P : Prop} [Decidable P] (h : (decide P == true) = true) : P := by simpa using h
theorem swap_same {A : Nat → Nat → Rat} {a k i j : Nat} (h : k = a) : swapR A a k i j = A i j := by rw [h, swap_self]
theorem elim_now {B : Nat → Nat → Rat} {c h j : Nat} (hc : c < h) : elimQ B c h h j + -(elimQ B c h h c / elimQ B c h c c) * elimQ B c h c j = elimQ B c (h + 1) h j := by
 rw [elimQ_end (Nat.le_refl h), elimQ_top (Nat.le_refl c)]
 exact elimQ_at hc
theorem sRowsOf {q : Nat → Nat → Rat} {m n : Nat} (hm : m ≤ 68719476736) (hn : n ≤ 68719476736) : CallOK Tryz.prog 65 [.agg (.cn (.sl 1 (mE q n) m) (.cn (.ex (.int .i64 (n : Int))) (.nl)))] (.own 0 0) [.one (.row 69 1 (mE q n) m)] := by
 exact kP (ch := [.reg 2 [(1, .callS (.ex (.int .i64 (m : Int))) [])], .loop 3 (Nat) (fun g => g ≤ m) (fun g => m - g) (fun g => ⟨[(1, .own 0 0), (3, .own 1 0), (8, .ex (.int .i64 (m : Int))), (9, .ex (.int .i64 (g : Int)))], [(0, .one (.var 32 (.agg (.cn (.sl 1 (mE q n) m) (.cn (.ex (.int .i64 (n : Int))) (.nl)))))), (1, .one (.row 69 1 (mE q n) g))], 2⟩) [(0, .id 0), (1, .nil)] (fun _ => [(0, .id 0), (1, .id 2)]) (fun g => [.reg 5 [(2, .callS (.cn (.sl 3 (fun i0 => .rat (q g i0)) n) (.cn (.ex (.bool true)) (.nl))) [])], .reg 6 [(3, .row 0 (mE q n))], .reg 7 [(0, .z ((g + 1 : Nat) : Int))], .ret 8 [(0, .id 1)]])]) Tryz.func65 ((∀ j0, j0 < m → (∀ j1, j1 < n → True)) ∧ _ ∧ (((fun X1 X2 X3 X4 X5 X6 : Prop => ∃ g0 : Nat, X1 ∧ X2 ∧ X3 ∧ ((0 : Int) = (g0 : Int)) ∧ X4 ∧ X5 ∧ X6 ∧ ((g0 : Nat) = 0) ∧ (g0 ≤ m)) _ _ _ _ _ _) ∧ ∀ g : Nat, (g ≤ m) → (((decide ((g : Int) < (m : Int))) = true → _ ∧ (g + 1 ≤ 68719476736) ∧ _ ∧ _ ∧ _ ∧ ((fun X1 X2 X3 X4 X5 X6 X7 : Prop => ∃ g1 : Nat, X1 ∧ X2 ∧ X3 ∧ (((g + 1 : Nat) : Int) = (g1 : Int)) ∧ X4 ∧ X5 ∧ X6 ∧ ((g + 1 : Nat) = g1) ∧ X7 ∧ (g1 ≤ m) ∧ (m - g1 < m - g)) _ _ _ _ _ _ _)) ∧ ((decide ((g : Int) < (m : Int))) = false → (_ ∧ ((g : Nat) = m) ∧ _)))))
  ⟨(fun _ _ => (fun _ _ => trivial)), sMatRows (m := m) (n := n) (q := q), ⟨0, (rf 0), (rf 0), (rf (m : Int)), zo, (rf m), (leS (mE q n) m), (rf (n : Int)), zo, zo⟩, fun g hg => ⟨fun hc10 => have hc10 := dT hc10; ⟨sMatRow (m := m) (n := n) (r := g) (q := q) zo zo, zo, (oldS (mE q n) g), (newS (mE q n) g), (wI (g := g) zo), g + 1, (rf 0), (rf 0), (rf (m : Int)), zo, (rf m), (leS (mE q n) m), (rf (n : Int)), zo, (leS (mE q n) (g + 1)), zo, zo⟩, fun hc10 => have hc10 := dF hc10; have hi2 : g = m := zo; ⟨(rf 0), hi2, (leS (mE q n) g)⟩⟩⟩
theorem sLead {q : Nat → Nat → Rat} {m n a c : Nat} (hm : m ≤ 68719476736) (ha : a ≤ m) (hc : c < n) : CallOK Tryz.prog 66 [.sl 1 (mE q n) m, .ex (.int .i64 (a : Int)), .ex (.int .i64 (c : Int))] (.ex (.int .i64 (leadZ q m a c))) [] := by
 exact kP (ch := [.loop 2 (Nat) (fun g => a ≤ g ∧ g ≤ m ∧ leadK q c a (m - a) = leadK q c g (m - g)) (fun g => m - g) (fun g => ⟨[(0, .sl 1 (mE q n) m), (2, .ex (.int .i64 (c : Int))), (7, .ex (.int .i64 (g : Int)))], [], 0⟩) [] (fun _ => []) (fun g => [.reg 4 [(2, .k g), (5, .k c), (7, .callS (.ex (.bool (decide (q g c = 0)))) [])], .reg 3 [(1, .z ((g + 1 : Nat) : Int))]])]) Tryz.func66 ((∀ j0, j0 < m → (∀ j1, j1 < n → True)) ∧ (((fun X1 X2 X3 : Prop => ∃ g0 : Nat, X1 ∧ X2 ∧ X3 ∧ ((a : Int) = (g0 : Int)) ∧ (a ≤ g0 ∧ g0 ≤ m ∧ leadK q c a (m - a) = leadK q c g0 (m - g0))) _ _ _) ∧ ∀ g : Nat, (a ≤ g ∧ g ≤ m ∧ leadK q c a (m - a) = leadK q c g (m - g)) → (((decide ((g : Int) < (m : Int))) = true → _ ∧ (g < m) ∧ _ ∧ (c < n) ∧ _ ∧ (((!(decide (q g c = 0))) = true → (((g : Int) = (leadZ q m a c)))) ∧ ((!(decide (q g c = 0))) = false → _ ∧ ((fun X1 X2 X3 : Prop => ∃ g1 : Nat, X1 ∧ X2 ∧ X3 ∧ (((g + 1 : Nat) : Int) = (g1 : Int)) ∧ (a ≤ g1 ∧ g1 ≤ m ∧ leadK q c a (m - a) = leadK q c g1 (m - g1)) ∧ (m - g1 < m - g)) _ _ _)))) ∧ ((decide ((g : Int) < (m : Int))) = false → (((-1 : Int) = (leadZ q m a c)))))))
  ⟨(fun _ _ => (fun _ _ => trivial)), ⟨a, (rf m), (leS (mE q n) m), (rf (c : Int)), zo, by omega, by omega, rfl⟩, fun g hg => have hg1 := hg.2.1; ⟨fun hc12 => have hc12 := dT hc12; ⟨(rf (g : Int)), zo, (rf (c : Int)), zo, sRatZero (q := q g c), fun hc23 => have hz : q g c ≠ 0 := (by simpa using hc23); (leadZ_hit zo hg.2.2 hz).symm, fun hc23 => have hz : q g c = 0 := (by simpa using hc23); ⟨(wI (g := g) zo), g + 1, (rf m), (leS (mE q n) m), (rf (c : Int)), zo, ⟨by omega, by omega, hg.2.2.trans (leadK_step zo hz)⟩, zo⟩⟩, fun hc12 => have hc12 := dF hc12; have hi2 : g = m := zo; (leadZ_none (hg.2.2.trans (by rw [hi2, Nat.sub_self]; rfl))).symm⟩⟩
theorem sReduced {q : Nat → Nat → Rat} {m n : Nat} (hm : m ≤ 64) (hn : n ≤ 64) (hs : ∀ c, c ≤ n → HtB m n 100000000 (red m q c).1) : CallOK Tryz.prog 61 [.agg (.cn (.sl 1 (mE q n) m) (.cn (.ex (.int .i64 (n : Int))) (.nl)))] (.cn (.agg (.cn (.sl 1 (mE ((red m q n).1) n) m) (.cn (.ex (.int .i64 (n : Int))) (.nl)))) (.cn (.sl 1 (fun i0 => .ex (.int .i64 (((red m q n).2.2 i0 : Nat) : Int))) ((red m q n).2.1)) (.nl))) [] := by
 exact kP (ch := [.reg 1 [(1, .callS (.own 0 0) [.one (.row 69 1 (mE q n) m)])], .reg 3 [(1, .callS (.ex (.int .i64 (n : Int))) [])], .loop 4 (Nat) (fun g => g ≤ n) (fun g => n - g) (fun g => ⟨[(1, .own 0 0), (2, .own 1 0), (4, .own 2 0), (17, .ex (.int .i64 (n : Int))), (18, .ex (.int .i64 (g : Int))), (5, .own 4 0)], [(0, .one (.var 32 (.agg (.cn (.sl 1 (mE q n) m) (.cn (.ex (.int .i64 (n : Int))) (.nl)))))), (1, .one (.var 32 (.ex (.agg #[.slice none 0 0, .int .i64 0])))), (2, .one (.row 69 1 (mE (red m q g).1 n) m)), (4, .one (.row 3 1 (fun i0 => .ex (.int .i64 (((red m q g).2.2 i0 : Nat) : Int))) ((red m q g).2.1)))], 5⟩) [(0, .id 0), (1, .id 1), (2, .id 2), (4, .nil)] (fun _ => [(0, .id 0), (1, .id 1), (2, .id 2), (4, .id 4)]) (fun g => [.reg 7 [(3, .callS (.ex (.int .i64 (leadZ ((red m q g).1) m ((red m q g).2.1) g))) [])], .reg 19 [(0, .z ((g + 1 : Nat) : Int))], .reg 9 [(6, .k (leadK (red m q g).1 g (red m q g).2.1 (m - (red m q g).2.1))), (10, .k ((red m q g).2.1)), (12, .k ((red m q g).2.1)), (13, .row 0 (mE (setR (red m q g).1 (red m q g).2.1 ((red m q g).1 (leadK (red m q g).1 g (red m q g).2.1 (m - (red m q g).2.1)))) n)), (14, .k (leadK (red m q g).1 g (red m q g).2.1 (m - (red m q g).2.1))), (15, .row 0 (mE (swapR (red m q g).1 (red m q g).2.1 (leadK (red m q g).1 g (red m q g).2.1 (m - (red m q g).2.1))) n))], .reg 10 [(2, .k ((red m q g).2.1)), (5, .k g), (7, .callS (.cn (.rat (((swapR (red m q g).1 (red m q g).2.1 (leadK (red m q g).1 g (red m q g).2.1 (m - (red m q g).2.1))) ((red m q g).2.1) g)⁻¹)) (.cn (.ex (.bool (!decide (((swapR (red m q g).1 (red m q g).2.1 (leadK (red m q g).1 g (red m q g).2.1 (m - (red m q g).2.1))) ((red m q g).2.1) g) = 0)))) (.nl))) [])], .reg 11 [(5, .k ((red m q g).2.1)), (7, .callS (.sl 3 (fun i0 => .rat ((((swapR (red m q g).1 (red m q g).2.1 (leadK (red m q g).1 g (red m q g).2.1 (m - (red m q g).2.1))) ((red m q g).2.1) g)⁻¹) * ((swapR (red m q g).1 (red m q g).2.1 (leadK (red m q g).1 g (red m q g).2.1 (m - (red m q g).2.1))) ((red m q g).2.1) i0))) n) []), (8, .k ((red m q g).2.1)), (9, .row 0 (mE (scaleQ (swapR (red m q g).1 (red m q g).2.1 (leadK (red m q g).1 g (red m q g).2.1 (m - (red m q g).2.1))) (red m q g).2.1 g) n))], .loop 13 (Nat) (fun h => h ≤ m) (fun h => m - h) (fun h => ⟨[(1, .own 0 0), (2, .own 1 0), (4, .own 2 0), (17, .ex (.int .i64 (n : Int))), (18, .ex (.int .i64 (g : Int))), (5, .own 4 0), (6, .ex (.int .i64 (g : Int))), (7, .ex (.int .i64 (((red m q g).2.1 : Nat) : Int))), (64, .ex (.int .i64 (m : Int))), (65, .ex (.int .i64 (h : Int)))], [(0, .one (.var 32 (.agg (.cn (.sl 1 (mE q n) m) (.cn (.ex (.int .i64 (n : Int))) (.nl)))))), (1, .one (.var 32 (.ex (.agg #[.slice none 0 0, .int .i64 0])))), (2, .one (.row 69 1 (mE (clrP (scaleQ (swapR (red m q g).1 (red m q g).2.1 (leadK (red m q g).1 g (red m q g).2.1 (m - (red m q g).2.1))) (red m q g).2.1 g) (red m q g).2.1 g h) n) m)), (4, .one (.row 3 1 (fun i0 => .ex (.int .i64 (((red m q g).2.2 i0 : Nat) : Int))) ((red m q g).2.1)))], 5⟩) [(0, .id 0), (1, .id 1), (2, .id 2), (4, .id 4)] (fun _ => [(0, .id 0), (1, .id 1), (2, .id 2), (4, .id 4)]) (fun h => [.reg 15 [(6, .k h), (9, .k g), (11, .callS (.ex (.bool (decide ((clrP (scaleQ (swapR (red m q g).1 (red m q g).2.1 (leadK (red m q g).1 g (red m q g).2.1 (m - (red m q g).2.1))) (red m q g).2.1 g) (red m q g).2.1 g h) h g = 0)))) [])], .reg 16 [(4, .k h), (8, .k h), (11, .k g), (13, .callS (.rat (-((clrP (scaleQ (swapR (red m q g).1 (red m q g).2.1 (leadK (red m q g).1 g (red m q g).2.1 (m - (red m q g).2.1))) (red m q g).2.1 g) (red m q g).2.1 g h) h g))) []), (16, .k ((red m q g).2.1)), (18, .callS (.cn (.sl 3 (fun i0 => .rat (((clrP (scaleQ (swapR (red m q g).1 (red m q g).2.1 (leadK (red m q g).1 g (red m q g).2.1 (m - (red m q g).2.1))) (red m q g).2.1 g) (red m q g).2.1 g h) h i0) + (-((clrP (scaleQ (swapR (red m q g).1 (red m q g).2.1 (leadK (red m q g).1 g (red m q g).2.1 (m - (red m q g).2.1))) (red m q g).2.1 g) (red m q g).2.1 g h) h g)) * ((clrP (scaleQ (swapR (red m q g).1 (red m q g).2.1 (leadK (red m q g).1 g (red m q g).2.1 (m - (red m q g).2.1))) (red m q g).2.1 g) (red m q g).2.1 g h) ((red m q g).2.1) i0))) n) (.cn (.ex (.bool true)) (.nl))) []), (22, .k h), (23, .row 0 (mE (clrP (scaleQ (swapR (red m q g).1 (red m q g).2.1 (leadK (red m q g).1 g (red m q g).2.1 (m - (red m q g).2.1))) (red m q g).2.1 g) (red m q g).2.1 g (h + 1)) n))], .reg 17 [(0, .z ((h + 1 : Nat) : Int))], .reg 17 [(0, .z ((h + 1 : Nat) : Int))], .conv 18 [(0, .id 0), (1, .id 1), (2, .id 2), (3, .id 4)] ⟨[(1, .own 0 0), (2, .own 1 0), (4, .own 2 0), (17, .ex (.int .i64 (n : Int))), (18, .ex (.int .i64 (g : Int))), (5, .own 3 0), (6, .ex (.int .i64 (g : Int)))], [(0, .one (.var 32 (.agg (.cn (.sl 1 (mE q n) m) (.cn (.ex (.int .i64 (n : Int))) (.nl)))))), (1, .one (.var 32 (.ex (.agg #[.slice none 0 0, .int .i64 0])))), (2, .one (.row 69 1 (mE (red m q (g + 1)).1 n) m)), (3, .one (.row 3 1 (fun i0 => .ex (.int .i64 (((red m q g).2.2 i0 : Nat) : Int))) ((red m q g).2.1)))], 4⟩, .reg 18 [(3, .row 0 (fun i0 => .ex (.int .i64 (((red m q (g + 1)).2.2 i0 : Nat) : Int))))], .reg 19 [(0, .z ((g + 1 : Nat) : Int))]]), .conv 20 [(0, .id 0), (1, .id 1)] ⟨[(1, .own 0 0), (2, .own 1 0), (4, .sl 1 (mE ((red m q n).1) n) m), (5, .sl 1 (fun i0 => .ex (.int .i64 (((red m q n).2.2 i0 : Nat) : Int))) ((red m q n).2.1))], [(0, .one (.var 32 (.agg (.cn (.sl 1 (mE q n) m) (.cn (.ex (.int .i64 (n : Int))) (.nl)))))), (1, .one (.var 32 (.ex (.agg #[.slice none 0 0, .int .i64 0]))))], 2⟩, .reg 20 [(1, .callS (.ex (.int .i64 (n : Int))) []), (3, .callS (.cn (.agg (.cn (.sl 1 (mE ((red m q n).1) n) m) (.cn (.ex (.int .i64 (n : Int))) (.nl)))) (.cn (.ex (.bool true)) (.nl))) [])]])]) Tryz.func61 ((∀ j0, j0 < m → (∀ j1, j1 < n → True)) ∧ _ ∧ _ ∧ (((fun X1 X2 X3 X4 X5 X6 X7 X8 X9 : Prop => ∃ g0 : Nat, X1 ∧ X2 ∧ X3 ∧ X4 ∧ ((0 : Int) = (g0 : Int)) ∧ X5 ∧ X6 ∧ X7 ∧ X8 ∧ ((.agg #[.slice none 0 0, .int .i64 0] : Value) = .agg #[.slice none 0 0, .int .i64 0]) ∧ X9 ∧ (∀ j0, j0 < m → ((n : Nat) = n) ∧ (∀ j1, j1 < n → ((q j0 j1 : Rat) = ((red m q g0).1 j0 j1)))) ∧ (((red m q g0).2.1 : Nat) = 0) ∧ (g0 ≤ n)) _ _ _ _ _ _ _ _ _) ∧ ∀ g : Nat, (g ≤ n) → (((decide ((g : Int) < (n : Int))) = true → _ ∧ (((decide ((leadZ ((red m q g).1) m ((red m q g).2.1) g : Int) < 0)) = true → _ ∧ ((fun X1 X2 X3 X4 X5 X6 X7 X8 X9 : Prop => ∃ g1 : Nat, X1 ∧ X2 ∧ X3 ∧ X4 ∧ (((g + 1 : Nat) : Int) = (g1 : Int)) ∧ X5 ∧ X6 ∧ X7 ∧ X8 ∧ ((.agg #[.slice none 0 0, .int .i64 0] : Value) = .agg #[.slice none 0 0, .int .i64 0]) ∧ X9 ∧ (∀ j0, j0 < m → ((n : Nat) = n) ∧ (∀ j1, j1 < n → (((red m q g).1 j0 j1 : Rat) = ((red m q g1).1 j0 j1)))) ∧ (((red m q g).2.1 : Nat) = ((red m q g1).2.1)) ∧ (∀ j0, j0 < ((red m q g).2.1) → ((((red m q g).2.2 j0 : Nat) : Int) = (((red m q g1).2.2 j0 : Nat) : Int))) ∧ (g1 ≤ n) ∧ (n - g1 < n - g)) _ _ _ _ _ _ _ _ _)) ∧ ((decide ((leadZ ((red m q g).1) m ((red m q g).2.1) g : Int) < 0)) = false → ((leadZ ((red m q g).1) m ((red m q g).2.1) g : Int) = (((leadK (red m q g).1 g (red m q g).2.1 (m - (red m q g).2.1)) : Nat) : Int)) ∧ ((leadK (red m q g).1 g (red m q g).2.1 (m - (red m q g).2.1)) < m) ∧ ((leadK (red m q g).1 g (red m q g).2.1 (m - (red m q g).2.1)) < m) ∧ _ ∧ (((red m q g).2.1) < m) ∧ (((red m q g).2.1) < m) ∧ _ ∧ (((red m q g).2.1) < m) ∧ (((red m q g).2.1) < m) ∧ (((n : Nat) = n) ∧ (∀ j0, j0 < n → (((red m q g).1 (leadK (red m q g).1 g (red m q g).2.1 (m - (red m q g).2.1)) j0 : Rat) = ((setR (red m q g).1 (red m q g).2.1 ((red m q g).1 (leadK (red m q g).1 g (red m q g).2.1 (m - (red m q g).2.1)))) ((red m q g).2.1) j0)))) ∧ (∀ t, t < m → t ≠ ((red m q g).2.1) → (.sl 3 (fun i0 => .rat ((setR (red m q g).1 (red m q g).2.1 ((red m q g).1 (leadK (red m q g).1 g (red m q g).2.1 (m - (red m q g).2.1)))) t i0)) n : SV) = .sl 3 (fun i0 => .rat ((red m q g).1 t i0)) n) ∧ ((leadZ ((red m q g).1) m ((red m q g).2.1) g : Int) = (((leadK (red m q g).1 g (red m q g).2.1 (m - (red m q g).2.1)) : Nat) : Int)) ∧ ((leadK (red m q g).1 g (red m q g).2.1 (m - (red m q g).2.1)) < m) ∧ ((leadK (red m q g).1 g (red m q g).2.1 (m - (red m q g).2.1)) < m) ∧ (((n : Nat) = n) ∧ (∀ j0, j0 < n → (((red m q g).1 ((red m q g).2.1) j0 : Rat) = ((swapR (red m q g).1 (red m q g).2.1 (leadK (red m q g).1 g (red m q g).2.1 (m - (red m q g).2.1))) (leadK (red m q g).1 g (red m q g).2.1 (m - (red m q g).2.1)) j0)))) ∧ (∀ t, t < m → t ≠ (leadK (red m q g).1 g (red m q g).2.1 (m - (red m q g).2.1)) → (.sl 3 (fun i0 => .rat ((swapR (red m q g).1 (red m q g).2.1 (leadK (red m q g).1 g (red m q g).2.1 (m - (red m q g).2.1))) t i0)) n : SV) = .sl 3 (fun i0 => .rat ((setR (red m q g).1 (red m q g).2.1 ((red m q g).1 (leadK (red m q g).1 g (red m q g).2.1 (m - (red m q g).2.1)))) t i0)) n) ∧ _ ∧ (((red m q g).2.1) < m) ∧ (((red m q g).2.1) < m) ∧ _ ∧ (g < n) ∧ _ ∧ _ ∧ (((red m q g).2.1) < m) ∧ (((red m q g).2.1) < m) ∧ _ ∧ _ ∧ (((red m q g).2.1) < m) ∧ (((red m q g).2.1) < m) ∧ (((n : Nat) = n) ∧ (∀ j0, j0 < n → (((((swapR (red m q g).1 (red m q g).2.1 (leadK (red m q g).1 g (red m q g).2.1 (m - (red m q g).2.1))) ((red m q g).2.1) g)⁻¹) * ((swapR (red m q g).1 (red m q g).2.1 (leadK (red m q g).1 g (red m q g).2.1 (m - (red m q g).2.1))) ((red m q g).2.1) j0) : Rat) = ((scaleQ (swapR (red m q g).1 (red m q g).2.1 (leadK (red m q g).1 g (red m q g).2.1 (m - (red m q g).2.1))) (red m q g).2.1 g) ((red m q g).2.1) j0)))) ∧ (∀ t, t < m → t ≠ ((red m q g).2.1) → (.sl 3 (fun i0 => .rat ((scaleQ (swapR (red m q g).1 (red m q g).2.1 (leadK (red m q g).1 g (red m q g).2.1 (m - (red m q g).2.1))) (red m q g).2.1 g) t i0)) n : SV) = .sl 3 (fun i0 => .rat ((swapR (red m q g).1 (red m q g).2.1 (leadK (red m q g).1 g (red m q g).2.1 (m - (red m q g).2.1))) t i0)) n) ∧ (((fun X1 X2 X3 X4 X5 X6 X7 X8 X9 X10 X11 X12 X13 X14 X15 : Prop => ∃ h0 : Nat, X1 ∧ X2 ∧ X3 ∧ X4 ∧ X5 ∧ X6 ∧ X7 ∧ X8 ∧ X9 ∧ ((0 : Int) = (h0 : Int)) ∧ X10 ∧ X11 ∧ X12 ∧ ((.agg #[.slice none 0 0, .int .i64 0] : Value) = .agg #[.slice none 0 0, .int .i64 0]) ∧ X13 ∧ (∀ j0, j0 < m → ((n : Nat) = n) ∧ (∀ j1, j1 < n → (((scaleQ (swapR (red m q g).1 (red m q g).2.1 (leadK (red m q g).1 g (red m q g).2.1 (m - (red m q g).2.1))) (red m q g).2.1 g) j0 j1 : Rat) = ((clrP (scaleQ (swapR (red m q g).1 (red m q g).2.1 (leadK (red m q g).1 g (red m q g).2.1 (m - (red m q g).2.1))) (red m q g).2.1 g) (red m q g).2.1 g h0) j0 j1)))) ∧ X14 ∧ X15 ∧ (h0 ≤ m)) _ _ _ _ _ _ _ _ _ _ _ _ _ _ _) ∧ ∀ h : Nat, (h ≤ m) → (((decide ((h : Int) < (m : Int))) = true → (((!decide ((h : Int) = (((red m q g).2.1 : Nat) : Int))) == true) = true → ((!decide ((h : Int) = (((red m q g).2.1 : Nat) : Int))) == true) = true) ∧ (((!decide ((h : Int) = (((red m q g).2.1 : Nat) : Int))) == true) = true → ((!decide ((h : Int) = (((red m q g).2.1 : Nat) : Int))) == true) = true) ∧ (((!decide ((h : Int) = (((red m q g).2.1 : Nat) : Int))) == true) = true → _) ∧ (((!decide ((h : Int) = (((red m q g).2.1 : Nat) : Int))) == true) = true → h < m) ∧ (((!decide ((h : Int) = (((red m q g).2.1 : Nat) : Int))) == true) = true → ((!decide ((h : Int) = (((red m q g).2.1 : Nat) : Int))) == true) = true) ∧ (((!decide ((h : Int) = (((red m q g).2.1 : Nat) : Int))) == true) = true → h < m) ∧ (((!decide ((h : Int) = (((red m q g).2.1 : Nat) : Int))) == true) = true → ((!decide ((h : Int) = (((red m q g).2.1 : Nat) : Int))) == true) = true) ∧ (((!decide ((h : Int) = (((red m q g).2.1 : Nat) : Int))) == true) = true → ((!decide ((h : Int) = (((red m q g).2.1 : Nat) : Int))) == true) = true) ∧ (((!decide ((h : Int) = (((red m q g).2.1 : Nat) : Int))) == true) = true → _) ∧ (((!decide ((h : Int) = (((red m q g).2.1 : Nat) : Int))) == true) = true → g < n) ∧ (((!decide ((h : Int) = (((red m q g).2.1 : Nat) : Int))) == true) = true → ((!decide ((h : Int) = (((red m q g).2.1 : Nat) : Int))) == true) = true) ∧ (((!decide ((h : Int) = (((red m q g).2.1 : Nat) : Int))) == true) = true → ((!decide ((h : Int) = (((red m q g).2.1 : Nat) : Int))) == true) = true) ∧ (((!decide ((h : Int) = (((red m q g).2.1 : Nat) : Int))) == true) = true → _) ∧ (((!decide ((h : Int) = (((red m q g).2.1 : Nat) : Int))) == true) = true → ((!decide ((h : Int) = (((red m q g).2.1 : Nat) : Int))) == true) = true) ∧ ((!decide ((h : Int) = (((red m q g).2.1 : Nat) : Int))) = true → ((!decide ((h : Int) = (((red m q g).2.1 : Nat) : Int))) == true) = true) ∧ (((bif (!decide ((h : Int) = (((red m q g).2.1 : Nat) : Int))) then (!(decide ((clrP (scaleQ (swapR (red m q g).1 (red m q g).2.1 (leadK (red m q g).1 g (red m q g).2.1 (m - (red m q g).2.1))) (red m q g).2.1 g) (red m q g).2.1 g h) h g = 0))) else false) = true → _ ∧ (h < m) ∧ (h < m) ∧ _ ∧ (h < m) ∧ (h < m) ∧ _ ∧ (g < n) ∧ _ ∧ _ ∧ (((red m q g).2.1) < m) ∧ (((red m q g).2.1) < m) ∧ _ ∧ _ ∧ (h < m) ∧ (h < m) ∧ (((n : Nat) = n) ∧ (∀ j0, j0 < n → ((((clrP (scaleQ (swapR (red m q g).1 (red m q g).2.1 (leadK (red m q g).1 g (red m q g).2.1 (m - (red m q g).2.1))) (red m q g).2.1 g) (red m q g).2.1 g h) h j0) + (-((clrP (scaleQ (swapR (red m q g).1 (red m q g).2.1 (leadK (red m q g).1 g (red m q g).2.1 (m - (red m q g).2.1))) (red m q g).2.1 g) (red m q g).2.1 g h) h g)) * ((clrP (scaleQ (swapR (red m q g).1 (red m q g).2.1 (leadK (red m q g).1 g (red m q g).2.1 (m - (red m q g).2.1))) (red m q g).2.1 g) (red m q g).2.1 g h) ((red m q g).2.1) j0) : Rat) = ((clrP (scaleQ (swapR (red m q g).1 (red m q g).2.1 (leadK (red m q g).1 g (red m q g).2.1 (m - (red m q g).2.1))) (red m q g).2.1 g) (red m q g).2.1 g (h + 1)) h j0)))) ∧ (∀ t, t < m → t ≠ h → (.sl 3 (fun i0 => .rat ((clrP (scaleQ (swapR (red m q g).1 (red m q g).2.1 (leadK (red m q g).1 g (red m q g).2.1 (m - (red m q g).2.1))) (red m q g).2.1 g) (red m q g).2.1 g (h + 1)) t i0)) n : SV) = .sl 3 (fun i0 => .rat ((clrP (scaleQ (swapR (red m q g).1 (red m q g).2.1 (leadK (red m q g).1 g (red m q g).2.1 (m - (red m q g).2.1))) (red m q g).2.1 g) (red m q g).2.1 g h) t i0)) n) ∧ _ ∧ ((fun X1 X2 X3 X4 X5 X6 X7 X8 X9 X10 X11 X12 X13 X14 X15 : Prop => ∃ h1 : Nat, X1 ∧ X2 ∧ X3 ∧ X4 ∧ X5 ∧ X6 ∧ X7 ∧ X8 ∧ X9 ∧ (((h + 1 : Nat) : Int) = (h1 : Int)) ∧ X10 ∧ X11 ∧ X12 ∧ ((.agg #[.slice none 0 0, .int .i64 0] : Value) = .agg #[.slice none 0 0, .int .i64 0]) ∧ X13 ∧ (∀ j0, j0 < m → ((n : Nat) = n) ∧ (∀ j1, j1 < n → (((clrP (scaleQ (swapR (red m q g).1 (red m q g).2.1 (leadK (red m q g).1 g (red m q g).2.1 (m - (red m q g).2.1))) (red m q g).2.1 g) (red m q g).2.1 g (h + 1)) j0 j1 : Rat) = ((clrP (scaleQ (swapR (red m q g).1 (red m q g).2.1 (leadK (red m q g).1 g (red m q g).2.1 (m - (red m q g).2.1))) (red m q g).2.1 g) (red m q g).2.1 g h1) j0 j1)))) ∧ X14 ∧ X15 ∧ (h1 ≤ m) ∧ (m - h1 < m - h)) _ _ _ _ _ _ _ _ _ _ _ _ _ _ _)) ∧ ((bif (!decide ((h : Int) = (((red m q g).2.1 : Nat) : Int))) then (!(decide ((clrP (scaleQ (swapR (red m q g).1 (red m q g).2.1 (leadK (red m q g).1 g (red m q g).2.1 (m - (red m q g).2.1))) (red m q g).2.1 g) (red m q g).2.1 g h) h g = 0))) else false) = false → _ ∧ ((fun X1 X2 X3 X4 X5 X6 X7 X8 X9 X10 X11 X12 X13 X14 X15 : Prop => ∃ h1 : Nat, X1 ∧ X2 ∧ X3 ∧ X4 ∧ X5 ∧ X6 ∧ X7 ∧ X8 ∧ X9 ∧ (((h + 1 : Nat) : Int) = (h1 : Int)) ∧ X10 ∧ X11 ∧ X12 ∧ ((.agg #[.slice none 0 0, .int .i64 0] : Value) = .agg #[.slice none 0 0, .int .i64 0]) ∧ X13 ∧ (∀ j0, j0 < m → ((n : Nat) = n) ∧ (∀ j1, j1 < n → (((clrP (scaleQ (swapR (red m q g).1 (red m q g).2.1 (leadK (red m q g).1 g (red m q g).2.1 (m - (red m q g).2.1))) (red m q g).2.1 g) (red m q g).2.1 g h) j0 j1 : Rat) = ((clrP (scaleQ (swapR (red m q g).1 (red m q g).2.1 (leadK (red m q g).1 g (red m q g).2.1 (m - (red m q g).2.1))) (red m q g).2.1 g) (red m q g).2.1 g h1) j0 j1)))) ∧ X14 ∧ X15 ∧ (h1 ≤ m) ∧ (m - h1 < m - h)) _ _ _ _ _ _ _ _ _ _ _ _ _ _ _)))) ∧ ((decide ((h : Int) < (m : Int))) = false → _ ∧ _ ∧ _ ∧ _ ∧ _ ∧ _ ∧ _ ∧ _ ∧ _ ∧ _ ∧ ((.agg #[.slice none 0 0, .int .i64 0] : Value) = .agg #[.slice none 0 0, .int .i64 0]) ∧ _ ∧ (∀ j0, j0 < m → ((n : Nat) = n) ∧ (∀ j1, j1 < n → (((clrP (scaleQ (swapR (red m q g).1 (red m q g).2.1 (leadK (red m q g).1 g (red m q g).2.1 (m - (red m q g).2.1))) (red m q g).2.1 g) (red m q g).2.1 g h) j0 j1 : Rat) = ((red m q (g + 1)).1 j0 j1)))) ∧ _ ∧ _ ∧ (((red m q g).2.1) + 1 ≤ 68719476736) ∧ (∀ j0, j0 < ((red m q g).2.1) → (.ex (.int .i64 (((red m q (g + 1)).2.2 j0 : Nat) : Int)) : SV) = .ex (.int .i64 (((red m q g).2.2 j0 : Nat) : Int))) ∧ (∀ j0, j0 < 1 → ((g : Int) = (((red m q (g + 1)).2.2 (((red m q g).2.1) + j0) : Nat) : Int))) ∧ _ ∧ ((fun X1 X2 X3 X4 X5 X6 X7 X8 X9 : Prop => ∃ g1 : Nat, X1 ∧ X2 ∧ X3 ∧ X4 ∧ (((g + 1 : Nat) : Int) = (g1 : Int)) ∧ X5 ∧ X6 ∧ X7 ∧ X8 ∧ ((.agg #[.slice none 0 0, .int .i64 0] : Value) = .agg #[.slice none 0 0, .int .i64 0]) ∧ X9 ∧ (∀ j0, j0 < m → ((n : Nat) = n) ∧ (∀ j1, j1 < n → (((red m q (g + 1)).1 j0 j1 : Rat) = ((red m q g1).1 j0 j1)))) ∧ ((((red m q g).2.1) + 1 : Nat) = ((red m q g1).2.1)) ∧ (∀ j0, j0 < (((red m q g).2.1) + 1) → ((((red m q (g + 1)).2.2 j0 : Nat) : Int) = (((red m q g1).2.2 j0 : Nat) : Int))) ∧ (g1 ≤ n) ∧ (n - g1 < n - g)) _ _ _ _ _ _ _ _ _))))))) ∧ ((decide ((g : Int) < (n : Int))) = false → _ ∧ _ ∧ _ ∧ (∀ j0, j0 < m → ((n : Nat) = n) ∧ (∀ j1, j1 < n → (((red m q g).1 j0 j1 : Rat) = (((red m q n).1) j0 j1)))) ∧ (((red m q g).2.1 : Nat) = ((red m q n).2.1)) ∧ (∀ j0, j0 < ((red m q g).2.1) → ((((red m q g).2.2 j0 : Nat) : Int) = (((red m q n).2.2 j0 : Nat) : Int))) ∧ _ ∧ _ ∧ _ ∧ ((.agg #[.slice none 0 0, .int .i64 0] : Value) = .agg #[.slice none 0 0, .int .i64 0]) ∧ _ ∧ _ ∧ (_ ∧ _ ∧ _ ∧ _ ∧ _)))))
  ⟨(fun _ _ => (fun _ _ => trivial)), sRowsOf (m := m) (n := n) (q := q) zo zo, sMatCols (m := m) (n := n) (q := q), ⟨0, (rf 0), (rf 0), (rf 0), (rf (n : Int)), zo, (rf 0), (rf m), (leS (mE q n) m), (rf (n : Int)), rfl, (rf m), (fun j0 hj0 => ⟨rfl, (fun j1 hj1 => rfl)⟩), rfl, zo⟩, fun g hg => have H1 := (red_inv m q g).am; have H2 := (red_inv m q g).ac; ⟨fun hc19 => have hc19 := dT hc19; ⟨sLead (m := m) (n := n) (a := (red m q g).2.1) (c := g) (q := ((red m q g).1)) zo zo zo, fun hc28 => have hc28 := dT hc28; have hk2 := lead_no hc28; ⟨(wI (g := g) zo), g + 1, (rf 0), (rf 0), (rf 0), (rf (n : Int)), zo, (rf 0), (rf m), (leS (mE q n) m), (rf (n : Int)), rfl, (rf m), (fun j0 hj0 => ⟨rfl, (fun j1 hj1 => (by first | rfl | rw [red_skip hk2]))⟩), (by first | exact red_hit2 hk2 | rw [red_skip hk2]), (fun j0 hj0 => (by first | rfl | rw [red_skip hk2])), zo, zo⟩, fun hc28 => have hc28 := dF hc28; have hk2 := lead_yes hc28; have hk1 := leadK_le (B := (red m q g).1) (c := g) (m - (red m q g).2.1) (red m q g).2.1; have ha : (red m q g).2.1 < m := zo; have H3 := hs g zo; have H4 := H3.swap (k := (red m q g).2.1) ha hk2; have H5 := fun j hj => H4.scale (c := g) (j := j) ha zo hj; ⟨(leadZ_pos hk2), zo, zo, (rf (((red m q g).2.1 : Nat) : Int)), zo, zo, (rf (((red m q g).2.1 : Nat) : Int)), zo, zo, ⟨rfl, (fun j0 hj0 => (if_pos rfl).symm)⟩, (fun t ht hne => by simp only [setR_ne hne]), (leadZ_pos hk2), zo, zo, ⟨rfl, (fun j0 hj0 => (swap_at))⟩, (fun t ht hne => by simp only [swap_other hne]), (rf (((red m q g).2.1 : Nat) : Int)), zo, zo, (rf (g : Int)), zo, sRatInv (q := (swapR (red m q g).1 (red m q g).2.1 (leadK (red m q g).1 g (red m q g).2.1 (m - (red m q g).2.1))) ((red m q g).2.1) g) (inv_room H4 ha zo), (rf (((red m q g).2.1 : Nat) : Int)), zo, zo, (sVecScale (n := n) (a := (swapR (red m q g).1 (red m q g).2.1 (leadK (red m q g).1 g (red m q g).2.1 (m - (red m q g).2.1))) ((red m q g).2.1)) (r := (((swapR (red m q g).1 (red m q g).2.1 (leadK (red m q g).1 g (red m q g).2.1 (m - (red m q g).2.1))) ((red m q g).2.1) g)⁻¹)) zo (scale_room H4 ha zo)).frzV, (rf (((red m q g).2.1 : Nat) : Int)), zo, zo, ⟨rfl, (fun j0 hj0 => (if_pos rfl).symm)⟩, (fun t ht hne => by simp only [scale_other hne]), ⟨0, (rf 0), (rf 0), (rf 0), (rf (n : Int)), (rf (g : Int)), (rf 0), (rf (g : Int)), (rf (((red m q g).2.1 : Nat) : Int)), (rf (m : Int)), zo, (rf m), (leS (mE q n) m), (rf (n : Int)), rfl, (rf m), (fun j0 hj0 => ⟨rfl, (fun j1 hj1 => clrP_zero)⟩), (rf ((red m q g).2.1 : Nat)), (leS (fun i0 => .ex (.int .i64 (((red m q g).2.2 i0 : Nat) : Int))) ((red m q g).2.1)), zo⟩, fun h hh => ⟨fun hc66 => have hc66 := dT hc66; ⟨id, id, (fun hg => (rf (h : Int))), (fun hg => zo), id, (fun hg => zo), id, id, (fun hg => (rf (g : Int))), (fun hg => zo), id, id, (fun hg => sRatZero (q := (clrP (scaleQ (swapR (red m q g).1 (red m q g).2.1 (leadK (red m q g).1 g (red m q g).2.1 (m - (red m q g).2.1))) (red m q g).2.1 g) (red m q g).2.1 g h) h g)), id, (by simp), fun hc81 => have hz := clr_yes hc81; ⟨(rf (h : Int)), zo, zo, (rf (h : Int)), zo, zo, (rf (g : Int)), zo, sRatNeg (q := (clrP (scaleQ (swapR (red m q g).1 (red m q g).2.1 (leadK (red m q g).1 g (red m q g).2.1 (m - (red m q g).2.1))) (red m q g).2.1 g) (red m q g).2.1 g h) h g), (rf (((red m q g).2.1 : Nat) : Int)), zo, zo, (sVecAddTimes (a := (clrP (scaleQ (swapR (red m q g).1 (red m q g).2.1 (leadK (red m q g).1 g (red m q g).2.1 (m - (red m q g).2.1))) (red m q g).2.1 g) (red m q g).2.1 g h) h) (b := (clrP (scaleQ (swapR (red m q g).1 (red m q g).2.1 (leadK (red m q g).1 g (red m q g).2.1 (m - (red m q g).2.1))) (red m q g).2.1 g) (red m q g).2.1 g h) ((red m q g).2.1)) (n := n) (r := - ((clrP (scaleQ (swapR (red m q g).1 (red m q g).2.1 (leadK (red m q g).1 g (red m q g).2.1 (m - (red m q g).2.1))) (red m q g).2.1 g) (red m q g).2.1 g h) h g)) zo (clr_room H4 ha zo zo hz.1)).frzV2, (rf (h : Int)), zo, zo, ⟨rfl, (fun j0 hj0 => (clrP_at hz.1))⟩, (fun t ht hne => by simp only [clrP_ne hne]), (wI (g := h) zo), h + 1, (rf 0), (rf 0), (rf 0), (rf (n : Int)), (rf (g : Int)), (rf 0), (rf (g : Int)), (rf (((red m q g).2.1 : Nat) : Int)), (rf (m : Int)), zo, (rf m), (leS (mE q n) m), (rf (n : Int)), rfl, (rf m), (fun j0 hj0 => ⟨rfl, (fun j1 hj1 => (by first | rfl | exact clrP_skip hz))⟩), (rf ((red m q g).2.1 : Nat)), (leS (fun i0 => .ex (.int .i64 (((red m q g).2.2 i0 : Nat) : Int))) ((red m q g).2.1)), zo, zo⟩, fun hc81 => have hz := clr_no hc81; ⟨(wI (g := h) zo), h + 1, (rf 0), (rf 0), (rf 0), (rf (n : Int)), (rf (g : Int)), (rf 0), (rf (g : Int)), (rf (((red m q g).2.1 : Nat) : Int)), (rf (m : Int)), zo, (rf m), (leS (mE q n) m), (rf (n : Int)), rfl, (rf m), (fun j0 hj0 => ⟨rfl, (fun j1 hj1 => (by first | rfl | exact clrP_skip hz))⟩), (rf ((red m q g).2.1 : Nat)), (leS (fun i0 => .ex (.int .i64 (((red m q g).2.2 i0 : Nat) : Int))) ((red m q g).2.1)), zo, zo⟩⟩, fun hc66 => have hc66 := dF hc66; have hi3 : h = m := zo; ⟨(rf 0), (rf 0), (rf 0), (rf (n : Int)), (rf (g : Int)), (rf 0), (rf (g : Int)), (rf m), (leS (mE q n) m), (rf (n : Int)), rfl, (rf m), (fun j0 hj0 => ⟨rfl, (fun j1 hj1 => (red_hit1 hk2 zo))⟩), (rf ((red m q g).2.1 : Nat)), (leS (fun i0 => .ex (.int .i64 (((red m q g).2.2 i0 : Nat) : Int))) ((red m q g).2.1)), zo, (red_hit3 hk2), (red_hit4 hk2), (wI (g := g) zo), g + 1, (rf 0), (rf 0), (rf 0), (rf (n : Int)), zo, (rf 0), (rf m), (leS (mE q n) m), (rf (n : Int)), rfl, (rf m), (fun j0 hj0 => ⟨rfl, (fun j1 hj1 => (by first | rfl | rw [red_skip hk2]))⟩), (by first | exact red_hit2 hk2 | rw [red_skip hk2]), (fun j0 hj0 => (by first | rfl | rw [red_skip hk2])), zo, zo⟩⟩⟩⟩, fun hc19 => have hc19 := dF hc19; have hi2 : g = n := zo; ⟨(rf 0), (rf 0), (rf m), (fun j0 hj0 => ⟨rfl, (fun j1 hj1 => (by rw [hi2]))⟩), (by rw [hi2]), (fun j0 hj0 => (by rw [hi2])), (rf m), (leS (mE q n) m), (rf (n : Int)), rfl, sMatCols (m := m) (n := n) (q := q), (sMatOf (m := m) (n := n) (q := fun r c => ((red m q n).1) r c) zo zo), (rf m), (leS (mE ((red m q n).1) n) m), (rf (n : Int)), (rf ((red m q n).2.1 : Nat)), (leS (fun i0 => .ex (.int .i64 (((red m q n).2.2 i0 : Nat) : Int))) ((red m q n).2.1))⟩⟩⟩
def frL (a : Nat) (L : Nat → Nat) : Nat → Nat × (Nat → Nat)
 | 0 => (0, fun _ => 0)
 | c + 1 => if cntL a L c < a ∧ L (cntL a L c) = c then frL a L c else ((frL a L c).1 + 1, fun i => if i = (frL a L c).1 then c else (frL a L c).2 i)
theorem cntL_zero {L : Nat → Nat} : ∀ a, cntL a L 0 = 0
 | 0 => rfl
 | a + 1 => by unfold cntL; rw [if_neg (Nat.not_lt_zero _)]; exact cntL_zero a
structure LeadsOK (a n : Nat) (L : Nat → Nat) : Prop where
 inc : ∀ i j, i < j → j < a → L i < L j
 lt : ∀ i, i < a → L i < n
theorem RedInv.leads {m n : Nat} {A : Nat → Nat → Rat} {s : RedS} (H : RedInv m A n s) : LeadsOK s.2.1 n s.2.2 := ⟨H.inc, H.lt⟩
section
variable {a n c : Nat} {L : Nat → Nat}
theorem cnt_hit (H : LeadsOK a n L) (h : cntL a L c < a ∧ L (cntL a L c) = c) : cntL a L (c + 1) = cntL a L c + 1 := by
 have h1 := cntL_lt (c := c) a H.inc
 refine cntL_eq H.inc h.1 fun i hi => ?_
 have := h1 i hi
 by_cases e : i = cntL a L c
 ·subst e; rw [h.2]; omega
 ·rcases Nat.lt_or_gt_of_ne e with q | q
  ·have := this.1 q; omega
  ·have := H.inc _ _ q hi; omega
theorem cnt_miss (H : LeadsOK a n L) (h : ¬ (cntL a L c < a ∧ L (cntL a L c) = c)) : cntL a L (c + 1) = cntL a L c := by
 have h1 := cntL_lt (c := c) a H.inc
 refine cntL_eq H.inc (cntL_le a) fun i hi => ?_
 have := h1 i hi
 constructor
 ·intro q; have := this.1 q; omega
 ·intro q
  refine Classical.byContradiction fun k => ?_
  have e : L i = c := by have := mt this.2 k; omega
  by_cases z : i = cntL a L c
  ·exact h ⟨by omega, by rw [← z]; exact e⟩
  ·have h2 := H.inc (cntL a L c) i zo hi
   have := (h1 (cntL a L c) zo).2 zo
   omega
theorem fr_hit (h : cntL a L c < a ∧ L (cntL a L c) = c) : frL a L (c + 1) = frL a L c := if_pos h
theorem fr_miss (h : ¬ (cntL a L c < a ∧ L (cntL a L c) = c)) : frL a L (c + 1) = ((frL a L c).1 + 1, fun i => if i = (frL a L c).1 then c else (frL a L c).2 i) := if_neg h
theorem miss_ne (H : LeadsOK a n L) (h : ¬ (cntL a L c < a ∧ L (cntL a L c) = c)) : ∀ i, i < a → L i ≠ c := fun i hi e => by
 have h1 := cntL_lt (c := c) a H.inc
 by_cases z : i = cntL a L c
 ·exact h ⟨by omega, by rw [← z]; exact e⟩
 ·rcases Nat.lt_or_gt_of_ne z with q | q
  ·have := (h1 i hi).1 q; omega
  ·have := H.inc (cntL a L c) i q hi
   have := (h1 (cntL a L c) zo).2 zo; omega
theorem fr_inv (H : LeadsOK a n L) : ∀ c, c ≤ n → cntL a L c + (frL a L c).1 = c ∧ (∀ i, i < (frL a L c).1 → (frL a L c).2 i < c ∧ ∀ k, k < a → L k ≠ (frL a L c).2 i) ∧ (∀ i j, i < j → j < (frL a L c).1 → (frL a L c).2 i < (frL a L c).2 j) ∧ ∀ x, x < c → (∀ k, k < a → L k ≠ x) → ∃ i, i < (frL a L c).1 ∧ (frL a L c).2 i = x
 | 0, _ => ⟨by rw [cntL_zero]; rfl, fun i hi => absurd hi (Nat.not_lt_zero i), fun i j _ hj => absurd hj (Nat.not_lt_zero j), fun x hx => absurd hx (Nat.not_lt_zero x)⟩
 | c + 1, hc => by
  obtain ⟨h1, h2, h3, h4⟩ := fr_inv H c zo
  by_cases h : cntL a L c < a ∧ L (cntL a L c) = c
  ·rw [cnt_hit H h, fr_hit h]
   refine ⟨by omega, fun i hi => ⟨by have := (h2 i hi).1; omega, (h2 i hi).2⟩, h3, fun x hx hn => ?_⟩
   by_cases e : x = c
   ·exact absurd (h.2.trans e.symm) (hn _ h.1)
   ·exact h4 x zo hn
  ·rw [cnt_miss H h, fr_miss h]
   refine ⟨by show _ + (_ + 1) = _; omega, fun i hi => ?_, fun i j hij hj => ?_, fun x hx hn => ?_⟩
   ·show (if i = (frL a L c).1 then c else (frL a L c).2 i) < c + 1 ∧ ∀ k, k < a → L k ≠ (if i = (frL a L c).1 then c else (frL a L c).2 i)
    have hi : i < (frL a L c).1 + 1 := hi
    by_cases e : i = (frL a L c).1
    ·rw [if_pos e]; exact ⟨Nat.lt_succ_self c, miss_ne H h⟩
    ·rw [if_neg e]; have := h2 i zo; exact ⟨by omega, this.2⟩
   ·show (if i = (frL a L c).1 then c else (frL a L c).2 i) < (if j = (frL a L c).1 then c else (frL a L c).2 j)
    have hj : j < (frL a L c).1 + 1 := hj
    rw [if_neg zo]
    by_cases e : j = (frL a L c).1
    ·rw [if_pos e]; exact (h2 i zo).1
    ·rw [if_neg e]; exact h3 i j hij zo
   ·by_cases e : x = c
    ·exact ⟨(frL a L c).1, Nat.lt_succ_self _, by show (if (frL a L c).1 = (frL a L c).1 then c else _) = x; rw [if_pos rfl, e]⟩
    ·obtain ⟨i, hi, q⟩ := h4 x zo hn
     exact ⟨i, Nat.lt_succ_of_lt hi, by show (if i = (frL a L c).1 then c else _) = x; rw [if_neg zo]; exact q⟩
end
def solP (s : RedS) (n k j : Nat) : Rat := sumQ (fun r => if s.2.2 r = j then s.1 r n else 0) k
theorem solP_zero {s : RedS} {n j : Nat} : (0 : Rat) = solP s n 0 j := rfl
theorem solP_at {m c n : Nat} {A : Nat → Nat → Rat} {s : RedS} (H : RedInv m A c s) {k : Nat} (hk : k < s.2.1) : s.1 k n = solP s n (k + 1) (s.2.2 k) := by
 show _ = sumQ _ k + (if s.2.2 k = s.2.2 k then _ else _)
 rw [if_pos rfl, sumQ_congr k (g := fun _ => 0) fun i hi => if_neg fun e => absurd (H.inj zo hk e) zo, sumQ_zero]; grind
theorem solP_ne {s : RedS} {n k j : Nat} (h : j ≠ s.2.2 k) : solP s n (k + 1) j = solP s n k j := by
 show solP s n k j + (if s.2.2 k = j then _ else _) = _
 rw [if_neg (Ne.symm h)]; grind
def kerP (s : RedS) (c k j : Nat) : Rat := (if j = c then 1 else 0) + sumQ (fun r => if s.2.2 r = j then - s.1 r c else 0) k
theorem kerP_zero {s : RedS} {c j : Nat} : (if j = c then 1 else 0 : Rat) = kerP s c 0 j := by unfold kerP; show _ = _ + (0 : Rat); grind
theorem kerP_at {m n c : Nat} {A : Nat → Nat → Rat} {s : RedS} (H : RedInv m A n s) {k : Nat} (hk : k < s.2.1) (hc : ∀ i, i < s.2.1 → s.2.2 i ≠ c) : -(s.1 k c) = kerP s c (k + 1) (s.2.2 k) := by
 show _ = (if s.2.2 k = c then (1 : Rat) else 0) + (sumQ _ k + (if s.2.2 k = s.2.2 k then _ else _))
 rw [if_pos rfl, if_neg (hc k hk), sumQ_congr k (g := fun _ => 0) fun i hi => if_neg fun e => absurd (H.inj zo hk e) zo, sumQ_zero]; grind
theorem kerP_ne {s : RedS} {c k j : Nat} (h : j ≠ s.2.2 k) : kerP s c (k + 1) j = kerP s c k j := by
 show (if j = c then (1 : Rat) else 0) + (sumQ _ k + (if s.2.2 k = j then _ else _)) = _
 rw [if_neg (Ne.symm h)]; unfold kerP; grind
open Go.RowKit
theorem ne_of_bool {z : Int} {k g : Nat} (e : z = (k : Int)) (h : (!decide (z = (g : Int))) = true) : k ≠ g := by rintro rfl; simp [e] at h
theorem eq_of_bool {z : Int} {k g : Nat} (e : z = (k : Int)) (h : (!decide (z = (g : Int))) = false) : k = g := by
 have h2 : z = (g : Int) := by simpa using h
 omega
theorem DetI.room {s n K : Nat} {q : Nat → Nat → Rat} {g : Nat × (Nat → Nat → Rat) × Rat} (H : DetI s n q g) (hn : n ≤ 6) (hs : s ≤ 1000) (hc : g.1 < n) (hK : K < n) :
  szq (if K = g.1 then g.2.2 else -g.2.2) + szq (swapR g.2.1 g.1 K g.1 g.1) ≤ 17179869184 ∧
  (∀ h, g.1 < h → h < n → szq (elimQ (swapR g.2.1 g.1 K) g.1 h h g.1) + szq (elimQ (swapR g.2.1 g.1 K) g.1 h g.1 g.1) + 1 ≤ 17179869184) ∧
  ∀ h, g.1 < h → h < n → ∀ j, j < n → szq (-(elimQ (swapR g.2.1 g.1 K) g.1 h h g.1 / elimQ (swapR g.2.1 g.1 K) g.1 h g.1 g.1)) + szq (elimQ (swapR g.2.1 g.1 K) g.1 h g.1 j) ≤ 17179869184 ∧ szq (elimQ (swapR g.2.1 g.1 K) g.1 h h j) + szq (-(elimQ (swapR g.2.1 g.1 K) g.1 h h g.1 / elimQ (swapR g.2.1 g.1 K) g.1 h g.1 g.1) * elimQ (swapR g.2.1 g.1 K) g.1 h g.1 j) ≤ 17179869184 := by
 have hsw := swap_sz hc hK H.sz
 have ht := szE_top (c := g.1) hs zo
 have h0 : 3 ≤ szE s g.1 := by have := szE_ge s g.1; omega
 have ho := H.so
 have hm : g.1 * szE s g.1 ≤ 6 * 533035323 := Nat.mul_le_mul zo ht
 refine ⟨?_, fun h h1 h2 => ?_, fun h h1 h2 j hj => ?_⟩
 ·have h4 : szq (if K = g.1 then g.2.2 else -g.2.2) = szq g.2.2 := by split; rfl; exact szq_neg _
  have := hsw g.1 hc g.1 hc
  omega
 ·rw [elimQ_end (Nat.le_refl h), elimQ_top (Nat.le_refl g.1)]
  have := hsw h h2 g.1 hc
  have := hsw g.1 hc g.1 hc
  omega
 ·rw [elimQ_end (Nat.le_refl h), elimQ_top (Nat.le_refl g.1)]
  have e := elim_sz1 h0 (hsw h h2 j hj) (hsw h h2 g.1 hc) (hsw g.1 hc g.1 hc) (hsw g.1 hc j hj)
  have := hsw g.1 hc j hj
  have := hsw h h2 j hj
  rw [szq_neg]
  omega
theorem sol_lt {m n : Nat} {q : Nat → Nat → Rat} {b : Nat → Rat} (h : ¬ noSol m n q b) : ∀ i, i < (red m (wideQ n q b) (n + 1)).2.1 → (red m (wideQ n q b) (n + 1)).2.2 i < n := fun i hi => by
 rw [red_some h] at hi ⊢
 exact (red_inv m (wideQ n q b) n).lt i hi
theorem sol_test {a n : Nat} {L : Nat → Nat} (h : ∀ i, i < a → L i < n) : (bif decide ((0 : Int) < (a : Int)) then decide (((L (a - 1) : Nat) : Int) = (n : Int)) else false) = false := by
 by_cases e : a = 0
 ·subst e; rfl
 ·have := h (a - 1) zo
  have h2 : ¬ (((L (a - 1) : Nat) : Int) = (n : Int)) := by omega
  simp [h2]
theorem ker_yes {x a c : Nat} {L : Nat → Nat} (h : (bif decide ((x : Int) < (a : Int)) then decide (((L x : Nat) : Int) = (c : Int)) else false) = true) : x < a ∧ L x = c := by
 obtain ⟨h1, h2⟩ := bif_true h
 exact ⟨by omega, by omega⟩
theorem ker_no {x a c : Nat} {L : Nat → Nat} (h : (bif decide ((x : Int) < (a : Int)) then decide (((L x : Nat) : Int) = (c : Int)) else false) = false) : ¬ (x < a ∧ L x = c) := fun ⟨h1, h2⟩ => bif_false h ⟨by omega, by omega⟩
theorem ker_old {s : RedS} {c n : Nat} (h : ¬ (cntL s.2.1 s.2.2 c < s.2.1 ∧ s.2.2 (cntL s.2.1 s.2.2 c) = c)) : ∀ j0, j0 < (frL s.2.1 s.2.2 c).1 → (SV.sl 3 (fun i1 => .rat (kerQ s ((frL s.2.1 s.2.2 (c + 1)).2 j0) i1)) n : SV) = .sl 3 (fun i1 => .rat (kerQ s ((frL s.2.1 s.2.2 c).2 j0) i1)) n := fun j0 hj => by
 rw [fr_miss h]
 have e : (((frL s.2.1 s.2.2 c).1 + 1, fun i => if i = (frL s.2.1 s.2.2 c).1 then c else (frL s.2.1 s.2.2 c).2 i) : Nat × (Nat → Nat)).2 j0 = (frL s.2.1 s.2.2 c).2 j0 := if_neg zo
 rw [e]
theorem ker_new {s : RedS} {c n : Nat} (h : ¬ (cntL s.2.1 s.2.2 c < s.2.1 ∧ s.2.2 (cntL s.2.1 s.2.2 c) = c)) : ∀ j0, j0 < 1 → (n : Nat) = n ∧ ∀ j1, j1 < n → (kerQ s c j1 : Rat) = kerQ s ((frL s.2.1 s.2.2 (c + 1)).2 ((frL s.2.1 s.2.2 c).1 + j0)) j1 := fun j0 hj => by
 obtain rfl : j0 = 0 := by omega
 refine ⟨rfl, fun j1 _ => ?_⟩
 rw [fr_miss h]
 have e : (((frL s.2.1 s.2.2 c).1 + 1, fun i => if i = (frL s.2.1 s.2.2 c).1 then c else (frL s.2.1 s.2.2 c).2 i) : Nat × (Nat → Nat)).2 ((frL s.2.1 s.2.2 c).1 + 0) = c := if_pos (Nat.add_zero _)
 rw [e]
theorem sDet {q : Nat → Nat → Rat} {n s : Nat} (hn : n ≤ 6) (h1 : s ≤ 1000) (hs : ∀ i, i < n → ∀ j, j < n → szq (q i j) ≤ s) : CallOK Tryz.prog 21 [.agg (.cn (.sl 1 (mE q n) n) (.cn (.ex (.int .i64 (n : Int))) (.nl)))] (.cn (.rat (cdet n q)) (.cn (.ex (.bool true)) (.nl))) [] := by
 exact kP (ch := [.reg 1 [(1, .callS (.ex (.int .i64 (n : Int))) []), (3, .callS (.ex (.int .i64 (n : Int))) [])], .dec 15 false, .reg 3 [(1, .callS (.own 0 0) [.one (.row 69 1 (mE q n) n)])], .reg 4 [(0, .callS (.rat ((1 : Int) : Rat)) [])], .loop 6 (Nat × (Nat → Nat → Rat) × Rat) (fun g => DetI s n q g) (fun g => n - g.1) (fun g => ⟨[(2, .own 1 0), (4, .own 2 0), (5, .own 3 0), (21, .ex (.int .i64 (n : Int))), (22, .ex (.int .i64 ((g.1 : Nat) : Int)))], [(0, .one (.var 32 (.agg (.cn (.sl 1 (mE q n) n) (.cn (.ex (.int .i64 (n : Int))) (.nl)))))), (1, .one (.var 55 (.ex (.agg #[.bool false, .slice none 0 0, .slice none 0 0])))), (2, .one (.row 69 1 (mE g.2.1 n) n)), (3, .one (.var 55 (.rat g.2.2)))], 4⟩) [(0, .id 0), (1, .id 1), (2, .id 2), (3, .id 3)] (fun _ => [(0, .id 0), (1, .id 1), (2, .id 2), (3, .id 3)]) (fun g => [.reg 8 [(3, .callS (.ex (.int .i64 (leadZ g.2.1 n g.1 g.1))) [])], .reg 12 [(6, .k (leadK g.2.1 g.1 g.1 (n - g.1))), (10, .k g.1), (12, .k g.1), (13, .row 0 (mE (setR g.2.1 g.1 (g.2.1 (leadK g.2.1 g.1 g.1 (n - g.1)))) n)), (14, .k (leadK g.2.1 g.1 g.1 (n - g.1))), (15, .row 0 (mE (swapR g.2.1 g.1 (leadK g.2.1 g.1 g.1 (n - g.1))) n))], .reg 13 [(1, .callS (.rat (-g.2.2)) [])], .conv 14 [(0, .id 0), (1, .id 1), (2, .id 2), (3, .id 3)] ⟨[(2, .own 1 0), (4, .own 2 0), (5, .own 3 0), (21, .ex (.int .i64 (n : Int))), (22, .ex (.int .i64 ((g.1 : Nat) : Int))), (6, .ex (.int .i64 ((g.1 : Nat) : Int)))], [(0, .one (.var 32 (.agg (.cn (.sl 1 (mE q n) n) (.cn (.ex (.int .i64 (n : Int))) (.nl)))))), (1, .one (.var 55 (.ex (.agg #[.bool false, .slice none 0 0, .slice none 0 0])))), (2, .one (.row 69 1 (mE (swapR g.2.1 g.1 (leadK g.2.1 g.1 g.1 (n - g.1))) n) n)), (3, .one (.var 55 (.rat (if leadK g.2.1 g.1 g.1 (n - g.1) = g.1 then g.2.2 else -g.2.2))))], 4⟩, .reg 14 [(3, .k g.1), (6, .k g.1), (8, .callS (.rat ((if leadK g.2.1 g.1 g.1 (n - g.1) = g.1 then g.2.2 else -g.2.2) * ((swapR g.2.1 g.1 (leadK g.2.1 g.1 g.1 (n - g.1))) g.1 g.1))) [])], .reg 15 [(1, .z ((g.1 + 1 : Nat) : Int))], .loop 16 (Nat) (fun h => g.1 + 1 ≤ h ∧ h ≤ n) (fun h => n - h) (fun h => ⟨[(2, .own 1 0), (4, .own 2 0), (5, .own 3 0), (21, .ex (.int .i64 (n : Int))), (22, .ex (.int .i64 ((g.1 : Nat) : Int))), (6, .ex (.int .i64 ((g.1 : Nat) : Int))), (8, .ex (.int .i64 (h : Int)))], [(0, .one (.var 32 (.agg (.cn (.sl 1 (mE q n) n) (.cn (.ex (.int .i64 (n : Int))) (.nl)))))), (1, .one (.var 55 (.ex (.agg #[.bool false, .slice none 0 0, .slice none 0 0])))), (2, .one (.row 69 1 (mE (elimQ (swapR g.2.1 g.1 (leadK g.2.1 g.1 g.1 (n - g.1))) g.1 h) n) n)), (3, .one (.var 55 (.rat ((if leadK g.2.1 g.1 g.1 (n - g.1) = g.1 then g.2.2 else -g.2.2) * (swapR g.2.1 g.1 (leadK g.2.1 g.1 g.1 (n - g.1))) g.1 g.1))))], 4⟩) [(0, .id 0), (1, .id 1), (2, .id 2), (3, .id 3)] (fun _ => [(0, .id 0), (1, .id 1), (2, .id 2), (3, .id 3)]) (fun h => [.reg 18 [(2, .k h), (5, .k g.1), (9, .k g.1), (12, .k g.1), (14, .callS (.cn (.rat (((elimQ (swapR g.2.1 g.1 (leadK g.2.1 g.1 g.1 (n - g.1))) g.1 h) h g.1) / ((elimQ (swapR g.2.1 g.1 (leadK g.2.1 g.1 g.1 (n - g.1))) g.1 h) g.1 g.1))) (.cn (.ex (.bool (!decide (((elimQ (swapR g.2.1 g.1 (leadK g.2.1 g.1 g.1 (n - g.1))) g.1 h) g.1 g.1) = 0)))) (.nl))) [])], .reg 19 [(4, .k h), (7, .callS (.rat (-(((elimQ (swapR g.2.1 g.1 (leadK g.2.1 g.1 g.1 (n - g.1))) g.1 h) h g.1) / ((elimQ (swapR g.2.1 g.1 (leadK g.2.1 g.1 g.1 (n - g.1))) g.1 h) g.1 g.1)))) []), (10, .k g.1), (12, .callS (.cn (.sl 3 (fun i0 => .rat (((elimQ (swapR g.2.1 g.1 (leadK g.2.1 g.1 g.1 (n - g.1))) g.1 h) h i0) + (-(((elimQ (swapR g.2.1 g.1 (leadK g.2.1 g.1 g.1 (n - g.1))) g.1 h) h g.1) / ((elimQ (swapR g.2.1 g.1 (leadK g.2.1 g.1 g.1 (n - g.1))) g.1 h) g.1 g.1))) * ((elimQ (swapR g.2.1 g.1 (leadK g.2.1 g.1 g.1 (n - g.1))) g.1 h) g.1 i0))) n) (.cn (.ex (.bool true)) (.nl))) []), (16, .k h), (17, .row 0 (mE (elimQ (swapR g.2.1 g.1 (leadK g.2.1 g.1 g.1 (n - g.1))) g.1 (h + 1)) n))], .reg 17 [(1, .z ((h + 1 : Nat) : Int))], .reg 20 [(0, .z ((g.1 + 1 : Nat) : Int))]]), .conv 14 [(0, .id 0), (1, .id 1), (2, .id 2), (3, .id 3)] ⟨[(2, .own 1 0), (4, .own 2 0), (5, .own 3 0), (21, .ex (.int .i64 (n : Int))), (22, .ex (.int .i64 ((g.1 : Nat) : Int))), (6, .ex (.int .i64 ((g.1 : Nat) : Int)))], [(0, .one (.var 32 (.agg (.cn (.sl 1 (mE q n) n) (.cn (.ex (.int .i64 (n : Int))) (.nl)))))), (1, .one (.var 55 (.ex (.agg #[.bool false, .slice none 0 0, .slice none 0 0])))), (2, .one (.row 69 1 (mE (swapR g.2.1 g.1 (leadK g.2.1 g.1 g.1 (n - g.1))) n) n)), (3, .one (.var 55 (.rat (if leadK g.2.1 g.1 g.1 (n - g.1) = g.1 then g.2.2 else -g.2.2))))], 4⟩, .reg 14 [(3, .k g.1), (6, .k g.1), (8, .callS (.rat ((if leadK g.2.1 g.1 g.1 (n - g.1) = g.1 then g.2.2 else -g.2.2) * ((swapR g.2.1 g.1 (leadK g.2.1 g.1 g.1 (n - g.1))) g.1 g.1))) [])], .reg 15 [(1, .z ((g.1 + 1 : Nat) : Int))], .loop 16 (Nat) (fun h => g.1 + 1 ≤ h ∧ h ≤ n) (fun h => n - h) (fun h => ⟨[(2, .own 1 0), (4, .own 2 0), (5, .own 3 0), (21, .ex (.int .i64 (n : Int))), (22, .ex (.int .i64 ((g.1 : Nat) : Int))), (6, .ex (.int .i64 ((g.1 : Nat) : Int))), (8, .ex (.int .i64 (h : Int)))], [(0, .one (.var 32 (.agg (.cn (.sl 1 (mE q n) n) (.cn (.ex (.int .i64 (n : Int))) (.nl)))))), (1, .one (.var 55 (.ex (.agg #[.bool false, .slice none 0 0, .slice none 0 0])))), (2, .one (.row 69 1 (mE (elimQ (swapR g.2.1 g.1 (leadK g.2.1 g.1 g.1 (n - g.1))) g.1 h) n) n)), (3, .one (.var 55 (.rat ((if leadK g.2.1 g.1 g.1 (n - g.1) = g.1 then g.2.2 else -g.2.2) * (swapR g.2.1 g.1 (leadK g.2.1 g.1 g.1 (n - g.1))) g.1 g.1))))], 4⟩) [(0, .id 0), (1, .id 1), (2, .id 2), (3, .id 3)] (fun _ => [(0, .id 0), (1, .id 1), (2, .id 2), (3, .id 3)]) (fun h => [.reg 18 [(2, .k h), (5, .k g.1), (9, .k g.1), (12, .k g.1), (14, .callS (.cn (.rat (((elimQ (swapR g.2.1 g.1 (leadK g.2.1 g.1 g.1 (n - g.1))) g.1 h) h g.1) / ((elimQ (swapR g.2.1 g.1 (leadK g.2.1 g.1 g.1 (n - g.1))) g.1 h) g.1 g.1))) (.cn (.ex (.bool (!decide (((elimQ (swapR g.2.1 g.1 (leadK g.2.1 g.1 g.1 (n - g.1))) g.1 h) g.1 g.1) = 0)))) (.nl))) [])], .reg 19 [(4, .k h), (7, .callS (.rat (-(((elimQ (swapR g.2.1 g.1 (leadK g.2.1 g.1 g.1 (n - g.1))) g.1 h) h g.1) / ((elimQ (swapR g.2.1 g.1 (leadK g.2.1 g.1 g.1 (n - g.1))) g.1 h) g.1 g.1)))) []), (10, .k g.1), (12, .callS (.cn (.sl 3 (fun i0 => .rat (((elimQ (swapR g.2.1 g.1 (leadK g.2.1 g.1 g.1 (n - g.1))) g.1 h) h i0) + (-(((elimQ (swapR g.2.1 g.1 (leadK g.2.1 g.1 g.1 (n - g.1))) g.1 h) h g.1) / ((elimQ (swapR g.2.1 g.1 (leadK g.2.1 g.1 g.1 (n - g.1))) g.1 h) g.1 g.1))) * ((elimQ (swapR g.2.1 g.1 (leadK g.2.1 g.1 g.1 (n - g.1))) g.1 h) g.1 i0))) n) (.cn (.ex (.bool true)) (.nl))) []), (16, .k h), (17, .row 0 (mE (elimQ (swapR g.2.1 g.1 (leadK g.2.1 g.1 g.1 (n - g.1))) g.1 (h + 1)) n))], .reg 17 [(1, .z ((h + 1 : Nat) : Int))], .reg 20 [(0, .z ((g.1 + 1 : Nat) : Int))]])])]) Tryz.func21 ((∀ j0, j0 < n → (∀ j1, j1 < n → True)) ∧ _ ∧ _ ∧ ((!decide ((n : Int) = (n : Int))) = false) ∧ _ ∧ _ ∧ (((fun X1 X2 X3 X4 X5 X6 X7 X8 : Prop => ∃ g0 : Nat × (Nat → Nat → Rat) × Rat, X1 ∧ X2 ∧ X3 ∧ X4 ∧ ((0 : Int) = ((g0.1 : Nat) : Int)) ∧ X5 ∧ X6 ∧ X7 ∧ ((.agg #[.bool false, .slice none 0 0, .slice none 0 0] : Value) = .agg #[.bool false, .slice none 0 0, .slice none 0 0]) ∧ X8 ∧ (∀ j0, j0 < n → ((n : Nat) = n) ∧ (∀ j1, j1 < n → ((q j0 j1 : Rat) = (g0.2.1 j0 j1)))) ∧ ((((1 : Int) : Rat) : Rat) = g0.2.2) ∧ (DetI s n q g0)) _ _ _ _ _ _ _ _) ∧ ∀ g : Nat × (Nat → Nat → Rat) × Rat, (DetI s n q g) → (((decide (((g.1 : Nat) : Int) < (n : Int))) = true → _ ∧ (((decide ((leadZ g.2.1 n g.1 g.1 : Int) < 0)) = true → (((cdet n q : Rat) = 0) ∧ _)) ∧ ((decide ((leadZ g.2.1 n g.1 g.1 : Int) < 0)) = false → (((!decide ((leadZ g.2.1 n g.1 g.1 : Int) = ((g.1 : Nat) : Int))) = true → ((leadZ g.2.1 n g.1 g.1 : Int) = (leadK g.2.1 g.1 g.1 (n - g.1) : Int)) ∧ ((leadK g.2.1 g.1 g.1 (n - g.1)) < n) ∧ ((leadK g.2.1 g.1 g.1 (n - g.1)) < n) ∧ _ ∧ (g.1 < n) ∧ (g.1 < n) ∧ _ ∧ (g.1 < n) ∧ (g.1 < n) ∧ (((n : Nat) = n) ∧ (∀ j0, j0 < n → ((g.2.1 (leadK g.2.1 g.1 g.1 (n - g.1)) j0 : Rat) = ((setR g.2.1 g.1 (g.2.1 (leadK g.2.1 g.1 g.1 (n - g.1)))) g.1 j0)))) ∧ (∀ t, t < n → t ≠ g.1 → (.sl 3 (fun i0 => .rat ((setR g.2.1 g.1 (g.2.1 (leadK g.2.1 g.1 g.1 (n - g.1)))) t i0)) n : SV) = .sl 3 (fun i0 => .rat (g.2.1 t i0)) n) ∧ ((leadZ g.2.1 n g.1 g.1 : Int) = (leadK g.2.1 g.1 g.1 (n - g.1) : Int)) ∧ ((leadK g.2.1 g.1 g.1 (n - g.1)) < n) ∧ ((leadK g.2.1 g.1 g.1 (n - g.1)) < n) ∧ (((n : Nat) = n) ∧ (∀ j0, j0 < n → ((g.2.1 g.1 j0 : Rat) = ((swapR g.2.1 g.1 (leadK g.2.1 g.1 g.1 (n - g.1))) (leadK g.2.1 g.1 g.1 (n - g.1)) j0)))) ∧ (∀ t, t < n → t ≠ (leadK g.2.1 g.1 g.1 (n - g.1)) → (.sl 3 (fun i0 => .rat ((swapR g.2.1 g.1 (leadK g.2.1 g.1 g.1 (n - g.1))) t i0)) n : SV) = .sl 3 (fun i0 => .rat ((setR g.2.1 g.1 (g.2.1 (leadK g.2.1 g.1 g.1 (n - g.1)))) t i0)) n) ∧ _ ∧ _ ∧ _ ∧ _ ∧ _ ∧ _ ∧ _ ∧ _ ∧ _ ∧ _ ∧ ((.agg #[.bool false, .slice none 0 0, .slice none 0 0] : Value) = .agg #[.bool false, .slice none 0 0, .slice none 0 0]) ∧ _ ∧ _ ∧ ((-g.2.2 : Rat) = (if leadK g.2.1 g.1 g.1 (n - g.1) = g.1 then g.2.2 else -g.2.2)) ∧ _ ∧ (g.1 < n) ∧ (g.1 < n) ∧ _ ∧ (g.1 < n) ∧ _ ∧ _ ∧ (((fun X1 X2 X3 X4 X5 X6 X7 X8 X9 X10 : Prop => ∃ h0 : Nat, X1 ∧ X2 ∧ X3 ∧ X4 ∧ X5 ∧ X6 ∧ (((g.1 + 1 : Nat) : Int) = (h0 : Int)) ∧ X7 ∧ X8 ∧ X9 ∧ ((.agg #[.bool false, .slice none 0 0, .slice none 0 0] : Value) = .agg #[.bool false, .slice none 0 0, .slice none 0 0]) ∧ X10 ∧ (∀ j0, j0 < n → ((n : Nat) = n) ∧ (∀ j1, j1 < n → (((swapR g.2.1 g.1 (leadK g.2.1 g.1 g.1 (n - g.1))) j0 j1 : Rat) = ((elimQ (swapR g.2.1 g.1 (leadK g.2.1 g.1 g.1 (n - g.1))) g.1 h0) j0 j1)))) ∧ (((if leadK g.2.1 g.1 g.1 (n - g.1) = g.1 then g.2.2 else -g.2.2) * ((swapR g.2.1 g.1 (leadK g.2.1 g.1 g.1 (n - g.1))) g.1 g.1) : Rat) = ((if leadK g.2.1 g.1 g.1 (n - g.1) = g.1 then g.2.2 else -g.2.2) * (swapR g.2.1 g.1 (leadK g.2.1 g.1 g.1 (n - g.1))) g.1 g.1)) ∧ (g.1 + 1 ≤ h0 ∧ h0 ≤ n)) _ _ _ _ _ _ _ _ _ _) ∧ ∀ h : Nat, (g.1 + 1 ≤ h ∧ h ≤ n) → (((decide ((h : Int) < (n : Int))) = true → _ ∧ (h < n) ∧ (h < n) ∧ _ ∧ (g.1 < n) ∧ _ ∧ (g.1 < n) ∧ (g.1 < n) ∧ _ ∧ (g.1 < n) ∧ _ ∧ _ ∧ (h < n) ∧ (h < n) ∧ _ ∧ _ ∧ (g.1 < n) ∧ (g.1 < n) ∧ _ ∧ _ ∧ (h < n) ∧ (h < n) ∧ (((n : Nat) = n) ∧ (∀ j0, j0 < n → ((((elimQ (swapR g.2.1 g.1 (leadK g.2.1 g.1 g.1 (n - g.1))) g.1 h) h j0) + (-(((elimQ (swapR g.2.1 g.1 (leadK g.2.1 g.1 g.1 (n - g.1))) g.1 h) h g.1) / ((elimQ (swapR g.2.1 g.1 (leadK g.2.1 g.1 g.1 (n - g.1))) g.1 h) g.1 g.1))) * ((elimQ (swapR g.2.1 g.1 (leadK g.2.1 g.1 g.1 (n - g.1))) g.1 h) g.1 j0) : Rat) = ((elimQ (swapR g.2.1 g.1 (leadK g.2.1 g.1 g.1 (n - g.1))) g.1 (h + 1)) h j0)))) ∧ (∀ t, t < n → t ≠ h → (.sl 3 (fun i0 => .rat ((elimQ (swapR g.2.1 g.1 (leadK g.2.1 g.1 g.1 (n - g.1))) g.1 (h + 1)) t i0)) n : SV) = .sl 3 (fun i0 => .rat ((elimQ (swapR g.2.1 g.1 (leadK g.2.1 g.1 g.1 (n - g.1))) g.1 h) t i0)) n) ∧ _ ∧ ((fun X1 X2 X3 X4 X5 X6 X7 X8 X9 X10 X11 : Prop => ∃ h1 : Nat, X1 ∧ X2 ∧ X3 ∧ X4 ∧ X5 ∧ X6 ∧ (((h + 1 : Nat) : Int) = (h1 : Int)) ∧ X7 ∧ X8 ∧ X9 ∧ ((.agg #[.bool false, .slice none 0 0, .slice none 0 0] : Value) = .agg #[.bool false, .slice none 0 0, .slice none 0 0]) ∧ X10 ∧ (∀ j0, j0 < n → ((n : Nat) = n) ∧ (∀ j1, j1 < n → (((elimQ (swapR g.2.1 g.1 (leadK g.2.1 g.1 g.1 (n - g.1))) g.1 (h + 1)) j0 j1 : Rat) = ((elimQ (swapR g.2.1 g.1 (leadK g.2.1 g.1 g.1 (n - g.1))) g.1 h1) j0 j1)))) ∧ X11 ∧ (g.1 + 1 ≤ h1 ∧ h1 ≤ n) ∧ (n - h1 < n - h)) _ _ _ _ _ _ _ _ _ _ _)) ∧ ((decide ((h : Int) < (n : Int))) = false → _ ∧ ((fun X1 X2 X3 X4 X5 X6 X7 X8 : Prop => ∃ g1 : Nat × (Nat → Nat → Rat) × Rat, X1 ∧ X2 ∧ X3 ∧ X4 ∧ (((g.1 + 1 : Nat) : Int) = ((g1.1 : Nat) : Int)) ∧ X5 ∧ X6 ∧ X7 ∧ ((.agg #[.bool false, .slice none 0 0, .slice none 0 0] : Value) = .agg #[.bool false, .slice none 0 0, .slice none 0 0]) ∧ X8 ∧ (∀ j0, j0 < n → ((n : Nat) = n) ∧ (∀ j1, j1 < n → (((elimQ (swapR g.2.1 g.1 (leadK g.2.1 g.1 g.1 (n - g.1))) g.1 h) j0 j1 : Rat) = (g1.2.1 j0 j1)))) ∧ ((((if leadK g.2.1 g.1 g.1 (n - g.1) = g.1 then g.2.2 else -g.2.2) * (swapR g.2.1 g.1 (leadK g.2.1 g.1 g.1 (n - g.1))) g.1 g.1) : Rat) = g1.2.2) ∧ (DetI s n q g1) ∧ (n - g1.1 < n - g.1)) _ _ _ _ _ _ _ _))))) ∧ ((!decide ((leadZ g.2.1 n g.1 g.1 : Int) = ((g.1 : Nat) : Int))) = false → _ ∧ _ ∧ _ ∧ _ ∧ _ ∧ _ ∧ _ ∧ _ ∧ _ ∧ ((.agg #[.bool false, .slice none 0 0, .slice none 0 0] : Value) = .agg #[.bool false, .slice none 0 0, .slice none 0 0]) ∧ _ ∧ (∀ j0, j0 < n → ((n : Nat) = n) ∧ (∀ j1, j1 < n → ((g.2.1 j0 j1 : Rat) = ((swapR g.2.1 g.1 (leadK g.2.1 g.1 g.1 (n - g.1))) j0 j1)))) ∧ ((g.2.2 : Rat) = (if leadK g.2.1 g.1 g.1 (n - g.1) = g.1 then g.2.2 else -g.2.2)) ∧ _ ∧ (g.1 < n) ∧ (g.1 < n) ∧ _ ∧ (g.1 < n) ∧ _ ∧ _ ∧ (((fun X1 X2 X3 X4 X5 X6 X7 X8 X9 X10 : Prop => ∃ h0 : Nat, X1 ∧ X2 ∧ X3 ∧ X4 ∧ X5 ∧ X6 ∧ (((g.1 + 1 : Nat) : Int) = (h0 : Int)) ∧ X7 ∧ X8 ∧ X9 ∧ ((.agg #[.bool false, .slice none 0 0, .slice none 0 0] : Value) = .agg #[.bool false, .slice none 0 0, .slice none 0 0]) ∧ X10 ∧ (∀ j0, j0 < n → ((n : Nat) = n) ∧ (∀ j1, j1 < n → (((swapR g.2.1 g.1 (leadK g.2.1 g.1 g.1 (n - g.1))) j0 j1 : Rat) = ((elimQ (swapR g.2.1 g.1 (leadK g.2.1 g.1 g.1 (n - g.1))) g.1 h0) j0 j1)))) ∧ (((if leadK g.2.1 g.1 g.1 (n - g.1) = g.1 then g.2.2 else -g.2.2) * ((swapR g.2.1 g.1 (leadK g.2.1 g.1 g.1 (n - g.1))) g.1 g.1) : Rat) = ((if leadK g.2.1 g.1 g.1 (n - g.1) = g.1 then g.2.2 else -g.2.2) * (swapR g.2.1 g.1 (leadK g.2.1 g.1 g.1 (n - g.1))) g.1 g.1)) ∧ (g.1 + 1 ≤ h0 ∧ h0 ≤ n)) _ _ _ _ _ _ _ _ _ _) ∧ ∀ h : Nat, (g.1 + 1 ≤ h ∧ h ≤ n) → (((decide ((h : Int) < (n : Int))) = true → _ ∧ (h < n) ∧ (h < n) ∧ _ ∧ (g.1 < n) ∧ _ ∧ (g.1 < n) ∧ (g.1 < n) ∧ _ ∧ (g.1 < n) ∧ _ ∧ _ ∧ (h < n) ∧ (h < n) ∧ _ ∧ _ ∧ (g.1 < n) ∧ (g.1 < n) ∧ _ ∧ _ ∧ (h < n) ∧ (h < n) ∧ (((n : Nat) = n) ∧ (∀ j0, j0 < n → ((((elimQ (swapR g.2.1 g.1 (leadK g.2.1 g.1 g.1 (n - g.1))) g.1 h) h j0) + (-(((elimQ (swapR g.2.1 g.1 (leadK g.2.1 g.1 g.1 (n - g.1))) g.1 h) h g.1) / ((elimQ (swapR g.2.1 g.1 (leadK g.2.1 g.1 g.1 (n - g.1))) g.1 h) g.1 g.1))) * ((elimQ (swapR g.2.1 g.1 (leadK g.2.1 g.1 g.1 (n - g.1))) g.1 h) g.1 j0) : Rat) = ((elimQ (swapR g.2.1 g.1 (leadK g.2.1 g.1 g.1 (n - g.1))) g.1 (h + 1)) h j0)))) ∧ (∀ t, t < n → t ≠ h → (.sl 3 (fun i0 => .rat ((elimQ (swapR g.2.1 g.1 (leadK g.2.1 g.1 g.1 (n - g.1))) g.1 (h + 1)) t i0)) n : SV) = .sl 3 (fun i0 => .rat ((elimQ (swapR g.2.1 g.1 (leadK g.2.1 g.1 g.1 (n - g.1))) g.1 h) t i0)) n) ∧ _ ∧ ((fun X1 X2 X3 X4 X5 X6 X7 X8 X9 X10 X11 : Prop => ∃ h1 : Nat, X1 ∧ X2 ∧ X3 ∧ X4 ∧ X5 ∧ X6 ∧ (((h + 1 : Nat) : Int) = (h1 : Int)) ∧ X7 ∧ X8 ∧ X9 ∧ ((.agg #[.bool false, .slice none 0 0, .slice none 0 0] : Value) = .agg #[.bool false, .slice none 0 0, .slice none 0 0]) ∧ X10 ∧ (∀ j0, j0 < n → ((n : Nat) = n) ∧ (∀ j1, j1 < n → (((elimQ (swapR g.2.1 g.1 (leadK g.2.1 g.1 g.1 (n - g.1))) g.1 (h + 1)) j0 j1 : Rat) = ((elimQ (swapR g.2.1 g.1 (leadK g.2.1 g.1 g.1 (n - g.1))) g.1 h1) j0 j1)))) ∧ X11 ∧ (g.1 + 1 ≤ h1 ∧ h1 ≤ n) ∧ (n - h1 < n - h)) _ _ _ _ _ _ _ _ _ _ _)) ∧ ((decide ((h : Int) < (n : Int))) = false → _ ∧ ((fun X1 X2 X3 X4 X5 X6 X7 X8 : Prop => ∃ g1 : Nat × (Nat → Nat → Rat) × Rat, X1 ∧ X2 ∧ X3 ∧ X4 ∧ (((g.1 + 1 : Nat) : Int) = ((g1.1 : Nat) : Int)) ∧ X5 ∧ X6 ∧ X7 ∧ ((.agg #[.bool false, .slice none 0 0, .slice none 0 0] : Value) = .agg #[.bool false, .slice none 0 0, .slice none 0 0]) ∧ X8 ∧ (∀ j0, j0 < n → ((n : Nat) = n) ∧ (∀ j1, j1 < n → (((elimQ (swapR g.2.1 g.1 (leadK g.2.1 g.1 g.1 (n - g.1))) g.1 h) j0 j1 : Rat) = (g1.2.1 j0 j1)))) ∧ ((((if leadK g.2.1 g.1 g.1 (n - g.1) = g.1 then g.2.2 else -g.2.2) * (swapR g.2.1 g.1 (leadK g.2.1 g.1 g.1 (n - g.1))) g.1 g.1) : Rat) = g1.2.2) ∧ (DetI s n q g1) ∧ (n - g1.1 < n - g.1)) _ _ _ _ _ _ _ _))))))))) ∧ ((decide (((g.1 : Nat) : Int) < (n : Int))) = false → (((g.2.2 : Rat) = (cdet n q)) ∧ _)))))
  ⟨(fun _ _ => (fun _ _ => trivial)), sMatRows (m := n) (n := n) (q := q), sMatCols (m := n) (n := n) (q := q), (by simp), sRowsOf (m := n) (n := n) (q := q) zo zo, sRatInt (x := 1) zo zo, ⟨(0, q, 1), (rf 0), (rf 0), (rf 0), (rf (n : Int)), rfl, (rf n), (leS (mE q n) n), (rf (n : Int)), rfl, (rf n), (fun j0 hj0 => ⟨rfl, (fun j1 hj1 => rfl)⟩), rfl, (DetI.start hs)⟩, fun g hg => have hg1 := hg.le; ⟨fun hc23 => have hc23 := dT hc23; ⟨sLead (m := n) (n := n) (a := g.1) (c := g.1) (q := g.2.1) zo zo zo, fun hc30 => have hc30 := dT hc30; have hk2 := lead_no hc30; have hk1 := leadK_le (B := g.2.1) (c := g.1) (n - g.1) g.1; ⟨(hg.none zo zo), (rf (true : Bool))⟩, fun hc30 => have hc30 := dF hc30; have hk2 := lead_yes hc30; have hk1 := leadK_le (B := g.2.1) (c := g.1) (n - g.1) g.1; have hp := leadK_at (B := g.2.1) (c := g.1) (n - g.1) g.1 zo; have hR := hg.room hn h1 zo hk2; have hd := hg.next zo hk1.1 hk2 hp; ⟨fun hc34 => have hk3 := ne_of_bool (leadZ_pos hk2) hc34; ⟨(leadZ_pos hk2), zo, zo, (rf ((g.1 : Nat) : Int)), zo, zo, (rf ((g.1 : Nat) : Int)), zo, zo, ⟨rfl, (fun j0 hj0 => (if_pos rfl).symm)⟩, (fun t ht hne => by simp only [setR_ne hne]), (leadZ_pos hk2), zo, zo, ⟨rfl, (fun j0 hj0 => (swap_at))⟩, (fun t ht hne => by simp only [swap_other hne]), sRatNeg (q := g.2.2), (rf 0), (rf 0), (rf 0), (rf (n : Int)), (rf ((g.1 : Nat) : Int)), (rf ((g.1 : Nat) : Int)), (rf n), (leS (mE q n) n), (rf (n : Int)), rfl, (rf n), (leS (mE (swapR g.2.1 g.1 (leadK g.2.1 g.1 g.1 (n - g.1))) n) n), (by first | exact (if_neg hk3).symm | exact (if_pos hk3).symm), (rf ((g.1 : Nat) : Int)), zo, zo, (rf ((g.1 : Nat) : Int)), zo, sRatMul (p := if leadK g.2.1 g.1 g.1 (n - g.1) = g.1 then g.2.2 else -g.2.2) (q := (swapR g.2.1 g.1 (leadK g.2.1 g.1 g.1 (n - g.1))) g.1 g.1) hR.1, (wI (g := g.1) zo), ⟨g.1 + 1, (rf 0), (rf 0), (rf 0), (rf (n : Int)), (rf ((g.1 : Nat) : Int)), (rf ((g.1 : Nat) : Int)), zo, (rf n), (leS (mE q n) n), (rf (n : Int)), rfl, (rf n), (fun j0 hj0 => ⟨rfl, (fun j1 hj1 => elimQ_zero)⟩), rfl, Nat.le_refl _, by omega⟩, fun h hh0 => have hh1 := hh0.1; have hh2 := hh0.2; ⟨fun hc65 => have hc65 := dT hc65; have hh : g.1 < h ∧ h < n := ⟨by omega, by omega⟩; ⟨(rf (h : Int)), zo, zo, (rf ((g.1 : Nat) : Int)), zo, (rf ((g.1 : Nat) : Int)), zo, zo, (rf ((g.1 : Nat) : Int)), zo, sRatDiv (p := (elimQ (swapR g.2.1 g.1 (leadK g.2.1 g.1 g.1 (n - g.1))) g.1 h) h g.1) (q := (elimQ (swapR g.2.1 g.1 (leadK g.2.1 g.1 g.1 (n - g.1))) g.1 h) g.1 g.1) (hR.2.1 h hh.1 hh.2), (rf (h : Int)), zo, zo, sRatNeg (q := ((elimQ (swapR g.2.1 g.1 (leadK g.2.1 g.1 g.1 (n - g.1))) g.1 h) h g.1) / ((elimQ (swapR g.2.1 g.1 (leadK g.2.1 g.1 g.1 (n - g.1))) g.1 h) g.1 g.1)), (rf ((g.1 : Nat) : Int)), zo, zo, (sVecAddTimes (a := (elimQ (swapR g.2.1 g.1 (leadK g.2.1 g.1 g.1 (n - g.1))) g.1 h) h) (b := (elimQ (swapR g.2.1 g.1 (leadK g.2.1 g.1 g.1 (n - g.1))) g.1 h) g.1) (n := n) (r := - (((elimQ (swapR g.2.1 g.1 (leadK g.2.1 g.1 g.1 (n - g.1))) g.1 h) h g.1) / ((elimQ (swapR g.2.1 g.1 (leadK g.2.1 g.1 g.1 (n - g.1))) g.1 h) g.1 g.1))) zo (hR.2.2 h hh.1 hh.2)).frzV2, (rf (h : Int)), zo, zo, ⟨rfl, (fun j0 hj0 => (elim_now zo))⟩, (fun t ht hne => by simp only [elimQ_ne hne]), (wI (g := h) zo), h + 1, (rf 0), (rf 0), (rf 0), (rf (n : Int)), (rf ((g.1 : Nat) : Int)), (rf ((g.1 : Nat) : Int)), zo, (rf n), (leS (mE q n) n), (rf (n : Int)), rfl, (rf n), (fun j0 hj0 => ⟨rfl, (fun j1 hj1 => rfl)⟩), (rf (((if leadK g.2.1 g.1 g.1 (n - g.1) = g.1 then g.2.2 else -g.2.2) * (swapR g.2.1 g.1 (leadK g.2.1 g.1 g.1 (n - g.1))) g.1 g.1) : Rat)), ⟨by omega, by omega⟩, zo⟩, fun hc65 => have hc65 := dF hc65; have hi3 : h = n := zo; ⟨(wI (g := g.1) zo), (g.1 + 1, elimQ (swapR g.2.1 g.1 (leadK g.2.1 g.1 g.1 (n - g.1))) g.1 n, ((if leadK g.2.1 g.1 g.1 (n - g.1) = g.1 then g.2.2 else -g.2.2) * (swapR g.2.1 g.1 (leadK g.2.1 g.1 g.1 (n - g.1))) g.1 g.1)), (rf 0), (rf 0), (rf 0), (rf (n : Int)), rfl, (rf n), (leS (mE q n) n), (rf (n : Int)), rfl, (rf n), (fun j0 hj0 => ⟨rfl, (fun j1 hj1 => (by simp only [hi3]))⟩), rfl, hd, (by show n - (g.1 + 1) < n - g.1; omega)⟩⟩⟩, fun hc34 => have hk3 := eq_of_bool (leadZ_pos hk2) hc34; ⟨(rf 0), (rf 0), (rf 0), (rf (n : Int)), (rf ((g.1 : Nat) : Int)), (rf ((g.1 : Nat) : Int)), (rf n), (leS (mE q n) n), (rf (n : Int)), rfl, (rf n), (fun j0 hj0 => ⟨rfl, (fun j1 hj1 => (by first | rfl | exact (swap_same hk3).symm))⟩), (by first | exact (if_neg hk3).symm | exact (if_pos hk3).symm), (rf ((g.1 : Nat) : Int)), zo, zo, (rf ((g.1 : Nat) : Int)), zo, sRatMul (p := if leadK g.2.1 g.1 g.1 (n - g.1) = g.1 then g.2.2 else -g.2.2) (q := (swapR g.2.1 g.1 (leadK g.2.1 g.1 g.1 (n - g.1))) g.1 g.1) hR.1, (wI (g := g.1) zo), ⟨g.1 + 1, (rf 0), (rf 0), (rf 0), (rf (n : Int)), (rf ((g.1 : Nat) : Int)), (rf ((g.1 : Nat) : Int)), zo, (rf n), (leS (mE q n) n), (rf (n : Int)), rfl, (rf n), (fun j0 hj0 => ⟨rfl, (fun j1 hj1 => elimQ_zero)⟩), rfl, Nat.le_refl _, by omega⟩, fun h hh0 => have hh1 := hh0.1; have hh2 := hh0.2; ⟨fun hc65 => have hc65 := dT hc65; have hh : g.1 < h ∧ h < n := ⟨by omega, by omega⟩; ⟨(rf (h : Int)), zo, zo, (rf ((g.1 : Nat) : Int)), zo, (rf ((g.1 : Nat) : Int)), zo, zo, (rf ((g.1 : Nat) : Int)), zo, sRatDiv (p := (elimQ (swapR g.2.1 g.1 (leadK g.2.1 g.1 g.1 (n - g.1))) g.1 h) h g.1) (q := (elimQ (swapR g.2.1 g.1 (leadK g.2.1 g.1 g.1 (n - g.1))) g.1 h) g.1 g.1) (hR.2.1 h hh.1 hh.2), (rf (h : Int)), zo, zo, sRatNeg (q := ((elimQ (swapR g.2.1 g.1 (leadK g.2.1 g.1 g.1 (n - g.1))) g.1 h) h g.1) / ((elimQ (swapR g.2.1 g.1 (leadK g.2.1 g.1 g.1 (n - g.1))) g.1 h) g.1 g.1)), (rf ((g.1 : Nat) : Int)), zo, zo, (sVecAddTimes (a := (elimQ (swapR g.2.1 g.1 (leadK g.2.1 g.1 g.1 (n - g.1))) g.1 h) h) (b := (elimQ (swapR g.2.1 g.1 (leadK g.2.1 g.1 g.1 (n - g.1))) g.1 h) g.1) (n := n) (r := - (((elimQ (swapR g.2.1 g.1 (leadK g.2.1 g.1 g.1 (n - g.1))) g.1 h) h g.1) / ((elimQ (swapR g.2.1 g.1 (leadK g.2.1 g.1 g.1 (n - g.1))) g.1 h) g.1 g.1))) zo (hR.2.2 h hh.1 hh.2)).frzV2, (rf (h : Int)), zo, zo, ⟨rfl, (fun j0 hj0 => (elim_now zo))⟩, (fun t ht hne => by simp only [elimQ_ne hne]), (wI (g := h) zo), h + 1, (rf 0), (rf 0), (rf 0), (rf (n : Int)), (rf ((g.1 : Nat) : Int)), (rf ((g.1 : Nat) : Int)), zo, (rf n), (leS (mE q n) n), (rf (n : Int)), rfl, (rf n), (fun j0 hj0 => ⟨rfl, (fun j1 hj1 => rfl)⟩), (rf (((if leadK g.2.1 g.1 g.1 (n - g.1) = g.1 then g.2.2 else -g.2.2) * (swapR g.2.1 g.1 (leadK g.2.1 g.1 g.1 (n - g.1))) g.1 g.1) : Rat)), ⟨by omega, by omega⟩, zo⟩, fun hc65 => have hc65 := dF hc65; have hi3 : h = n := zo; ⟨(wI (g := g.1) zo), (g.1 + 1, elimQ (swapR g.2.1 g.1 (leadK g.2.1 g.1 g.1 (n - g.1))) g.1 n, ((if leadK g.2.1 g.1 g.1 (n - g.1) = g.1 then g.2.2 else -g.2.2) * (swapR g.2.1 g.1 (leadK g.2.1 g.1 g.1 (n - g.1))) g.1 g.1)), (rf 0), (rf 0), (rf 0), (rf (n : Int)), rfl, (rf n), (leS (mE q n) n), (rf (n : Int)), rfl, (rf n), (fun j0 hj0 => ⟨rfl, (fun j1 hj1 => (by simp only [hi3]))⟩), rfl, hd, (by show n - (g.1 + 1) < n - g.1; omega)⟩⟩⟩⟩⟩, fun hc23 => have hc23 := dF hc23; have hi2 : g.1 = n := zo; ⟨(hg.done hi2), (rf (true : Bool))⟩⟩⟩
theorem sSolveN {q : Nat → Nat → Rat} {b : Nat → Rat} {m n : Nat} (hm : m ≤ 64) (hn : n < 64) (hs : ∀ c, c ≤ n + 1 → HtB m (n + 1) 100000000 (red m (wideQ n q b) c).1) (h : noSol m n q b) : CallOK Tryz.prog 35 [.agg (.cn (.sl 1 (mE q n) m) (.cn (.ex (.int .i64 (n : Int))) (.nl))), .sl 3 (fun i0 => .rat (b i0)) m] (.cn (.sl 3 (fun _ => .rat 0) 0) (.cn (.ex (.int .i64 1)) (.cn (.ex (.bool true)) (.nl)))) [] := by
 have ha := (red_none h).1
 have hl := (red_none h).2
 have hb : (red m (wideQ n q b) (n + 1)).2.1 - 1 = (red m q n).2.1 := by omega
 have hw := (red_inv m (wideQ n q b) (n + 1)).am
 exact kP (ch := [.reg 1 [(2, .callS (.cn (.agg (.cn (.sl 1 (fun i0 => .sl 3 (fun i1 => .rat (wideQ n q b i0 i1)) (n + 1)) m) (.cn (.ex (.int .i64 ((n + 1 : Nat) : Int))) (.nl)))) (.cn (.ex (.bool true)) (.nl))) [])], .dec 22 false, .reg 4 [(1, .callS (.cn (.agg (.cn (.sl 1 (mE ((red m (wideQ n q b) (n + 1)).1) (n + 1)) m) (.cn (.ex (.int .i64 ((n + 1 : Nat) : Int))) (.nl)))) (.cn (.sl 1 (fun i0 => .ex (.int .i64 (((red m (wideQ n q b) (n + 1)).2.2 i0 : Nat) : Int))) ((red m (wideQ n q b) (n + 1)).2.1)) (.nl))) [])], .reg 6 [(5, .z (((red m (wideQ n q b) (n + 1)).2.1 - 1 : Nat) : Int)), (6, .k ((red m (wideQ n q b) (n + 1)).2.1 - 1)), (9, .callS (.ex (.int .i64 (n : Int))) [])], .dec 41 true]) Tryz.func35 ((∀ j0, j0 < m → (∀ j1, j1 < n → True)) ∧ (∀ j0, j0 < m → True) ∧ _ ∧ ((!true) = false) ∧ _ ∧ (((decide ((0 : Int) < (((red m (wideQ n q b) (n + 1)).2.1 : Nat) : Int))) == true) = true → ((decide ((0 : Int) < (((red m (wideQ n q b) (n + 1)).2.1 : Nat) : Int))) == true) = true) ∧ (((decide ((0 : Int) < (((red m (wideQ n q b) (n + 1)).2.1 : Nat) : Int))) == true) = true → IntKind.wrap .i64 ((((red m (wideQ n q b) (n + 1)).2.1 : Nat) : Int) - 1) = ((((red m (wideQ n q b) (n + 1)).2.1 - 1 : Nat) : Int))) ∧ (((decide ((0 : Int) < (((red m (wideQ n q b) (n + 1)).2.1 : Nat) : Int))) == true) = true → ((decide ((0 : Int) < (((red m (wideQ n q b) (n + 1)).2.1 : Nat) : Int))) == true) = true) ∧ (((decide ((0 : Int) < (((red m (wideQ n q b) (n + 1)).2.1 : Nat) : Int))) == true) = true → ((decide ((0 : Int) < (((red m (wideQ n q b) (n + 1)).2.1 : Nat) : Int))) == true) = true) ∧ (((decide ((0 : Int) < (((red m (wideQ n q b) (n + 1)).2.1 : Nat) : Int))) == true) = true → _) ∧ (((decide ((0 : Int) < (((red m (wideQ n q b) (n + 1)).2.1 : Nat) : Int))) == true) = true → ((red m (wideQ n q b) (n + 1)).2.1 - 1) < ((red m (wideQ n q b) (n + 1)).2.1)) ∧ (((decide ((0 : Int) < (((red m (wideQ n q b) (n + 1)).2.1 : Nat) : Int))) == true) = true → ((decide ((0 : Int) < (((red m (wideQ n q b) (n + 1)).2.1 : Nat) : Int))) == true) = true) ∧ (((decide ((0 : Int) < (((red m (wideQ n q b) (n + 1)).2.1 : Nat) : Int))) == true) = true → ((decide ((0 : Int) < (((red m (wideQ n q b) (n + 1)).2.1 : Nat) : Int))) == true) = true) ∧ (((decide ((0 : Int) < (((red m (wideQ n q b) (n + 1)).2.1 : Nat) : Int))) == true) = true → _) ∧ (((decide ((0 : Int) < (((red m (wideQ n q b) (n + 1)).2.1 : Nat) : Int))) == true) = true → ((decide ((0 : Int) < (((red m (wideQ n q b) (n + 1)).2.1 : Nat) : Int))) == true) = true) ∧ (((decide ((0 : Int) < (((red m (wideQ n q b) (n + 1)).2.1 : Nat) : Int))) == true) = true → ((decide ((0 : Int) < (((red m (wideQ n q b) (n + 1)).2.1 : Nat) : Int))) == true) = true) ∧ ((decide ((0 : Int) < (((red m (wideQ n q b) (n + 1)).2.1 : Nat) : Int))) = true → ((decide ((0 : Int) < (((red m (wideQ n q b) (n + 1)).2.1 : Nat) : Int))) == true) = true) ∧ ((bif (decide ((0 : Int) < (((red m (wideQ n q b) (n + 1)).2.1 : Nat) : Int))) then (decide ((((red m (wideQ n q b) (n + 1)).2.2 ((red m (wideQ n q b) (n + 1)).2.1 - 1) : Nat) : Int) = (n : Int))) else false) = true) ∧ (_ ∧ _ ∧ _))
  ⟨(fun _ _ => (fun _ _ => trivial)), (fun _ _ => trivial), (sMatWithCol (m := m) (n := n) (q := q) (v := b) zo zo), (by simp), sReduced (m := m) (n := n + 1) (q := (wideQ n q b)) zo zo (by assumption), id, (fun hg => (by rw [IntKind.wrap_i64]; omega)), id, id, (fun hg => (rf (((red m (wideQ n q b) (n + 1)).2.1 - 1 : Nat) : Int))), (fun hg => zo), id, id, (fun hg => sMatCols (m := m) (n := n) (q := q)), id, id, (by simp), (by rw [hb, hl]; simp; omega), (rf 0), (rf (1 : Int)), (rf (true : Bool))⟩
theorem sSolveY {q : Nat → Nat → Rat} {b : Nat → Rat} {m n : Nat} (hm : m ≤ 64) (hn : n < 64) (hs : ∀ c, c ≤ n + 1 → HtB m (n + 1) 100000000 (red m (wideQ n q b) c).1) (h : ¬ noSol m n q b) : CallOK Tryz.prog 35 [.agg (.cn (.sl 1 (mE q n) m) (.cn (.ex (.int .i64 (n : Int))) (.nl))), .sl 3 (fun i0 => .rat (b i0)) m] (.cn (.sl 3 (fun i0 => .rat (solQ (red m (wideQ n q b) (n + 1)) n i0)) n) (.cn (.ex (.int .i64 (if (red m (wideQ n q b) (n + 1)).2.1 < n then 3 else 2))) (.cn (.ex (.bool true)) (.nl)))) [] := by
 have H := red_inv m (wideQ n q b) (n + 1)
 have hw := H.am
 have hl : ∀ i, i < (red m (wideQ n q b) (n + 1)).2.1 → (red m (wideQ n q b) (n + 1)).2.2 i < n := sol_lt h
 exact kP (ch := [.reg 1 [(2, .callS (.cn (.agg (.cn (.sl 1 (fun i0 => .sl 3 (fun i1 => .rat (wideQ n q b i0 i1)) (n + 1)) m) (.cn (.ex (.int .i64 ((n + 1 : Nat) : Int))) (.nl)))) (.cn (.ex (.bool true)) (.nl))) [])], .dec 22 false, .reg 4 [(1, .callS (.cn (.agg (.cn (.sl 1 (mE ((red m (wideQ n q b) (n + 1)).1) (n + 1)) m) (.cn (.ex (.int .i64 ((n + 1 : Nat) : Int))) (.nl)))) (.cn (.sl 1 (fun i0 => .ex (.int .i64 (((red m (wideQ n q b) (n + 1)).2.2 i0 : Nat) : Int))) ((red m (wideQ n q b) (n + 1)).2.1)) (.nl))) [])], .reg 6 [(5, .z (((red m (wideQ n q b) (n + 1)).2.1 - 1 : Nat) : Int)), (6, .k ((red m (wideQ n q b) (n + 1)).2.1 - 1)), (9, .callS (.ex (.int .i64 (n : Int))) [])], .dec 41 false, .reg 8 [(1, .callS (.ex (.int .i64 (n : Int))) []), (2, .row n (fun _ => .rat 0))], .loop 10 (Nat) (fun g => g ≤ (red m (wideQ n q b) (n + 1)).2.1) (fun g => (red m (wideQ n q b) (n + 1)).2.1 - g) (fun g => ⟨[(2, .own 0 0), (9, .own 2 0), (10, .sl 1 (fun i0 => .ex (.int .i64 (((red m (wideQ n q b) (n + 1)).2.2 i0 : Nat) : Int))) ((red m (wideQ n q b) (n + 1)).2.1)), (11, .ex (.int .i64 (((red m (wideQ n q b) (n + 1)).2.1 : Nat) : Int))), (12, .own 3 0), (45, .sl 1 (fun i0 => .ex (.int .i64 (((red m (wideQ n q b) (n + 1)).2.2 i0 : Nat) : Int))) ((red m (wideQ n q b) (n + 1)).2.1)), (46, .ex (.int .i64 (((red m (wideQ n q b) (n + 1)).2.1 : Nat) : Int))), (47, .ex (.int .i64 (g : Int)))], [(0, .one (.var 32 (.agg (.cn (.sl 1 (mE q n) m) (.cn (.ex (.int .i64 (n : Int))) (.nl)))))), (2, .one (.var 32 (.agg (.cn (.sl 1 (mE ((red m (wideQ n q b) (n + 1)).1) (n + 1)) m) (.cn (.ex (.int .i64 ((n + 1 : Nat) : Int))) (.nl)))))), (3, .one (.row 55 3 (fun i0 => .rat (solP (red m (wideQ n q b) (n + 1)) n g i0)) n))], 4⟩) [(0, .id 0), (2, .id 2), (3, .id 3)] (fun _ => [(0, .id 0), (2, .id 2), (3, .id 3)]) (fun g => [.reg 11 [(1, .k g)], .reg 12 [(5, .callS (.ex (.int .i64 (n : Int))) []), (6, .callS (.rat (((red m (wideQ n q b) (n + 1)).1) g n)) []), (7, .k ((red m (wideQ n q b) (n + 1)).2.2 g)), (8, .row 0 (fun i0 => .rat (solP (red m (wideQ n q b) (n + 1)) n (g + 1) i0)))], .reg 13 [(0, .z ((g + 1 : Nat) : Int))], .reg 14 [(2, .callS (.ex (.int .i64 (n : Int))) [])]])]) Tryz.func35 (let y1 := (decide ((0 : Int) < (((red m (wideQ n q b) (n + 1)).2.1 : Nat) : Int))); let y0 := (y1 == true); let y2 := (decide ((((red m (wideQ n q b) (n + 1)).2.1 : Nat) : Int) < (n : Int))); (∀ j0, j0 < m → (∀ j1, j1 < n → True)) ∧ (∀ j0, j0 < m → True) ∧ _ ∧ ((!true) = false) ∧ _ ∧ (y0 = true → y0 = true) ∧ (y0 = true → IntKind.wrap .i64 ((((red m (wideQ n q b) (n + 1)).2.1 : Nat) : Int) - 1) = ((((red m (wideQ n q b) (n + 1)).2.1 - 1 : Nat) : Int))) ∧ (y0 = true → y0 = true) ∧ (y0 = true → y0 = true) ∧ (y0 = true → _) ∧ (y0 = true → ((red m (wideQ n q b) (n + 1)).2.1 - 1) < ((red m (wideQ n q b) (n + 1)).2.1)) ∧ (y0 = true → y0 = true) ∧ (y0 = true → y0 = true) ∧ (y0 = true → _) ∧ (y0 = true → y0 = true) ∧ (y0 = true → y0 = true) ∧ (y1 = true → y0 = true) ∧ ((bif y1 then (decide ((((red m (wideQ n q b) (n + 1)).2.2 ((red m (wideQ n q b) (n + 1)).2.1 - 1) : Nat) : Int) = (n : Int))) else false) = false) ∧ _ ∧ _ ∧ _ ∧ (n ≤ 68719476736) ∧ (∀ j0, j0 < n → ((0 : Rat) = 0)) ∧ (((fun X1 X2 X3 X4 X5 X6 X7 X8 X9 X10 X11 X12 X13 X14 X15 X16 : Prop => ∃ g0 : Nat, X1 ∧ X2 ∧ X3 ∧ X4 ∧ X5 ∧ X6 ∧ X7 ∧ X8 ∧ X9 ∧ ((0 : Int) = (g0 : Int)) ∧ X10 ∧ X11 ∧ X12 ∧ X13 ∧ X14 ∧ X15 ∧ X16 ∧ (∀ j0, j0 < n → ((0 : Rat) = (solP (red m (wideQ n q b) (n + 1)) n g0 j0))) ∧ (g0 ≤ (red m (wideQ n q b) (n + 1)).2.1)) _ _ _ _ _ _ _ _ _ _ _ _ _ _ _ _) ∧ ∀ g : Nat, (g ≤ (red m (wideQ n q b) (n + 1)).2.1) → (((decide ((g : Int) < (((red m (wideQ n q b) (n + 1)).2.1 : Nat) : Int))) = true → _ ∧ (g < ((red m (wideQ n q b) (n + 1)).2.1)) ∧ _ ∧ _ ∧ _ ∧ (((red m (wideQ n q b) (n + 1)).2.2 g) < n) ∧ (((red m (wideQ n q b) (n + 1)).2.2 g) < n) ∧ (((((red m (wideQ n q b) (n + 1)).1) g n : Rat) = (solP (red m (wideQ n q b) (n + 1)) n (g + 1) ((red m (wideQ n q b) (n + 1)).2.2 g)))) ∧ (∀ t, t < n → t ≠ ((red m (wideQ n q b) (n + 1)).2.2 g) → (.rat (solP (red m (wideQ n q b) (n + 1)) n (g + 1) t) : SV) = .rat (solP (red m (wideQ n q b) (n + 1)) n g t)) ∧ _ ∧ ((fun X1 X2 X3 X4 X5 X6 X7 X8 X9 X10 X11 X12 X13 X14 X15 X16 : Prop => ∃ g1 : Nat, X1 ∧ X2 ∧ X3 ∧ X4 ∧ X5 ∧ X6 ∧ X7 ∧ X8 ∧ X9 ∧ (((g + 1 : Nat) : Int) = (g1 : Int)) ∧ X10 ∧ X11 ∧ X12 ∧ X13 ∧ X14 ∧ X15 ∧ X16 ∧ (∀ j0, j0 < n → ((solP (red m (wideQ n q b) (n + 1)) n (g + 1) j0 : Rat) = (solP (red m (wideQ n q b) (n + 1)) n g1 j0))) ∧ (g1 ≤ (red m (wideQ n q b) (n + 1)).2.1) ∧ ((red m (wideQ n q b) (n + 1)).2.1 - g1 < (red m (wideQ n q b) (n + 1)).2.1 - g)) _ _ _ _ _ _ _ _ _ _ _ _ _ _ _ _)) ∧ ((decide ((g : Int) < (((red m (wideQ n q b) (n + 1)).2.1 : Nat) : Int))) = false → _ ∧ ((y2 = true → (_ ∧ (∀ j0, j0 < n → ((solP (red m (wideQ n q b) (n + 1)) n g j0 : Rat) = (solQ (red m (wideQ n q b) (n + 1)) n j0))) ∧ ((3 : Int) = (if (red m (wideQ n q b) (n + 1)).2.1 < n then 3 else 2)) ∧ _)) ∧ (y2 = false → (_ ∧ (∀ j0, j0 < n → ((solP (red m (wideQ n q b) (n + 1)) n g j0 : Rat) = (solQ (red m (wideQ n q b) (n + 1)) n j0))) ∧ ((2 : Int) = (if (red m (wideQ n q b) (n + 1)).2.1 < n then 3 else 2)) ∧ _)))))))
  ⟨(fun _ _ => (fun _ _ => trivial)), (fun _ _ => trivial), (sMatWithCol (m := m) (n := n) (q := q) (v := b) zo zo), (by simp), sReduced (m := m) (n := n + 1) (q := (wideQ n q b)) zo zo (by assumption), id, (fun hg => (by have hg2 := of_guard hg; rw [IntKind.wrap_i64]; omega)), id, id, (fun hg => (rf (((red m (wideQ n q b) (n + 1)).2.1 - 1 : Nat) : Int))), (fun hg => (by have hg2 := of_guard hg; omega)), id, id, (fun hg => sMatCols (m := m) (n := n) (q := q)), id, id, (by simp), (sol_test hl), sMatCols (m := m) (n := n) (q := q), (rf (n : Int)), (rf (n : Int)), zo, (fun j0 hj0 => rfl), ⟨0, (rf 0), (rf 0), (rf ((red m (wideQ n q b) (n + 1)).2.1 : Nat)), (leS (fun i0 => .ex (.int .i64 (((red m (wideQ n q b) (n + 1)).2.2 i0 : Nat) : Int))) ((red m (wideQ n q b) (n + 1)).2.1)), (rf (((red m (wideQ n q b) (n + 1)).2.1 : Nat) : Int)), (rf 0), (rf ((red m (wideQ n q b) (n + 1)).2.1 : Nat)), (leS (fun i0 => .ex (.int .i64 (((red m (wideQ n q b) (n + 1)).2.2 i0 : Nat) : Int))) ((red m (wideQ n q b) (n + 1)).2.1)), (rf (((red m (wideQ n q b) (n + 1)).2.1 : Nat) : Int)), zo, (rf m), (leS (mE q n) m), (rf (n : Int)), (rf m), (leS (mE ((red m (wideQ n q b) (n + 1)).1) (n + 1)) m), (rf ((n + 1 : Nat) : Int)), (rf n), (fun j0 hj0 => solP_zero), zo⟩, fun g hg => ⟨fun hc48 => have hc48 := dT hc48; have hl2 := hl g zo; ⟨(rf (g : Int)), zo, sMatCols (m := m) (n := n) (q := q), sMatAt (m := m) (n := n + 1) (r := g) (c := n) (q := (fun r c => ((red m (wideQ n q b) (n + 1)).1) r c)) zo zo, (rf (((red m (wideQ n q b) (n + 1)).2.2 g : Nat) : Int)), zo, zo, (solP_at H zo), (fun t ht hne => by rw [solP_ne hne]), (wI (g := g) zo), g + 1, (rf 0), (rf 0), (rf ((red m (wideQ n q b) (n + 1)).2.1 : Nat)), (leS (fun i0 => .ex (.int .i64 (((red m (wideQ n q b) (n + 1)).2.2 i0 : Nat) : Int))) ((red m (wideQ n q b) (n + 1)).2.1)), (rf (((red m (wideQ n q b) (n + 1)).2.1 : Nat) : Int)), (rf 0), (rf ((red m (wideQ n q b) (n + 1)).2.1 : Nat)), (leS (fun i0 => .ex (.int .i64 (((red m (wideQ n q b) (n + 1)).2.2 i0 : Nat) : Int))) ((red m (wideQ n q b) (n + 1)).2.1)), (rf (((red m (wideQ n q b) (n + 1)).2.1 : Nat) : Int)), zo, (rf m), (leS (mE q n) m), (rf (n : Int)), (rf m), (leS (mE ((red m (wideQ n q b) (n + 1)).1) (n + 1)) m), (rf ((n + 1 : Nat) : Int)), (rf n), (fun j0 hj0 => rfl), zo, zo⟩, fun hc48 => have hc48 := dF hc48; have hi2 : g = (red m (wideQ n q b) (n + 1)).2.1 := zo; ⟨sMatCols (m := m) (n := n) (q := q), fun hc64 => have hc64 := dT hc64; ⟨(rf n), (fun j0 hj0 => (by rw [hi2]; rfl)), (if_pos zo).symm, (rf (true : Bool))⟩, fun hc64 => have hc64 := dF hc64; ⟨(rf n), (fun j0 hj0 => (by rw [hi2]; rfl)), (if_neg zo).symm, (rf (true : Bool))⟩⟩⟩⟩
theorem sKernel {q : Nat → Nat → Rat} {m n : Nat} (hm : m ≤ 64) (hn : n ≤ 64) (hs : ∀ c, c ≤ n → HtB m n 100000000 (red m q c).1) : CallOK Tryz.prog 62 [.agg (.cn (.sl 1 (mE q n) m) (.cn (.ex (.int .i64 (n : Int))) (.nl)))] (.sl 1 (fun i0 => .sl 3 (fun i1 => .rat (kerQ (red m q n) ((frL (red m q n).2.1 (red m q n).2.2 n).2 i0) i1)) n) ((frL (red m q n).2.1 (red m q n).2.2 n).1)) [] := by
 have H := red_inv m q n
 have hl := H.leads
 have hlt := H.lt
 have hw := H.am
 exact kP (ch := [.reg 1 [(1, .callS (.cn (.agg (.cn (.sl 1 (mE ((red m q n).1) n) m) (.cn (.ex (.int .i64 (n : Int))) (.nl)))) (.cn (.sl 1 (fun i0 => .ex (.int .i64 (((red m q n).2.2 i0 : Nat) : Int))) ((red m q n).2.1)) (.nl))) [])], .reg 4 [(1, .callS (.ex (.int .i64 (n : Int))) [])], .loop 5 (Nat) (fun g => g ≤ n) (fun g => n - g) (fun g => ⟨[(1, .own 0 0), (3, .own 1 0), (4, .sl 1 (fun i0 => .ex (.int .i64 (((red m q n).2.2 i0 : Nat) : Int))) ((red m q n).2.1)), (17, .ex (.int .i64 (n : Int))), (18, .ex (.int .i64 (g : Int))), (5, .own 3 0), (6, .ex (.int .i64 (cntL (red m q n).2.1 (red m q n).2.2 g : Int)))], [(0, .one (.var 32 (.agg (.cn (.sl 1 (mE q n) m) (.cn (.ex (.int .i64 (n : Int))) (.nl)))))), (1, .one (.var 32 (.agg (.cn (.sl 1 (mE ((red m q n).1) n) m) (.cn (.ex (.int .i64 (n : Int))) (.nl)))))), (3, .one (.row 69 1 (fun i0 => .sl 3 (fun i1 => .rat (kerQ (red m q n) ((frL (red m q n).2.1 (red m q n).2.2 g).2 i0) i1)) n) ((frL (red m q n).2.1 (red m q n).2.2 g).1)))], 4⟩) [(0, .id 0), (1, .id 1), (3, .nil)] (fun _ => [(0, .id 0), (1, .id 1), (3, .id 3)]) (fun g => [.reg 7 [(7, .k (cntL (red m q n).2.1 (red m q n).2.2 g))], .reg 8 [(1, .z ((cntL (red m q n).2.1 (red m q n).2.2 g + 1 : Nat) : Int))], .reg 17 [(0, .z ((g + 1 : Nat) : Int))], .conv 9 [(0, .id 0), (1, .id 1), (2, .id 3)] ⟨[(1, .own 0 0), (3, .own 1 0), (4, .sl 1 (fun i0 => .ex (.int .i64 (((red m q n).2.2 i0 : Nat) : Int))) ((red m q n).2.1)), (17, .ex (.int .i64 (n : Int))), (18, .ex (.int .i64 (g : Int))), (5, .own 2 0), (6, .ex (.int .i64 (cntL (red m q n).2.1 (red m q n).2.2 g : Int))), (7, .ex (.int .i64 (g : Int)))], [(0, .one (.var 32 (.agg (.cn (.sl 1 (mE q n) m) (.cn (.ex (.int .i64 (n : Int))) (.nl)))))), (1, .one (.var 32 (.agg (.cn (.sl 1 (mE ((red m q n).1) n) m) (.cn (.ex (.int .i64 (n : Int))) (.nl)))))), (2, .one (.row 69 1 (fun i0 => .sl 3 (fun i1 => .rat (kerQ (red m q n) ((frL (red m q n).2.1 (red m q n).2.2 g).2 i0) i1)) n) ((frL (red m q n).2.1 (red m q n).2.2 g).1)))], 3⟩, .reg 9 [(1, .callS (.ex (.int .i64 (n : Int))) []), (2, .row n (fun _ => .rat 0))], .reg 10 [(2, .callS (.rat ((1 : Int) : Rat)) []), (3, .k g), (4, .row 0 (fun i0 => .rat (if i0 = g then 1 else 0)))], .loop 12 (Nat) (fun h => h ≤ (red m q n).2.1) (fun h => (red m q n).2.1 - h) (fun h => ⟨[(1, .own 0 0), (3, .own 1 0), (4, .sl 1 (fun i0 => .ex (.int .i64 (((red m q n).2.2 i0 : Nat) : Int))) ((red m q n).2.1)), (17, .ex (.int .i64 (n : Int))), (18, .ex (.int .i64 (g : Int))), (5, .own 2 0), (6, .ex (.int .i64 (cntL (red m q n).2.1 (red m q n).2.2 g : Int))), (7, .ex (.int .i64 (g : Int))), (8, .own 3 0), (42, .sl 1 (fun i0 => .ex (.int .i64 (((red m q n).2.2 i0 : Nat) : Int))) ((red m q n).2.1)), (43, .ex (.int .i64 (((red m q n).2.1 : Nat) : Int))), (44, .ex (.int .i64 (h : Int)))], [(0, .one (.var 32 (.agg (.cn (.sl 1 (mE q n) m) (.cn (.ex (.int .i64 (n : Int))) (.nl)))))), (1, .one (.var 32 (.agg (.cn (.sl 1 (mE ((red m q n).1) n) m) (.cn (.ex (.int .i64 (n : Int))) (.nl)))))), (2, .one (.row 69 1 (fun i0 => .sl 3 (fun i1 => .rat (kerQ (red m q n) ((frL (red m q n).2.1 (red m q n).2.2 g).2 i0) i1)) n) ((frL (red m q n).2.1 (red m q n).2.2 g).1))), (3, .one (.row 55 3 (fun i0 => .rat (kerP (red m q n) g h i0)) n))], 4⟩) [(0, .id 0), (1, .id 1), (2, .id 2), (3, .id 3)] (fun _ => [(0, .id 0), (1, .id 1), (2, .id 2), (3, .id 3)]) (fun h => [.reg 13 [(1, .k h)], .reg 14 [(5, .callS (.rat (((red m q n).1) h g)) []), (6, .callS (.rat (-(((red m q n).1) h g))) []), (7, .k ((red m q n).2.2 h)), (8, .row 0 (fun i0 => .rat (kerP (red m q n) g (h + 1) i0)))], .reg 15 [(0, .z ((h + 1 : Nat) : Int))], .conv 16 [(0, .id 0), (1, .id 1), (2, .id 2)] ⟨[(1, .own 0 0), (3, .own 1 0), (4, .sl 1 (fun i0 => .ex (.int .i64 (((red m q n).2.2 i0 : Nat) : Int))) ((red m q n).2.1)), (17, .ex (.int .i64 (n : Int))), (18, .ex (.int .i64 (g : Int))), (5, .own 2 0), (6, .ex (.int .i64 (cntL (red m q n).2.1 (red m q n).2.2 g : Int))), (8, .sl 3 (fun i0 => .rat (kerQ (red m q n) ((fun _ => g) 0) i0)) n)], [(0, .one (.var 32 (.agg (.cn (.sl 1 (mE q n) m) (.cn (.ex (.int .i64 (n : Int))) (.nl)))))), (1, .one (.var 32 (.agg (.cn (.sl 1 (mE ((red m q n).1) n) m) (.cn (.ex (.int .i64 (n : Int))) (.nl)))))), (2, .one (.row 69 1 (fun i0 => .sl 3 (fun i1 => .rat (kerQ (red m q n) ((frL (red m q n).2.1 (red m q n).2.2 g).2 i0) i1)) n) ((frL (red m q n).2.1 (red m q n).2.2 g).1)))], 3⟩, .reg 16 [(3, .row 0 (fun i0 => .sl 3 (fun i1 => .rat (kerQ (red m q n) ((frL (red m q n).2.1 (red m q n).2.2 (g + 1)).2 i0) i1)) n))], .reg 17 [(0, .z ((g + 1 : Nat) : Int))]])])]) Tryz.func62 ((∀ j0, j0 < m → (∀ j1, j1 < n → True)) ∧ _ ∧ _ ∧ (((fun X1 X2 X3 X4 X5 X6 X7 X8 X9 X10 X11 X12 : Prop => ∃ g0 : Nat, X1 ∧ X2 ∧ X3 ∧ X4 ∧ X5 ∧ ((0 : Int) = (g0 : Int)) ∧ X6 ∧ ((0 : Int) = (cntL (red m q n).2.1 (red m q n).2.2 g0 : Int)) ∧ X7 ∧ X8 ∧ X9 ∧ X10 ∧ X11 ∧ X12 ∧ (((frL (red m q n).2.1 (red m q n).2.2 g0).1 : Nat) = 0) ∧ (g0 ≤ n)) _ _ _ _ _ _ _ _ _ _ _ _) ∧ ∀ g : Nat, (g ≤ n) → (((decide ((g : Int) < (n : Int))) = true → (((decide (((cntL (red m q n).2.1 (red m q n).2.2 g : Nat) : Int) < (((red m q n).2.1 : Nat) : Int))) == true) = true → ((decide (((cntL (red m q n).2.1 (red m q n).2.2 g : Nat) : Int) < (((red m q n).2.1 : Nat) : Int))) == true) = true) ∧ (((decide (((cntL (red m q n).2.1 (red m q n).2.2 g : Nat) : Int) < (((red m q n).2.1 : Nat) : Int))) == true) = true → ((decide (((cntL (red m q n).2.1 (red m q n).2.2 g : Nat) : Int) < (((red m q n).2.1 : Nat) : Int))) == true) = true) ∧ (((decide (((cntL (red m q n).2.1 (red m q n).2.2 g : Nat) : Int) < (((red m q n).2.1 : Nat) : Int))) == true) = true → _) ∧ (((decide (((cntL (red m q n).2.1 (red m q n).2.2 g : Nat) : Int) < (((red m q n).2.1 : Nat) : Int))) == true) = true → (cntL (red m q n).2.1 (red m q n).2.2 g) < ((red m q n).2.1)) ∧ (((decide (((cntL (red m q n).2.1 (red m q n).2.2 g : Nat) : Int) < (((red m q n).2.1 : Nat) : Int))) == true) = true → ((decide (((cntL (red m q n).2.1 (red m q n).2.2 g : Nat) : Int) < (((red m q n).2.1 : Nat) : Int))) == true) = true) ∧ (((decide (((cntL (red m q n).2.1 (red m q n).2.2 g : Nat) : Int) < (((red m q n).2.1 : Nat) : Int))) == true) = true → ((decide (((cntL (red m q n).2.1 (red m q n).2.2 g : Nat) : Int) < (((red m q n).2.1 : Nat) : Int))) == true) = true) ∧ (((decide (((cntL (red m q n).2.1 (red m q n).2.2 g : Nat) : Int) < (((red m q n).2.1 : Nat) : Int))) == true) = true → ((decide (((cntL (red m q n).2.1 (red m q n).2.2 g : Nat) : Int) < (((red m q n).2.1 : Nat) : Int))) == true) = true) ∧ ((decide (((cntL (red m q n).2.1 (red m q n).2.2 g : Nat) : Int) < (((red m q n).2.1 : Nat) : Int))) = true → ((decide (((cntL (red m q n).2.1 (red m q n).2.2 g : Nat) : Int) < (((red m q n).2.1 : Nat) : Int))) == true) = true) ∧ (((bif (decide (((cntL (red m q n).2.1 (red m q n).2.2 g : Nat) : Int) < (((red m q n).2.1 : Nat) : Int))) then (decide ((((red m q n).2.2 (cntL (red m q n).2.1 (red m q n).2.2 g) : Nat) : Int) = (g : Int))) else false) = true → (IntKind.wrap .i64 (((cntL (red m q n).2.1 (red m q n).2.2 g : Nat) : Int) + 1) = (((cntL (red m q n).2.1 (red m q n).2.2 g + 1 : Nat) : Int))) ∧ _ ∧ ((fun X1 X2 X3 X4 X5 X6 X7 X8 X9 X10 X11 X12 : Prop => ∃ g1 : Nat, X1 ∧ X2 ∧ X3 ∧ X4 ∧ X5 ∧ (((g + 1 : Nat) : Int) = (g1 : Int)) ∧ X6 ∧ (((cntL (red m q n).2.1 (red m q n).2.2 g + 1 : Nat) : Int) = (cntL (red m q n).2.1 (red m q n).2.2 g1 : Int)) ∧ X7 ∧ X8 ∧ X9 ∧ X10 ∧ X11 ∧ X12 ∧ (((frL (red m q n).2.1 (red m q n).2.2 g).1 : Nat) = ((frL (red m q n).2.1 (red m q n).2.2 g1).1)) ∧ (∀ j0, j0 < ((frL (red m q n).2.1 (red m q n).2.2 g).1) → ((n : Nat) = n) ∧ (∀ j1, j1 < n → ((kerQ (red m q n) ((frL (red m q n).2.1 (red m q n).2.2 g).2 j0) j1 : Rat) = (kerQ (red m q n) ((frL (red m q n).2.1 (red m q n).2.2 g1).2 j0) j1)))) ∧ (g1 ≤ n) ∧ (n - g1 < n - g)) _ _ _ _ _ _ _ _ _ _ _ _)) ∧ ((bif (decide (((cntL (red m q n).2.1 (red m q n).2.2 g : Nat) : Int) < (((red m q n).2.1 : Nat) : Int))) then (decide ((((red m q n).2.2 (cntL (red m q n).2.1 (red m q n).2.2 g) : Nat) : Int) = (g : Int))) else false) = false → _ ∧ _ ∧ _ ∧ _ ∧ _ ∧ _ ∧ _ ∧ _ ∧ _ ∧ _ ∧ _ ∧ _ ∧ _ ∧ _ ∧ _ ∧ _ ∧ _ ∧ _ ∧ _ ∧ _ ∧ (n ≤ 68719476736) ∧ (∀ j0, j0 < n → ((0 : Rat) = 0)) ∧ _ ∧ _ ∧ (g < n) ∧ (g < n) ∧ (((((1 : Int) : Rat) : Rat) = (if g = g then 1 else 0))) ∧ (∀ t, t < n → t ≠ g → (.rat (if t = g then 1 else 0) : SV) = .rat 0) ∧ (((fun X1 X2 X3 X4 X5 X6 X7 X8 X9 X10 X11 X12 X13 X14 X15 X16 X17 X18 X19 X20 X21 X22 : Prop => ∃ h0 : Nat, X1 ∧ X2 ∧ X3 ∧ X4 ∧ X5 ∧ X6 ∧ X7 ∧ X8 ∧ X9 ∧ X10 ∧ X11 ∧ X12 ∧ X13 ∧ ((0 : Int) = (h0 : Int)) ∧ X14 ∧ X15 ∧ X16 ∧ X17 ∧ X18 ∧ X19 ∧ X20 ∧ X21 ∧ X22 ∧ (∀ j0, j0 < n → ((if j0 = g then 1 else 0 : Rat) = (kerP (red m q n) g h0 j0))) ∧ (h0 ≤ (red m q n).2.1)) _ _ _ _ _ _ _ _ _ _ _ _ _ _ _ _ _ _ _ _ _ _) ∧ ∀ h : Nat, (h ≤ (red m q n).2.1) → (((decide ((h : Int) < (((red m q n).2.1 : Nat) : Int))) = true → _ ∧ (h < ((red m q n).2.1)) ∧ _ ∧ _ ∧ _ ∧ (((red m q n).2.2 h) < n) ∧ (((red m q n).2.2 h) < n) ∧ (((-(((red m q n).1) h g) : Rat) = (kerP (red m q n) g (h + 1) ((red m q n).2.2 h)))) ∧ (∀ t, t < n → t ≠ ((red m q n).2.2 h) → (.rat (kerP (red m q n) g (h + 1) t) : SV) = .rat (kerP (red m q n) g h t)) ∧ _ ∧ ((fun X1 X2 X3 X4 X5 X6 X7 X8 X9 X10 X11 X12 X13 X14 X15 X16 X17 X18 X19 X20 X21 X22 : Prop => ∃ h1 : Nat, X1 ∧ X2 ∧ X3 ∧ X4 ∧ X5 ∧ X6 ∧ X7 ∧ X8 ∧ X9 ∧ X10 ∧ X11 ∧ X12 ∧ X13 ∧ (((h + 1 : Nat) : Int) = (h1 : Int)) ∧ X14 ∧ X15 ∧ X16 ∧ X17 ∧ X18 ∧ X19 ∧ X20 ∧ X21 ∧ X22 ∧ (∀ j0, j0 < n → ((kerP (red m q n) g (h + 1) j0 : Rat) = (kerP (red m q n) g h1 j0))) ∧ (h1 ≤ (red m q n).2.1) ∧ ((red m q n).2.1 - h1 < (red m q n).2.1 - h)) _ _ _ _ _ _ _ _ _ _ _ _ _ _ _ _ _ _ _ _ _ _)) ∧ ((decide ((h : Int) < (((red m q n).2.1 : Nat) : Int))) = false → _ ∧ _ ∧ _ ∧ _ ∧ _ ∧ _ ∧ _ ∧ _ ∧ _ ∧ (∀ j0, j0 < n → ((kerP (red m q n) g h j0 : Rat) = (kerQ (red m q n) ((fun _ => g) 0) j0))) ∧ _ ∧ _ ∧ _ ∧ _ ∧ _ ∧ _ ∧ _ ∧ _ ∧ (((frL (red m q n).2.1 (red m q n).2.2 g).1) + 1 ≤ 68719476736) ∧ (∀ j0, j0 < ((frL (red m q n).2.1 (red m q n).2.2 g).1) → (.sl 3 (fun i1 => .rat (kerQ (red m q n) ((frL (red m q n).2.1 (red m q n).2.2 (g + 1)).2 j0) i1)) n : SV) = .sl 3 (fun i1 => .rat (kerQ (red m q n) ((frL (red m q n).2.1 (red m q n).2.2 g).2 j0) i1)) n) ∧ (∀ j0, j0 < 1 → ((n : Nat) = n) ∧ (∀ j1, j1 < n → ((kerQ (red m q n) ((fun _ => g) 0) j1 : Rat) = (kerQ (red m q n) ((frL (red m q n).2.1 (red m q n).2.2 (g + 1)).2 (((frL (red m q n).2.1 (red m q n).2.2 g).1) + j0)) j1)))) ∧ _ ∧ ((fun X1 X2 X3 X4 X5 X6 X7 X8 X9 X10 X11 X12 : Prop => ∃ g1 : Nat, X1 ∧ X2 ∧ X3 ∧ X4 ∧ X5 ∧ (((g + 1 : Nat) : Int) = (g1 : Int)) ∧ X6 ∧ (((cntL (red m q n).2.1 (red m q n).2.2 g : Nat) : Int) = (cntL (red m q n).2.1 (red m q n).2.2 g1 : Int)) ∧ X7 ∧ X8 ∧ X9 ∧ X10 ∧ X11 ∧ X12 ∧ ((((frL (red m q n).2.1 (red m q n).2.2 g).1) + 1 : Nat) = ((frL (red m q n).2.1 (red m q n).2.2 g1).1)) ∧ (∀ j0, j0 < (((frL (red m q n).2.1 (red m q n).2.2 g).1) + 1) → ((n : Nat) = n) ∧ (∀ j1, j1 < n → ((kerQ (red m q n) ((frL (red m q n).2.1 (red m q n).2.2 (g + 1)).2 j0) j1 : Rat) = (kerQ (red m q n) ((frL (red m q n).2.1 (red m q n).2.2 g1).2 j0) j1)))) ∧ (g1 ≤ n) ∧ (n - g1 < n - g)) _ _ _ _ _ _ _ _ _ _ _ _))))))) ∧ ((decide ((g : Int) < (n : Int))) = false → ((((frL (red m q n).2.1 (red m q n).2.2 g).1 : Nat) = ((frL (red m q n).2.1 (red m q n).2.2 n).1)) ∧ (∀ j0, j0 < ((frL (red m q n).2.1 (red m q n).2.2 g).1) → ((n : Nat) = n) ∧ (∀ j1, j1 < n → ((kerQ (red m q n) ((frL (red m q n).2.1 (red m q n).2.2 g).2 j0) j1 : Rat) = (kerQ (red m q n) ((frL (red m q n).2.1 (red m q n).2.2 n).2 j0) j1)))))))))
  ⟨(fun _ _ => (fun _ _ => trivial)), sReduced (m := m) (n := n) (q := q) zo zo (by assumption), sMatCols (m := m) (n := n) (q := q), ⟨0, (rf 0), (rf 0), (rf ((red m q n).2.1 : Nat)), (leS (fun i0 => .ex (.int .i64 (((red m q n).2.2 i0 : Nat) : Int))) ((red m q n).2.1)), (rf (n : Int)), zo, (rf 0), (by rw [cntL_zero]; rfl), (rf m), (leS (mE q n) m), (rf (n : Int)), (rf m), (leS (mE ((red m q n).1) n) m), (rf (n : Int)), rfl, zo⟩, fun g hg => have hca := cntL_le (L := (red m q n).2.2) (c := g) (red m q n).2.1; have hfi := (fr_inv hl g hg).1; ⟨fun hc19 => have hc19 := dT hc19; ⟨id, id, (fun hg => (rf (cntL (red m q n).2.1 (red m q n).2.2 g : Int))), (fun hg => (by have hg2 := of_guard hg; omega)), id, id, id, (by simp), fun hc32 => have hz := ker_yes hc32; ⟨(by rw [IntKind.wrap_i64]; omega), (wI (g := g) zo), g + 1, (rf 0), (rf 0), (rf ((red m q n).2.1 : Nat)), (leS (fun i0 => .ex (.int .i64 (((red m q n).2.2 i0 : Nat) : Int))) ((red m q n).2.1)), (rf (n : Int)), zo, (rf 0), (by first | rw [cnt_hit hl hz] | rw [cnt_miss hl hz]), (rf m), (leS (mE q n) m), (rf (n : Int)), (rf m), (leS (mE ((red m q n).1) n) m), (rf (n : Int)), (by first | rw [fr_hit hz] | rw [fr_miss hz]), (fun j0 hj0 => ⟨rfl, (fun j1 hj1 => (by first | rw [fr_hit hz] | rfl))⟩), zo, zo⟩, fun hc32 => have hz := ker_no hc32; have hne0 := miss_ne hl hz; ⟨(rf 0), (rf 0), (rf ((red m q n).2.1 : Nat)), (leS (fun i0 => .ex (.int .i64 (((red m q n).2.2 i0 : Nat) : Int))) ((red m q n).2.1)), (rf (n : Int)), (rf (g : Int)), (rf 0), (rf (cntL (red m q n).2.1 (red m q n).2.2 g : Int)), (rf (g : Int)), (rf m), (leS (mE q n) m), (rf (n : Int)), (rf m), (leS (mE ((red m q n).1) n) m), (rf (n : Int)), (rf ((frL (red m q n).2.1 (red m q n).2.2 g).1 : Nat)), (leS (fun i0 => .sl 3 (fun i1 => .rat (kerQ (red m q n) ((frL (red m q n).2.1 (red m q n).2.2 g).2 i0) i1)) n) ((frL (red m q n).2.1 (red m q n).2.2 g).1)), sMatCols (m := m) (n := n) (q := q), (rf (n : Int)), (rf (n : Int)), zo, (fun j0 hj0 => rfl), sRatInt (x := 1) zo zo, (rf (g : Int)), zo, zo, (if_pos rfl).symm, (fun t ht hne => by rw [if_neg hne]), ⟨0, (rf 0), (rf 0), (rf ((red m q n).2.1 : Nat)), (leS (fun i0 => .ex (.int .i64 (((red m q n).2.2 i0 : Nat) : Int))) ((red m q n).2.1)), (rf (n : Int)), (rf (g : Int)), (rf 0), (rf (cntL (red m q n).2.1 (red m q n).2.2 g : Int)), (rf (g : Int)), (rf 0), (rf ((red m q n).2.1 : Nat)), (leS (fun i0 => .ex (.int .i64 (((red m q n).2.2 i0 : Nat) : Int))) ((red m q n).2.1)), (rf (((red m q n).2.1 : Nat) : Int)), zo, (rf m), (leS (mE q n) m), (rf (n : Int)), (rf m), (leS (mE ((red m q n).1) n) m), (rf (n : Int)), (rf ((frL (red m q n).2.1 (red m q n).2.2 g).1 : Nat)), (leS (fun i0 => .sl 3 (fun i1 => .rat (kerQ (red m q n) ((frL (red m q n).2.1 (red m q n).2.2 g).2 i0) i1)) n) ((frL (red m q n).2.1 (red m q n).2.2 g).1)), (rf n), (fun j0 hj0 => kerP_zero), zo⟩, fun h hh => ⟨fun hc45 => have hc45 := dT hc45; have hl2 := hlt h zo; ⟨(rf (h : Int)), zo, sMatAt (m := m) (n := n) (r := h) (c := g) (q := ((red m q n).1)) zo zo, sRatNeg (q := ((red m q n).1) h g), (rf (((red m q n).2.2 h : Nat) : Int)), zo, zo, (kerP_at H zo hne0), (fun t ht hne => by rw [kerP_ne hne]), (wI (g := h) zo), h + 1, (rf 0), (rf 0), (rf ((red m q n).2.1 : Nat)), (leS (fun i0 => .ex (.int .i64 (((red m q n).2.2 i0 : Nat) : Int))) ((red m q n).2.1)), (rf (n : Int)), (rf (g : Int)), (rf 0), (rf (cntL (red m q n).2.1 (red m q n).2.2 g : Int)), (rf (g : Int)), (rf 0), (rf ((red m q n).2.1 : Nat)), (leS (fun i0 => .ex (.int .i64 (((red m q n).2.2 i0 : Nat) : Int))) ((red m q n).2.1)), (rf (((red m q n).2.1 : Nat) : Int)), zo, (rf m), (leS (mE q n) m), (rf (n : Int)), (rf m), (leS (mE ((red m q n).1) n) m), (rf (n : Int)), (rf ((frL (red m q n).2.1 (red m q n).2.2 g).1 : Nat)), (leS (fun i0 => .sl 3 (fun i1 => .rat (kerQ (red m q n) ((frL (red m q n).2.1 (red m q n).2.2 g).2 i0) i1)) n) ((frL (red m q n).2.1 (red m q n).2.2 g).1)), (rf n), (fun j0 hj0 => rfl), zo, zo⟩, fun hc45 => have hc45 := dF hc45; have hi3 : h = (red m q n).2.1 := zo; ⟨(rf 0), (rf 0), (rf ((red m q n).2.1 : Nat)), (leS (fun i0 => .ex (.int .i64 (((red m q n).2.2 i0 : Nat) : Int))) ((red m q n).2.1)), (rf (n : Int)), (rf (g : Int)), (rf 0), (rf (cntL (red m q n).2.1 (red m q n).2.2 g : Int)), (rf n), (fun j0 hj0 => (by rw [hi3]; rfl)), (rf m), (leS (mE q n) m), (rf (n : Int)), (rf m), (leS (mE ((red m q n).1) n) m), (rf (n : Int)), (rf ((frL (red m q n).2.1 (red m q n).2.2 g).1 : Nat)), (leS (fun i0 => .sl 3 (fun i1 => .rat (kerQ (red m q n) ((frL (red m q n).2.1 (red m q n).2.2 g).2 i0) i1)) n) ((frL (red m q n).2.1 (red m q n).2.2 g).1)), zo, (ker_old hz), (ker_new hz), (wI (g := g) zo), g + 1, (rf 0), (rf 0), (rf ((red m q n).2.1 : Nat)), (leS (fun i0 => .ex (.int .i64 (((red m q n).2.2 i0 : Nat) : Int))) ((red m q n).2.1)), (rf (n : Int)), zo, (rf 0), (by first | rw [cnt_hit hl hz] | rw [cnt_miss hl hz]), (rf m), (leS (mE q n) m), (rf (n : Int)), (rf m), (leS (mE ((red m q n).1) n) m), (rf (n : Int)), (by first | rw [fr_hit hz] | rw [fr_miss hz]), (fun j0 hj0 => ⟨rfl, (fun j1 hj1 => (by first | rw [fr_hit hz] | rfl))⟩), zo, zo⟩⟩⟩⟩, fun hc19 => have hc19 := dF hc19; have hi2 : g = n := zo; ⟨(by rw [hi2]), (fun j0 hj0 => ⟨rfl, (fun j1 hj1 => (by rw [hi2]))⟩)⟩⟩⟩
open Go.RowKit
section
variable {n g : Nat} {W : Nat → Nat → Rat}
theorem sq_hit {j c : Nat} (ha : (red n W g).2.1 = g) (k : leadK (red n W g).1 g g (n - g) < n) (hj : j < n) : clrP (scaleQ (swapR (red n W g).1 g (leadK (red n W g).1 g g (n - g))) g g) g g n j c = (red n W (g + 1)).1 j c := by
 have := red_hit1 (m := n) (h := n) (q := W) (g := g) (j := j) (c := c) (by rw [ha]; exact k) hj
 rw [ha] at this
 exact this
theorem sq_next (ha : (red n W g).2.1 = g) (k : leadK (red n W g).1 g g (n - g) < n) : (red n W (g + 1)).2.1 = g + 1 := by
 rw [red_step (by rw [ha]; exact k)]
 show (red n W g).2.1 + 1 = g + 1
 rw [ha]
theorem red_more (c : Nat) : (red n W (c + 1)).2.1 ≤ (red n W c).2.1 + 1 := by
 show (redStep n (red n W c) c).2.1 ≤ _
 unfold redStep
 split
 ·exact Nat.le_refl _
 ·exact Nat.le_succ _
theorem red_top (c : Nat) : ∀ k, (red n W (c + k)).2.1 ≤ (red n W c).2.1 + k
 | 0 => Nat.le_refl _
 | k + 1 => Nat.le_trans (red_more (c + k)) (Nat.succ_le_succ (red_top c k))
theorem sq_lead (hall : (red n W n).2.1 = n) (ha : (red n W g).2.1 = g) (hg : g < n) : leadK (red n W g).1 g g (n - g) < n := by
 refine Classical.byContradiction fun k => ?_
 have h1 := red_skip (m := n) (q := W) (g := g) (by rw [ha]; exact k)
 have h2 := red_top (n := n) (W := W) (g + 1) (n - (g + 1))
 rw [show g + 1 + (n - (g + 1)) = n by omega, h1, hall, ha] at h2
 omega
end
theorem sSquare {q : Nat → Nat → Rat} {b : Nat → Rat} {n : Nat} (hn : n ≤ 64) (hs : ∀ c, c ≤ n → HtB n (n + 1) 100000000 (red n (wideQ n q b) c).1) (hall : (red n (wideQ n q b) n).2.1 = n) : CallOK Tryz.prog 64 [.agg (.cn (.sl 1 (mE q n) n) (.cn (.ex (.int .i64 (n : Int))) (.nl))), .sl 3 (fun i0 => .rat (b i0)) n] (.cn (.own 0 0) (.cn (.ex (.int .i64 2)) (.cn (.ex (.bool true)) (.nl)))) [.one (.row 55 3 (fun i0 => .rat ((red n (wideQ n q b) n).1 i0 n)) n)] := by
 exact kP (ch := [.reg 1 [(3, .callS (.ex (.int .i64 (n : Int))) [])], .dec 19 false, .reg 3 [(1, .callS (.own 0 0) [.one (.row 69 1 (mE q n) n)])], .reg 4 [(1, .callS (.own 0 0) [.one (.row 55 3 (fun i0 => .rat (b i0)) n)])], .reg 5 [(1, .callS (.ex (.int .i64 (n : Int))) [])], .loop 6 (Nat) (fun g => g ≤ n ∧ (red n (wideQ n q b) g).2.1 = g) (fun g => n - g) (fun g => ⟨[(7, .own 1 0), (8, .own 2 0), (25, .ex (.int .i64 (n : Int))), (26, .ex (.int .i64 (g : Int)))], [(0, .one (.var 32 (.agg (.cn (.sl 1 (mE q n) n) (.cn (.ex (.int .i64 (n : Int))) (.nl)))))), (1, .one (.row 69 1 (mE (red n (wideQ n q b) g).1 n) n)), (2, .one (.row 55 3 (fun i0 => .rat ((red n (wideQ n q b) g).1 i0 n)) n))], 3⟩) [(0, .id 0), (1, .id 1), (2, .id 2)] (fun _ => [(0, .id 0), (1, .id 1), (2, .id 2)]) (fun g => [.reg 8 [(3, .callS (.ex (.int .i64 (leadZ ((red n (wideQ n q b) g).1) n g g))) [])], .dec 34 false, .reg 11 [(6, .k (leadK (red n (wideQ n q b) g).1 g g (n - g))), (10, .k g), (12, .k g), (13, .row 0 (mE (setR (red n (wideQ n q b) g).1 g ((red n (wideQ n q b) g).1 (leadK (red n (wideQ n q b) g).1 g g (n - g)))) n)), (14, .k (leadK (red n (wideQ n q b) g).1 g g (n - g))), (15, .row 0 (mE (swapR (red n (wideQ n q b) g).1 g (leadK (red n (wideQ n q b) g).1 g g (n - g))) n))], .reg 12 [(6, .k (leadK (red n (wideQ n q b) g).1 g g (n - g))), (10, .k g), (12, .k g), (13, .row 0 (fun i0 => .rat ((setR (red n (wideQ n q b) g).1 g ((red n (wideQ n q b) g).1 (leadK (red n (wideQ n q b) g).1 g g (n - g)))) i0 n))), (14, .k (leadK (red n (wideQ n q b) g).1 g g (n - g))), (15, .row 0 (fun i0 => .rat ((swapR (red n (wideQ n q b) g).1 g (leadK (red n (wideQ n q b) g).1 g g (n - g))) i0 n)))], .reg 13 [(2, .k g), (5, .k g), (7, .callS (.cn (.rat (((swapR (red n (wideQ n q b) g).1 g (leadK (red n (wideQ n q b) g).1 g g (n - g))) g g)⁻¹)) (.cn (.ex (.bool (!decide (((swapR (red n (wideQ n q b) g).1 g (leadK (red n (wideQ n q b) g).1 g g (n - g))) g g) = 0)))) (.nl))) [])], .reg 14 [(7, .k g), (9, .callS (.sl 3 (fun i0 => .rat ((((swapR (red n (wideQ n q b) g).1 g (leadK (red n (wideQ n q b) g).1 g g (n - g))) g g)⁻¹) * ((swapR (red n (wideQ n q b) g).1 g (leadK (red n (wideQ n q b) g).1 g g (n - g))) g i0))) n) []), (13, .k g), (15, .callS (.rat ((((swapR (red n (wideQ n q b) g).1 g (leadK (red n (wideQ n q b) g).1 g g (n - g))) g g)⁻¹) * ((swapR (red n (wideQ n q b) g).1 g (leadK (red n (wideQ n q b) g).1 g g (n - g))) g n))) []), (16, .k g), (17, .row 0 (mE (scaleQ (swapR (red n (wideQ n q b) g).1 g (leadK (red n (wideQ n q b) g).1 g g (n - g))) g g) n)), (18, .k g), (19, .row 0 (fun i0 => .rat ((scaleQ (swapR (red n (wideQ n q b) g).1 g (leadK (red n (wideQ n q b) g).1 g g (n - g))) g g) i0 n)))], .loop 16 (Nat) (fun h => h ≤ n) (fun h => n - h) (fun h => ⟨[(7, .own 1 0), (8, .own 2 0), (25, .ex (.int .i64 (n : Int))), (26, .ex (.int .i64 (g : Int))), (9, .ex (.int .i64 (g : Int))), (93, .ex (.int .i64 (n : Int))), (94, .ex (.int .i64 (h : Int)))], [(0, .one (.var 32 (.agg (.cn (.sl 1 (mE q n) n) (.cn (.ex (.int .i64 (n : Int))) (.nl)))))), (1, .one (.row 69 1 (mE (clrP (scaleQ (swapR (red n (wideQ n q b) g).1 g (leadK (red n (wideQ n q b) g).1 g g (n - g))) g g) g g h) n) n)), (2, .one (.row 55 3 (fun i0 => .rat ((clrP (scaleQ (swapR (red n (wideQ n q b) g).1 g (leadK (red n (wideQ n q b) g).1 g g (n - g))) g g) g g h) i0 n)) n))], 3⟩) [(0, .id 0), (1, .id 1), (2, .id 2)] (fun _ => [(0, .id 0), (1, .id 1), (2, .id 2)]) (fun h => [.reg 19 [(2, .k h), (5, .k g), (7, .callS (.rat (-((clrP (scaleQ (swapR (red n (wideQ n q b) g).1 g (leadK (red n (wideQ n q b) g).1 g g (n - g))) g g) g g h) h g))) [])], .reg 20 [(4, .k h), (9, .k g), (11, .callS (.cn (.sl 3 (fun i0 => .rat (((clrP (scaleQ (swapR (red n (wideQ n q b) g).1 g (leadK (red n (wideQ n q b) g).1 g g (n - g))) g g) g g h) h i0) + (-((clrP (scaleQ (swapR (red n (wideQ n q b) g).1 g (leadK (red n (wideQ n q b) g).1 g g (n - g))) g g) g g h) h g)) * ((clrP (scaleQ (swapR (red n (wideQ n q b) g).1 g (leadK (red n (wideQ n q b) g).1 g g (n - g))) g g) g g h) g i0))) n) (.cn (.ex (.bool true)) (.nl))) []), (15, .k h), (16, .row 0 (mE (clrP (scaleQ (swapR (red n (wideQ n q b) g).1 g (leadK (red n (wideQ n q b) g).1 g g (n - g))) g g) g g (h + 1)) n))], .reg 21 [(4, .k h), (9, .k g), (11, .callS (.rat ((-((clrP (scaleQ (swapR (red n (wideQ n q b) g).1 g (leadK (red n (wideQ n q b) g).1 g g (n - g))) g g) g g h) h g)) * ((clrP (scaleQ (swapR (red n (wideQ n q b) g).1 g (leadK (red n (wideQ n q b) g).1 g g (n - g))) g g) g g h) g n))) []), (12, .callS (.rat (((clrP (scaleQ (swapR (red n (wideQ n q b) g).1 g (leadK (red n (wideQ n q b) g).1 g g (n - g))) g g) g g h) h n) + ((-((clrP (scaleQ (swapR (red n (wideQ n q b) g).1 g (leadK (red n (wideQ n q b) g).1 g g (n - g))) g g) g g h) h g)) * ((clrP (scaleQ (swapR (red n (wideQ n q b) g).1 g (leadK (red n (wideQ n q b) g).1 g g (n - g))) g g) g g h) g n)))) []), (13, .k h), (14, .row 0 (fun i0 => .rat ((clrP (scaleQ (swapR (red n (wideQ n q b) g).1 g (leadK (red n (wideQ n q b) g).1 g g (n - g))) g g) g g (h + 1)) i0 n)))], .reg 22 [(0, .z ((h + 1 : Nat) : Int))], .reg 22 [(0, .z ((h + 1 : Nat) : Int))], .reg 23 [(0, .z ((g + 1 : Nat) : Int))]]), .ret 24 [(0, .id 2)]])]) Tryz.func64 ((∀ j0, j0 < n → (∀ j1, j1 < n → True)) ∧ (∀ j0, j0 < n → True) ∧ _ ∧ ((!decide ((n : Int) = (n : Int))) = false) ∧ _ ∧ _ ∧ _ ∧ (((fun X1 X2 X3 X4 X5 X6 X7 X8 : Prop => ∃ g0 : Nat, X1 ∧ X2 ∧ X3 ∧ ((0 : Int) = (g0 : Int)) ∧ X4 ∧ X5 ∧ X6 ∧ X7 ∧ (∀ j0, j0 < n → ((n : Nat) = n) ∧ (∀ j1, j1 < n → ((q j0 j1 : Rat) = ((red n (wideQ n q b) g0).1 j0 j1)))) ∧ X8 ∧ (∀ j0, j0 < n → ((b j0 : Rat) = ((red n (wideQ n q b) g0).1 j0 n))) ∧ (g0 ≤ n ∧ (red n (wideQ n q b) g0).2.1 = g0)) _ _ _ _ _ _ _ _) ∧ ∀ g : Nat, (g ≤ n ∧ (red n (wideQ n q b) g).2.1 = g) → (((decide ((g : Int) < (n : Int))) = true → _ ∧ ((decide ((leadZ ((red n (wideQ n q b) g).1) n g g : Int) < 0)) = false) ∧ ((leadZ ((red n (wideQ n q b) g).1) n g g : Int) = (((leadK (red n (wideQ n q b) g).1 g g (n - g)) : Nat) : Int)) ∧ ((leadK (red n (wideQ n q b) g).1 g g (n - g)) < n) ∧ ((leadK (red n (wideQ n q b) g).1 g g (n - g)) < n) ∧ _ ∧ (g < n) ∧ (g < n) ∧ _ ∧ (g < n) ∧ (g < n) ∧ (((n : Nat) = n) ∧ (∀ j0, j0 < n → (((red n (wideQ n q b) g).1 (leadK (red n (wideQ n q b) g).1 g g (n - g)) j0 : Rat) = ((setR (red n (wideQ n q b) g).1 g ((red n (wideQ n q b) g).1 (leadK (red n (wideQ n q b) g).1 g g (n - g)))) g j0)))) ∧ (∀ t, t < n → t ≠ g → (.sl 3 (fun i0 => .rat ((setR (red n (wideQ n q b) g).1 g ((red n (wideQ n q b) g).1 (leadK (red n (wideQ n q b) g).1 g g (n - g)))) t i0)) n : SV) = .sl 3 (fun i0 => .rat ((red n (wideQ n q b) g).1 t i0)) n) ∧ ((leadZ ((red n (wideQ n q b) g).1) n g g : Int) = (((leadK (red n (wideQ n q b) g).1 g g (n - g)) : Nat) : Int)) ∧ ((leadK (red n (wideQ n q b) g).1 g g (n - g)) < n) ∧ ((leadK (red n (wideQ n q b) g).1 g g (n - g)) < n) ∧ (((n : Nat) = n) ∧ (∀ j0, j0 < n → (((red n (wideQ n q b) g).1 g j0 : Rat) = ((swapR (red n (wideQ n q b) g).1 g (leadK (red n (wideQ n q b) g).1 g g (n - g))) (leadK (red n (wideQ n q b) g).1 g g (n - g)) j0)))) ∧ (∀ t, t < n → t ≠ (leadK (red n (wideQ n q b) g).1 g g (n - g)) → (.sl 3 (fun i0 => .rat ((swapR (red n (wideQ n q b) g).1 g (leadK (red n (wideQ n q b) g).1 g g (n - g))) t i0)) n : SV) = .sl 3 (fun i0 => .rat ((setR (red n (wideQ n q b) g).1 g ((red n (wideQ n q b) g).1 (leadK (red n (wideQ n q b) g).1 g g (n - g)))) t i0)) n) ∧ ((leadZ ((red n (wideQ n q b) g).1) n g g : Int) = (((leadK (red n (wideQ n q b) g).1 g g (n - g)) : Nat) : Int)) ∧ ((leadK (red n (wideQ n q b) g).1 g g (n - g)) < n) ∧ ((leadK (red n (wideQ n q b) g).1 g g (n - g)) < n) ∧ _ ∧ (g < n) ∧ (g < n) ∧ _ ∧ (g < n) ∧ (g < n) ∧ ((((red n (wideQ n q b) g).1 (leadK (red n (wideQ n q b) g).1 g g (n - g)) n : Rat) = ((setR (red n (wideQ n q b) g).1 g ((red n (wideQ n q b) g).1 (leadK (red n (wideQ n q b) g).1 g g (n - g)))) g n))) ∧ (∀ t, t < n → t ≠ g → (.rat ((setR (red n (wideQ n q b) g).1 g ((red n (wideQ n q b) g).1 (leadK (red n (wideQ n q b) g).1 g g (n - g)))) t n) : SV) = .rat ((red n (wideQ n q b) g).1 t n)) ∧ ((leadZ ((red n (wideQ n q b) g).1) n g g : Int) = (((leadK (red n (wideQ n q b) g).1 g g (n - g)) : Nat) : Int)) ∧ ((leadK (red n (wideQ n q b) g).1 g g (n - g)) < n) ∧ ((leadK (red n (wideQ n q b) g).1 g g (n - g)) < n) ∧ ((((red n (wideQ n q b) g).1 g n : Rat) = ((swapR (red n (wideQ n q b) g).1 g (leadK (red n (wideQ n q b) g).1 g g (n - g))) (leadK (red n (wideQ n q b) g).1 g g (n - g)) n))) ∧ (∀ t, t < n → t ≠ (leadK (red n (wideQ n q b) g).1 g g (n - g)) → (.rat ((swapR (red n (wideQ n q b) g).1 g (leadK (red n (wideQ n q b) g).1 g g (n - g))) t n) : SV) = .rat ((setR (red n (wideQ n q b) g).1 g ((red n (wideQ n q b) g).1 (leadK (red n (wideQ n q b) g).1 g g (n - g)))) t n)) ∧ _ ∧ (g < n) ∧ (g < n) ∧ _ ∧ (g < n) ∧ _ ∧ _ ∧ (g < n) ∧ (g < n) ∧ _ ∧ _ ∧ (g < n) ∧ (g < n) ∧ _ ∧ _ ∧ (g < n) ∧ (g < n) ∧ (((n : Nat) = n) ∧ (∀ j0, j0 < n → (((((swapR (red n (wideQ n q b) g).1 g (leadK (red n (wideQ n q b) g).1 g g (n - g))) g g)⁻¹) * ((swapR (red n (wideQ n q b) g).1 g (leadK (red n (wideQ n q b) g).1 g g (n - g))) g j0) : Rat) = ((scaleQ (swapR (red n (wideQ n q b) g).1 g (leadK (red n (wideQ n q b) g).1 g g (n - g))) g g) g j0)))) ∧ (∀ t, t < n → t ≠ g → (.sl 3 (fun i0 => .rat ((scaleQ (swapR (red n (wideQ n q b) g).1 g (leadK (red n (wideQ n q b) g).1 g g (n - g))) g g) t i0)) n : SV) = .sl 3 (fun i0 => .rat ((swapR (red n (wideQ n q b) g).1 g (leadK (red n (wideQ n q b) g).1 g g (n - g))) t i0)) n) ∧ _ ∧ (g < n) ∧ (g < n) ∧ ((((((swapR (red n (wideQ n q b) g).1 g (leadK (red n (wideQ n q b) g).1 g g (n - g))) g g)⁻¹) * ((swapR (red n (wideQ n q b) g).1 g (leadK (red n (wideQ n q b) g).1 g g (n - g))) g n) : Rat) = ((scaleQ (swapR (red n (wideQ n q b) g).1 g (leadK (red n (wideQ n q b) g).1 g g (n - g))) g g) g n))) ∧ (∀ t, t < n → t ≠ g → (.rat ((scaleQ (swapR (red n (wideQ n q b) g).1 g (leadK (red n (wideQ n q b) g).1 g g (n - g))) g g) t n) : SV) = .rat ((swapR (red n (wideQ n q b) g).1 g (leadK (red n (wideQ n q b) g).1 g g (n - g))) t n)) ∧ (((fun X1 X2 X3 X4 X5 X6 X7 X8 X9 X10 X11 : Prop => ∃ h0 : Nat, X1 ∧ X2 ∧ X3 ∧ X4 ∧ X5 ∧ X6 ∧ ((0 : Int) = (h0 : Int)) ∧ X7 ∧ X8 ∧ X9 ∧ X10 ∧ (∀ j0, j0 < n → ((n : Nat) = n) ∧ (∀ j1, j1 < n → (((scaleQ (swapR (red n (wideQ n q b) g).1 g (leadK (red n (wideQ n q b) g).1 g g (n - g))) g g) j0 j1 : Rat) = ((clrP (scaleQ (swapR (red n (wideQ n q b) g).1 g (leadK (red n (wideQ n q b) g).1 g g (n - g))) g g) g g h0) j0 j1)))) ∧ X11 ∧ (∀ j0, j0 < n → (((scaleQ (swapR (red n (wideQ n q b) g).1 g (leadK (red n (wideQ n q b) g).1 g g (n - g))) g g) j0 n : Rat) = ((clrP (scaleQ (swapR (red n (wideQ n q b) g).1 g (leadK (red n (wideQ n q b) g).1 g g (n - g))) g g) g g h0) j0 n))) ∧ (h0 ≤ n)) _ _ _ _ _ _ _ _ _ _ _) ∧ ∀ h : Nat, (h ≤ n) → (((decide ((h : Int) < (n : Int))) = true → (((!decide ((h : Int) = (g : Int))) = true → _ ∧ (h < n) ∧ (h < n) ∧ _ ∧ (g < n) ∧ _ ∧ _ ∧ (h < n) ∧ (h < n) ∧ _ ∧ (g < n) ∧ (g < n) ∧ _ ∧ _ ∧ (h < n) ∧ (h < n) ∧ (((n : Nat) = n) ∧ (∀ j0, j0 < n → ((((clrP (scaleQ (swapR (red n (wideQ n q b) g).1 g (leadK (red n (wideQ n q b) g).1 g g (n - g))) g g) g g h) h j0) + (-((clrP (scaleQ (swapR (red n (wideQ n q b) g).1 g (leadK (red n (wideQ n q b) g).1 g g (n - g))) g g) g g h) h g)) * ((clrP (scaleQ (swapR (red n (wideQ n q b) g).1 g (leadK (red n (wideQ n q b) g).1 g g (n - g))) g g) g g h) g j0) : Rat) = ((clrP (scaleQ (swapR (red n (wideQ n q b) g).1 g (leadK (red n (wideQ n q b) g).1 g g (n - g))) g g) g g (h + 1)) h j0)))) ∧ (∀ t, t < n → t ≠ h → (.sl 3 (fun i0 => .rat ((clrP (scaleQ (swapR (red n (wideQ n q b) g).1 g (leadK (red n (wideQ n q b) g).1 g g (n - g))) g g) g g (h + 1)) t i0)) n : SV) = .sl 3 (fun i0 => .rat ((clrP (scaleQ (swapR (red n (wideQ n q b) g).1 g (leadK (red n (wideQ n q b) g).1 g g (n - g))) g g) g g h) t i0)) n) ∧ _ ∧ (h < n) ∧ (h < n) ∧ _ ∧ (g < n) ∧ (g < n) ∧ _ ∧ _ ∧ _ ∧ (h < n) ∧ (h < n) ∧ (((((clrP (scaleQ (swapR (red n (wideQ n q b) g).1 g (leadK (red n (wideQ n q b) g).1 g g (n - g))) g g) g g h) h n) + ((-((clrP (scaleQ (swapR (red n (wideQ n q b) g).1 g (leadK (red n (wideQ n q b) g).1 g g (n - g))) g g) g g h) h g)) * ((clrP (scaleQ (swapR (red n (wideQ n q b) g).1 g (leadK (red n (wideQ n q b) g).1 g g (n - g))) g g) g g h) g n)) : Rat) = ((clrP (scaleQ (swapR (red n (wideQ n q b) g).1 g (leadK (red n (wideQ n q b) g).1 g g (n - g))) g g) g g (h + 1)) h n))) ∧ (∀ t, t < n → t ≠ h → (.rat ((clrP (scaleQ (swapR (red n (wideQ n q b) g).1 g (leadK (red n (wideQ n q b) g).1 g g (n - g))) g g) g g (h + 1)) t n) : SV) = .rat ((clrP (scaleQ (swapR (red n (wideQ n q b) g).1 g (leadK (red n (wideQ n q b) g).1 g g (n - g))) g g) g g h) t n)) ∧ _ ∧ ((fun X1 X2 X3 X4 X5 X6 X7 X8 X9 X10 X11 : Prop => ∃ h1 : Nat, X1 ∧ X2 ∧ X3 ∧ X4 ∧ X5 ∧ X6 ∧ (((h + 1 : Nat) : Int) = (h1 : Int)) ∧ X7 ∧ X8 ∧ X9 ∧ X10 ∧ (∀ j0, j0 < n → ((n : Nat) = n) ∧ (∀ j1, j1 < n → (((clrP (scaleQ (swapR (red n (wideQ n q b) g).1 g (leadK (red n (wideQ n q b) g).1 g g (n - g))) g g) g g (h + 1)) j0 j1 : Rat) = ((clrP (scaleQ (swapR (red n (wideQ n q b) g).1 g (leadK (red n (wideQ n q b) g).1 g g (n - g))) g g) g g h1) j0 j1)))) ∧ X11 ∧ (∀ j0, j0 < n → (((clrP (scaleQ (swapR (red n (wideQ n q b) g).1 g (leadK (red n (wideQ n q b) g).1 g g (n - g))) g g) g g (h + 1)) j0 n : Rat) = ((clrP (scaleQ (swapR (red n (wideQ n q b) g).1 g (leadK (red n (wideQ n q b) g).1 g g (n - g))) g g) g g h1) j0 n))) ∧ (h1 ≤ n) ∧ (n - h1 < n - h)) _ _ _ _ _ _ _ _ _ _ _)) ∧ ((!decide ((h : Int) = (g : Int))) = false → _ ∧ ((fun X1 X2 X3 X4 X5 X6 X7 X8 X9 X10 X11 : Prop => ∃ h1 : Nat, X1 ∧ X2 ∧ X3 ∧ X4 ∧ X5 ∧ X6 ∧ (((h + 1 : Nat) : Int) = (h1 : Int)) ∧ X7 ∧ X8 ∧ X9 ∧ X10 ∧ (∀ j0, j0 < n → ((n : Nat) = n) ∧ (∀ j1, j1 < n → (((clrP (scaleQ (swapR (red n (wideQ n q b) g).1 g (leadK (red n (wideQ n q b) g).1 g g (n - g))) g g) g g h) j0 j1 : Rat) = ((clrP (scaleQ (swapR (red n (wideQ n q b) g).1 g (leadK (red n (wideQ n q b) g).1 g g (n - g))) g g) g g h1) j0 j1)))) ∧ X11 ∧ (∀ j0, j0 < n → (((clrP (scaleQ (swapR (red n (wideQ n q b) g).1 g (leadK (red n (wideQ n q b) g).1 g g (n - g))) g g) g g h) j0 n : Rat) = ((clrP (scaleQ (swapR (red n (wideQ n q b) g).1 g (leadK (red n (wideQ n q b) g).1 g g (n - g))) g g) g g h1) j0 n))) ∧ (h1 ≤ n) ∧ (n - h1 < n - h)) _ _ _ _ _ _ _ _ _ _ _)))) ∧ ((decide ((h : Int) < (n : Int))) = false → _ ∧ ((fun X1 X2 X3 X4 X5 X6 X7 X8 : Prop => ∃ g1 : Nat, X1 ∧ X2 ∧ X3 ∧ (((g + 1 : Nat) : Int) = (g1 : Int)) ∧ X4 ∧ X5 ∧ X6 ∧ X7 ∧ (∀ j0, j0 < n → ((n : Nat) = n) ∧ (∀ j1, j1 < n → (((clrP (scaleQ (swapR (red n (wideQ n q b) g).1 g (leadK (red n (wideQ n q b) g).1 g g (n - g))) g g) g g h) j0 j1 : Rat) = ((red n (wideQ n q b) g1).1 j0 j1)))) ∧ X8 ∧ (∀ j0, j0 < n → (((clrP (scaleQ (swapR (red n (wideQ n q b) g).1 g (leadK (red n (wideQ n q b) g).1 g g (n - g))) g g) g g h) j0 n : Rat) = ((red n (wideQ n q b) g1).1 j0 n))) ∧ (g1 ≤ n ∧ (red n (wideQ n q b) g1).2.1 = g1) ∧ (n - g1 < n - g)) _ _ _ _ _ _ _ _))))) ∧ ((decide ((g : Int) < (n : Int))) = false → (_ ∧ _ ∧ _ ∧ _ ∧ (∀ j0, j0 < n → (((red n (wideQ n q b) g).1 j0 n : Rat) = ((red n (wideQ n q b) n).1 j0 n))))))))
  ⟨(fun _ _ => (fun _ _ => trivial)), (fun _ _ => trivial), sMatRows (m := n) (n := n) (q := q), (by simp), sRowsOf (m := n) (n := n) (q := q) zo zo, sVecCopy (n := n) (q := b) zo, sMatCols (m := n) (n := n) (q := q), ⟨0, (rf 0), (rf 0), (rf (n : Int)), zo, (rf n), (leS (mE q n) n), (rf (n : Int)), (rf n), (fun j0 hj0 => ⟨rfl, (fun j1 hj1 => (wideQ_lt (by assumption)).symm)⟩), (rf n), (fun j0 hj0 => wideQ_n.symm), Nat.zero_le _, rfl⟩, fun g hg0 => have hg1 := hg0.1; ⟨fun hc27 => have hc27 := dT hc27; have hgn : g < n := zo; have hk2 := sq_lead hall hg0.2 hgn; have H4 := (hs g zo).swap (k := g) hgn hk2; ⟨sLead (m := n) (n := n) (a := g) (c := g) (q := ((red n (wideQ n q b) g).1)) zo zo zo, (decide_eq_false fun e => lead_no e hk2), (leadZ_pos hk2), zo, zo, (rf (g : Int)), zo, zo, (rf (g : Int)), zo, zo, ⟨rfl, (fun j0 hj0 => (if_pos rfl).symm)⟩, (fun t ht hne => by simp only [setR_ne hne]), (leadZ_pos hk2), zo, zo, ⟨rfl, (fun j0 hj0 => (swap_at))⟩, (fun t ht hne => by simp only [swap_other hne]), (leadZ_pos hk2), zo, zo, (rf (g : Int)), zo, zo, (rf (g : Int)), zo, zo, (if_pos rfl).symm, (fun t ht hne => by rw [setR_ne hne]), (leadZ_pos hk2), zo, zo, (swap_at), (fun t ht hne => by rw [swap_other hne]), (rf (g : Int)), zo, zo, (rf (g : Int)), zo, sRatInv (q := (swapR (red n (wideQ n q b) g).1 g (leadK (red n (wideQ n q b) g).1 g g (n - g))) g g) (inv_room H4 hgn zo), (rf (g : Int)), zo, zo, (sVecScale (n := n) (a := (fun i => (swapR (red n (wideQ n q b) g).1 g (leadK (red n (wideQ n q b) g).1 g g (n - g))) g i)) (r := (((swapR (red n (wideQ n q b) g).1 g (leadK (red n (wideQ n q b) g).1 g g (n - g))) g g)⁻¹)) zo (fun j hj => scale_room H4 hgn zo j zo)).frzV, (rf (g : Int)), zo, zo, sRatMul (p := ((swapR (red n (wideQ n q b) g).1 g (leadK (red n (wideQ n q b) g).1 g g (n - g))) g g) ⁻¹) (q := (swapR (red n (wideQ n q b) g).1 g (leadK (red n (wideQ n q b) g).1 g g (n - g))) g n) (scale_room H4 hgn zo n zo), (rf (g : Int)), zo, zo, ⟨rfl, (fun j0 hj0 => (if_pos rfl).symm)⟩, (fun t ht hne => by simp only [scale_other hne]), (rf (g : Int)), zo, zo, (if_pos rfl).symm, (fun t ht hne => by rw [scale_other hne]), ⟨0, (rf 0), (rf 0), (rf (n : Int)), (rf (g : Int)), (rf (g : Int)), (rf (n : Int)), zo, (rf n), (leS (mE q n) n), (rf (n : Int)), (rf n), (fun j0 hj0 => ⟨rfl, (fun j1 hj1 => clrP_zero)⟩), (rf n), (fun j0 hj0 => clrP_zero), zo⟩, fun h hh => ⟨fun hc95 => have hc95 := dT hc95; ⟨fun hc99 => have hz : h ≠ g := (by simp at hc99; omega); ⟨(rf (h : Int)), zo, zo, (rf (g : Int)), zo, sRatNeg (q := (clrP (scaleQ (swapR (red n (wideQ n q b) g).1 g (leadK (red n (wideQ n q b) g).1 g g (n - g))) g g) g g h) h g), (rf (h : Int)), zo, zo, (rf (g : Int)), zo, zo, (sVecAddTimes (a := (clrP (scaleQ (swapR (red n (wideQ n q b) g).1 g (leadK (red n (wideQ n q b) g).1 g g (n - g))) g g) g g h) h) (b := (clrP (scaleQ (swapR (red n (wideQ n q b) g).1 g (leadK (red n (wideQ n q b) g).1 g g (n - g))) g g) g g h) g) (n := n) (r := - ((clrP (scaleQ (swapR (red n (wideQ n q b) g).1 g (leadK (red n (wideQ n q b) g).1 g g (n - g))) g g) g g h) h g)) zo (fun j hj => clr_room H4 hgn zo zo hz j zo)).frzV2, (rf (h : Int)), zo, zo, ⟨rfl, (fun j0 hj0 => (clrP_at hz))⟩, (fun t ht hne => by simp only [clrP_ne hne]), (rf (h : Int)), zo, zo, (rf (g : Int)), zo, zo, sRatMul (p := - ((clrP (scaleQ (swapR (red n (wideQ n q b) g).1 g (leadK (red n (wideQ n q b) g).1 g g (n - g))) g g) g g h) h g)) (q := (clrP (scaleQ (swapR (red n (wideQ n q b) g).1 g (leadK (red n (wideQ n q b) g).1 g g (n - g))) g g) g g h) g n) ((clr_room H4 hgn zo zo hz n zo).1), sRatAdd (p := (clrP (scaleQ (swapR (red n (wideQ n q b) g).1 g (leadK (red n (wideQ n q b) g).1 g g (n - g))) g g) g g h) h n) (q := (- ((clrP (scaleQ (swapR (red n (wideQ n q b) g).1 g (leadK (red n (wideQ n q b) g).1 g g (n - g))) g g) g g h) h g)) * ((clrP (scaleQ (swapR (red n (wideQ n q b) g).1 g (leadK (red n (wideQ n q b) g).1 g g (n - g))) g g) g g h) g n)) ((clr_room H4 hgn zo zo hz n zo).2), (rf (h : Int)), zo, zo, (clrP_at hz), (fun t ht hne => by rw [clrP_ne hne]), (wI (g := h) zo), h + 1, (rf 0), (rf 0), (rf (n : Int)), (rf (g : Int)), (rf (g : Int)), (rf (n : Int)), zo, (rf n), (leS (mE q n) n), (rf (n : Int)), (rf n), (fun j0 hj0 => ⟨rfl, (fun j1 hj1 => (by first | rfl | exact clrP_skip (.inl hz)))⟩), (rf n), (fun j0 hj0 => (by first | rfl | exact clrP_skip (.inl hz))), zo, zo⟩, fun hc99 => have hz : h = g := (by simp at hc99; omega); ⟨(wI (g := h) zo), h + 1, (rf 0), (rf 0), (rf (n : Int)), (rf (g : Int)), (rf (g : Int)), (rf (n : Int)), zo, (rf n), (leS (mE q n) n), (rf (n : Int)), (rf n), (fun j0 hj0 => ⟨rfl, (fun j1 hj1 => (by first | rfl | exact clrP_skip (.inl hz)))⟩), (rf n), (fun j0 hj0 => (by first | rfl | exact clrP_skip (.inl hz))), zo, zo⟩⟩, fun hc95 => have hc95 := dF hc95; have hi3 : h = n := zo; ⟨(wI (g := g) zo), g + 1, (rf 0), (rf 0), (rf (n : Int)), zo, (rf n), (leS (mE q n) n), (rf (n : Int)), (rf n), (fun j0 hj0 => ⟨rfl, (fun j1 hj1 => (by rw [hi3]; exact sq_hit hg0.2 hk2 (by assumption)))⟩), (rf n), (fun j0 hj0 => (by rw [hi3]; exact sq_hit hg0.2 hk2 (by assumption))), ⟨by omega, sq_next hg0.2 hk2⟩, zo⟩⟩⟩, fun hc27 => have hc27 := dF hc27; have hi2 : g = n := zo; ⟨(rf 0), (rf (2 : Int)), (rf (true : Bool)), (rf n), (fun j0 hj0 => (by rw [hi2]))⟩⟩⟩
theorem sSquare_no {q : Nat → Nat → Rat} {b : Nat → Rat} {n : Nat} (hn : n ≤ 64) (hs : ∀ c, c ≤ n → HtB n (n + 1) 100000000 (red n (wideQ n q b) c).1) (hno : ¬ (red n (wideQ n q b) n).2.1 = n) : CallOK Tryz.prog 64 [.agg (.cn (.sl 1 (mE q n) n) (.cn (.ex (.int .i64 (n : Int))) (.nl))), .sl 3 (fun i0 => .rat (b i0)) n] (.cn (.sl 3 (fun _ => .rat 0) 0) (.cn (.ex (.int .i64 3)) (.cn (.ex (.bool true)) (.nl)))) [] := by
 exact kP (ch := [.reg 1 [(3, .callS (.ex (.int .i64 (n : Int))) [])], .dec 19 false, .reg 3 [(1, .callS (.own 0 0) [.one (.row 69 1 (mE q n) n)])], .reg 4 [(1, .callS (.own 0 0) [.one (.row 55 3 (fun i0 => .rat (b i0)) n)])], .reg 5 [(1, .callS (.ex (.int .i64 (n : Int))) [])], .loop 6 (Nat) (fun g => g ≤ n ∧ (red n (wideQ n q b) g).2.1 = g) (fun g => n - g) (fun g => ⟨[(7, .own 1 0), (8, .own 2 0), (25, .ex (.int .i64 (n : Int))), (26, .ex (.int .i64 (g : Int)))], [(0, .one (.var 32 (.agg (.cn (.sl 1 (mE q n) n) (.cn (.ex (.int .i64 (n : Int))) (.nl)))))), (1, .one (.row 69 1 (mE (red n (wideQ n q b) g).1 n) n)), (2, .one (.row 55 3 (fun i0 => .rat ((red n (wideQ n q b) g).1 i0 n)) n))], 3⟩) [(0, .id 0), (1, .id 1), (2, .id 2)] (fun _ => [(0, .id 0), (1, .id 1), (2, .id 2)]) (fun g => [.reg 8 [(3, .callS (.ex (.int .i64 (leadZ ((red n (wideQ n q b) g).1) n g g))) [])], .reg 11 [(6, .k (leadK (red n (wideQ n q b) g).1 g g (n - g))), (10, .k g), (12, .k g), (13, .row 0 (mE (setR (red n (wideQ n q b) g).1 g ((red n (wideQ n q b) g).1 (leadK (red n (wideQ n q b) g).1 g g (n - g)))) n)), (14, .k (leadK (red n (wideQ n q b) g).1 g g (n - g))), (15, .row 0 (mE (swapR (red n (wideQ n q b) g).1 g (leadK (red n (wideQ n q b) g).1 g g (n - g))) n))], .reg 12 [(6, .k (leadK (red n (wideQ n q b) g).1 g g (n - g))), (10, .k g), (12, .k g), (13, .row 0 (fun i0 => .rat ((setR (red n (wideQ n q b) g).1 g ((red n (wideQ n q b) g).1 (leadK (red n (wideQ n q b) g).1 g g (n - g)))) i0 n))), (14, .k (leadK (red n (wideQ n q b) g).1 g g (n - g))), (15, .row 0 (fun i0 => .rat ((swapR (red n (wideQ n q b) g).1 g (leadK (red n (wideQ n q b) g).1 g g (n - g))) i0 n)))], .reg 13 [(2, .k g), (5, .k g), (7, .callS (.cn (.rat (((swapR (red n (wideQ n q b) g).1 g (leadK (red n (wideQ n q b) g).1 g g (n - g))) g g)⁻¹)) (.cn (.ex (.bool (!decide (((swapR (red n (wideQ n q b) g).1 g (leadK (red n (wideQ n q b) g).1 g g (n - g))) g g) = 0)))) (.nl))) [])], .reg 14 [(7, .k g), (9, .callS (.sl 3 (fun i0 => .rat ((((swapR (red n (wideQ n q b) g).1 g (leadK (red n (wideQ n q b) g).1 g g (n - g))) g g)⁻¹) * ((swapR (red n (wideQ n q b) g).1 g (leadK (red n (wideQ n q b) g).1 g g (n - g))) g i0))) n) []), (13, .k g), (15, .callS (.rat ((((swapR (red n (wideQ n q b) g).1 g (leadK (red n (wideQ n q b) g).1 g g (n - g))) g g)⁻¹) * ((swapR (red n (wideQ n q b) g).1 g (leadK (red n (wideQ n q b) g).1 g g (n - g))) g n))) []), (16, .k g), (17, .row 0 (mE (scaleQ (swapR (red n (wideQ n q b) g).1 g (leadK (red n (wideQ n q b) g).1 g g (n - g))) g g) n)), (18, .k g), (19, .row 0 (fun i0 => .rat ((scaleQ (swapR (red n (wideQ n q b) g).1 g (leadK (red n (wideQ n q b) g).1 g g (n - g))) g g) i0 n)))], .loop 16 (Nat) (fun h => h ≤ n) (fun h => n - h) (fun h => ⟨[(7, .own 1 0), (8, .own 2 0), (25, .ex (.int .i64 (n : Int))), (26, .ex (.int .i64 (g : Int))), (9, .ex (.int .i64 (g : Int))), (93, .ex (.int .i64 (n : Int))), (94, .ex (.int .i64 (h : Int)))], [(0, .one (.var 32 (.agg (.cn (.sl 1 (mE q n) n) (.cn (.ex (.int .i64 (n : Int))) (.nl)))))), (1, .one (.row 69 1 (mE (clrP (scaleQ (swapR (red n (wideQ n q b) g).1 g (leadK (red n (wideQ n q b) g).1 g g (n - g))) g g) g g h) n) n)), (2, .one (.row 55 3 (fun i0 => .rat ((clrP (scaleQ (swapR (red n (wideQ n q b) g).1 g (leadK (red n (wideQ n q b) g).1 g g (n - g))) g g) g g h) i0 n)) n))], 3⟩) [(0, .id 0), (1, .id 1), (2, .id 2)] (fun _ => [(0, .id 0), (1, .id 1), (2, .id 2)]) (fun h => [.reg 19 [(2, .k h), (5, .k g), (7, .callS (.rat (-((clrP (scaleQ (swapR (red n (wideQ n q b) g).1 g (leadK (red n (wideQ n q b) g).1 g g (n - g))) g g) g g h) h g))) [])], .reg 20 [(4, .k h), (9, .k g), (11, .callS (.cn (.sl 3 (fun i0 => .rat (((clrP (scaleQ (swapR (red n (wideQ n q b) g).1 g (leadK (red n (wideQ n q b) g).1 g g (n - g))) g g) g g h) h i0) + (-((clrP (scaleQ (swapR (red n (wideQ n q b) g).1 g (leadK (red n (wideQ n q b) g).1 g g (n - g))) g g) g g h) h g)) * ((clrP (scaleQ (swapR (red n (wideQ n q b) g).1 g (leadK (red n (wideQ n q b) g).1 g g (n - g))) g g) g g h) g i0))) n) (.cn (.ex (.bool true)) (.nl))) []), (15, .k h), (16, .row 0 (mE (clrP (scaleQ (swapR (red n (wideQ n q b) g).1 g (leadK (red n (wideQ n q b) g).1 g g (n - g))) g g) g g (h + 1)) n))], .reg 21 [(4, .k h), (9, .k g), (11, .callS (.rat ((-((clrP (scaleQ (swapR (red n (wideQ n q b) g).1 g (leadK (red n (wideQ n q b) g).1 g g (n - g))) g g) g g h) h g)) * ((clrP (scaleQ (swapR (red n (wideQ n q b) g).1 g (leadK (red n (wideQ n q b) g).1 g g (n - g))) g g) g g h) g n))) []), (12, .callS (.rat (((clrP (scaleQ (swapR (red n (wideQ n q b) g).1 g (leadK (red n (wideQ n q b) g).1 g g (n - g))) g g) g g h) h n) + ((-((clrP (scaleQ (swapR (red n (wideQ n q b) g).1 g (leadK (red n (wideQ n q b) g).1 g g (n - g))) g g) g g h) h g)) * ((clrP (scaleQ (swapR (red n (wideQ n q b) g).1 g (leadK (red n (wideQ n q b) g).1 g g (n - g))) g g) g g h) g n)))) []), (13, .k h), (14, .row 0 (fun i0 => .rat ((clrP (scaleQ (swapR (red n (wideQ n q b) g).1 g (leadK (red n (wideQ n q b) g).1 g g (n - g))) g g) g g (h + 1)) i0 n)))], .reg 22 [(0, .z ((h + 1 : Nat) : Int))], .reg 22 [(0, .z ((h + 1 : Nat) : Int))], .reg 23 [(0, .z ((g + 1 : Nat) : Int))]])])]) Tryz.func64 ((∀ j0, j0 < n → (∀ j1, j1 < n → True)) ∧ (∀ j0, j0 < n → True) ∧ _ ∧ ((!decide ((n : Int) = (n : Int))) = false) ∧ _ ∧ _ ∧ _ ∧ (((fun X1 X2 X3 X4 X5 X6 X7 X8 : Prop => ∃ g0 : Nat, X1 ∧ X2 ∧ X3 ∧ ((0 : Int) = (g0 : Int)) ∧ X4 ∧ X5 ∧ X6 ∧ X7 ∧ (∀ j0, j0 < n → ((n : Nat) = n) ∧ (∀ j1, j1 < n → ((q j0 j1 : Rat) = ((red n (wideQ n q b) g0).1 j0 j1)))) ∧ X8 ∧ (∀ j0, j0 < n → ((b j0 : Rat) = ((red n (wideQ n q b) g0).1 j0 n))) ∧ (g0 ≤ n ∧ (red n (wideQ n q b) g0).2.1 = g0)) _ _ _ _ _ _ _ _) ∧ ∀ g : Nat, (g ≤ n ∧ (red n (wideQ n q b) g).2.1 = g) → (((decide ((g : Int) < (n : Int))) = true → _ ∧ (((decide ((leadZ ((red n (wideQ n q b) g).1) n g g : Int) < 0)) = true → (_ ∧ _ ∧ _)) ∧ ((decide ((leadZ ((red n (wideQ n q b) g).1) n g g : Int) < 0)) = false → ((leadZ ((red n (wideQ n q b) g).1) n g g : Int) = (((leadK (red n (wideQ n q b) g).1 g g (n - g)) : Nat) : Int)) ∧ ((leadK (red n (wideQ n q b) g).1 g g (n - g)) < n) ∧ ((leadK (red n (wideQ n q b) g).1 g g (n - g)) < n) ∧ _ ∧ (g < n) ∧ (g < n) ∧ _ ∧ (g < n) ∧ (g < n) ∧ (((n : Nat) = n) ∧ (∀ j0, j0 < n → (((red n (wideQ n q b) g).1 (leadK (red n (wideQ n q b) g).1 g g (n - g)) j0 : Rat) = ((setR (red n (wideQ n q b) g).1 g ((red n (wideQ n q b) g).1 (leadK (red n (wideQ n q b) g).1 g g (n - g)))) g j0)))) ∧ (∀ t, t < n → t ≠ g → (.sl 3 (fun i0 => .rat ((setR (red n (wideQ n q b) g).1 g ((red n (wideQ n q b) g).1 (leadK (red n (wideQ n q b) g).1 g g (n - g)))) t i0)) n : SV) = .sl 3 (fun i0 => .rat ((red n (wideQ n q b) g).1 t i0)) n) ∧ ((leadZ ((red n (wideQ n q b) g).1) n g g : Int) = (((leadK (red n (wideQ n q b) g).1 g g (n - g)) : Nat) : Int)) ∧ ((leadK (red n (wideQ n q b) g).1 g g (n - g)) < n) ∧ ((leadK (red n (wideQ n q b) g).1 g g (n - g)) < n) ∧ (((n : Nat) = n) ∧ (∀ j0, j0 < n → (((red n (wideQ n q b) g).1 g j0 : Rat) = ((swapR (red n (wideQ n q b) g).1 g (leadK (red n (wideQ n q b) g).1 g g (n - g))) (leadK (red n (wideQ n q b) g).1 g g (n - g)) j0)))) ∧ (∀ t, t < n → t ≠ (leadK (red n (wideQ n q b) g).1 g g (n - g)) → (.sl 3 (fun i0 => .rat ((swapR (red n (wideQ n q b) g).1 g (leadK (red n (wideQ n q b) g).1 g g (n - g))) t i0)) n : SV) = .sl 3 (fun i0 => .rat ((setR (red n (wideQ n q b) g).1 g ((red n (wideQ n q b) g).1 (leadK (red n (wideQ n q b) g).1 g g (n - g)))) t i0)) n) ∧ ((leadZ ((red n (wideQ n q b) g).1) n g g : Int) = (((leadK (red n (wideQ n q b) g).1 g g (n - g)) : Nat) : Int)) ∧ ((leadK (red n (wideQ n q b) g).1 g g (n - g)) < n) ∧ ((leadK (red n (wideQ n q b) g).1 g g (n - g)) < n) ∧ _ ∧ (g < n) ∧ (g < n) ∧ _ ∧ (g < n) ∧ (g < n) ∧ ((((red n (wideQ n q b) g).1 (leadK (red n (wideQ n q b) g).1 g g (n - g)) n : Rat) = ((setR (red n (wideQ n q b) g).1 g ((red n (wideQ n q b) g).1 (leadK (red n (wideQ n q b) g).1 g g (n - g)))) g n))) ∧ (∀ t, t < n → t ≠ g → (.rat ((setR (red n (wideQ n q b) g).1 g ((red n (wideQ n q b) g).1 (leadK (red n (wideQ n q b) g).1 g g (n - g)))) t n) : SV) = .rat ((red n (wideQ n q b) g).1 t n)) ∧ ((leadZ ((red n (wideQ n q b) g).1) n g g : Int) = (((leadK (red n (wideQ n q b) g).1 g g (n - g)) : Nat) : Int)) ∧ ((leadK (red n (wideQ n q b) g).1 g g (n - g)) < n) ∧ ((leadK (red n (wideQ n q b) g).1 g g (n - g)) < n) ∧ ((((red n (wideQ n q b) g).1 g n : Rat) = ((swapR (red n (wideQ n q b) g).1 g (leadK (red n (wideQ n q b) g).1 g g (n - g))) (leadK (red n (wideQ n q b) g).1 g g (n - g)) n))) ∧ (∀ t, t < n → t ≠ (leadK (red n (wideQ n q b) g).1 g g (n - g)) → (.rat ((swapR (red n (wideQ n q b) g).1 g (leadK (red n (wideQ n q b) g).1 g g (n - g))) t n) : SV) = .rat ((setR (red n (wideQ n q b) g).1 g ((red n (wideQ n q b) g).1 (leadK (red n (wideQ n q b) g).1 g g (n - g)))) t n)) ∧ _ ∧ (g < n) ∧ (g < n) ∧ _ ∧ (g < n) ∧ _ ∧ _ ∧ (g < n) ∧ (g < n) ∧ _ ∧ _ ∧ (g < n) ∧ (g < n) ∧ _ ∧ _ ∧ (g < n) ∧ (g < n) ∧ (((n : Nat) = n) ∧ (∀ j0, j0 < n → (((((swapR (red n (wideQ n q b) g).1 g (leadK (red n (wideQ n q b) g).1 g g (n - g))) g g)⁻¹) * ((swapR (red n (wideQ n q b) g).1 g (leadK (red n (wideQ n q b) g).1 g g (n - g))) g j0) : Rat) = ((scaleQ (swapR (red n (wideQ n q b) g).1 g (leadK (red n (wideQ n q b) g).1 g g (n - g))) g g) g j0)))) ∧ (∀ t, t < n → t ≠ g → (.sl 3 (fun i0 => .rat ((scaleQ (swapR (red n (wideQ n q b) g).1 g (leadK (red n (wideQ n q b) g).1 g g (n - g))) g g) t i0)) n : SV) = .sl 3 (fun i0 => .rat ((swapR (red n (wideQ n q b) g).1 g (leadK (red n (wideQ n q b) g).1 g g (n - g))) t i0)) n) ∧ _ ∧ (g < n) ∧ (g < n) ∧ ((((((swapR (red n (wideQ n q b) g).1 g (leadK (red n (wideQ n q b) g).1 g g (n - g))) g g)⁻¹) * ((swapR (red n (wideQ n q b) g).1 g (leadK (red n (wideQ n q b) g).1 g g (n - g))) g n) : Rat) = ((scaleQ (swapR (red n (wideQ n q b) g).1 g (leadK (red n (wideQ n q b) g).1 g g (n - g))) g g) g n))) ∧ (∀ t, t < n → t ≠ g → (.rat ((scaleQ (swapR (red n (wideQ n q b) g).1 g (leadK (red n (wideQ n q b) g).1 g g (n - g))) g g) t n) : SV) = .rat ((swapR (red n (wideQ n q b) g).1 g (leadK (red n (wideQ n q b) g).1 g g (n - g))) t n)) ∧ (((fun X1 X2 X3 X4 X5 X6 X7 X8 X9 X10 X11 : Prop => ∃ h0 : Nat, X1 ∧ X2 ∧ X3 ∧ X4 ∧ X5 ∧ X6 ∧ ((0 : Int) = (h0 : Int)) ∧ X7 ∧ X8 ∧ X9 ∧ X10 ∧ (∀ j0, j0 < n → ((n : Nat) = n) ∧ (∀ j1, j1 < n → (((scaleQ (swapR (red n (wideQ n q b) g).1 g (leadK (red n (wideQ n q b) g).1 g g (n - g))) g g) j0 j1 : Rat) = ((clrP (scaleQ (swapR (red n (wideQ n q b) g).1 g (leadK (red n (wideQ n q b) g).1 g g (n - g))) g g) g g h0) j0 j1)))) ∧ X11 ∧ (∀ j0, j0 < n → (((scaleQ (swapR (red n (wideQ n q b) g).1 g (leadK (red n (wideQ n q b) g).1 g g (n - g))) g g) j0 n : Rat) = ((clrP (scaleQ (swapR (red n (wideQ n q b) g).1 g (leadK (red n (wideQ n q b) g).1 g g (n - g))) g g) g g h0) j0 n))) ∧ (h0 ≤ n)) _ _ _ _ _ _ _ _ _ _ _) ∧ ∀ h : Nat, (h ≤ n) → (((decide ((h : Int) < (n : Int))) = true → (((!decide ((h : Int) = (g : Int))) = true → _ ∧ (h < n) ∧ (h < n) ∧ _ ∧ (g < n) ∧ _ ∧ _ ∧ (h < n) ∧ (h < n) ∧ _ ∧ (g < n) ∧ (g < n) ∧ _ ∧ _ ∧ (h < n) ∧ (h < n) ∧ (((n : Nat) = n) ∧ (∀ j0, j0 < n → ((((clrP (scaleQ (swapR (red n (wideQ n q b) g).1 g (leadK (red n (wideQ n q b) g).1 g g (n - g))) g g) g g h) h j0) + (-((clrP (scaleQ (swapR (red n (wideQ n q b) g).1 g (leadK (red n (wideQ n q b) g).1 g g (n - g))) g g) g g h) h g)) * ((clrP (scaleQ (swapR (red n (wideQ n q b) g).1 g (leadK (red n (wideQ n q b) g).1 g g (n - g))) g g) g g h) g j0) : Rat) = ((clrP (scaleQ (swapR (red n (wideQ n q b) g).1 g (leadK (red n (wideQ n q b) g).1 g g (n - g))) g g) g g (h + 1)) h j0)))) ∧ (∀ t, t < n → t ≠ h → (.sl 3 (fun i0 => .rat ((clrP (scaleQ (swapR (red n (wideQ n q b) g).1 g (leadK (red n (wideQ n q b) g).1 g g (n - g))) g g) g g (h + 1)) t i0)) n : SV) = .sl 3 (fun i0 => .rat ((clrP (scaleQ (swapR (red n (wideQ n q b) g).1 g (leadK (red n (wideQ n q b) g).1 g g (n - g))) g g) g g h) t i0)) n) ∧ _ ∧ (h < n) ∧ (h < n) ∧ _ ∧ (g < n) ∧ (g < n) ∧ _ ∧ _ ∧ _ ∧ (h < n) ∧ (h < n) ∧ (((((clrP (scaleQ (swapR (red n (wideQ n q b) g).1 g (leadK (red n (wideQ n q b) g).1 g g (n - g))) g g) g g h) h n) + ((-((clrP (scaleQ (swapR (red n (wideQ n q b) g).1 g (leadK (red n (wideQ n q b) g).1 g g (n - g))) g g) g g h) h g)) * ((clrP (scaleQ (swapR (red n (wideQ n q b) g).1 g (leadK (red n (wideQ n q b) g).1 g g (n - g))) g g) g g h) g n)) : Rat) = ((clrP (scaleQ (swapR (red n (wideQ n q b) g).1 g (leadK (red n (wideQ n q b) g).1 g g (n - g))) g g) g g (h + 1)) h n))) ∧ (∀ t, t < n → t ≠ h → (.rat ((clrP (scaleQ (swapR (red n (wideQ n q b) g).1 g (leadK (red n (wideQ n q b) g).1 g g (n - g))) g g) g g (h + 1)) t n) : SV) = .rat ((clrP (scaleQ (swapR (red n (wideQ n q b) g).1 g (leadK (red n (wideQ n q b) g).1 g g (n - g))) g g) g g h) t n)) ∧ _ ∧ ((fun X1 X2 X3 X4 X5 X6 X7 X8 X9 X10 X11 : Prop => ∃ h1 : Nat, X1 ∧ X2 ∧ X3 ∧ X4 ∧ X5 ∧ X6 ∧ (((h + 1 : Nat) : Int) = (h1 : Int)) ∧ X7 ∧ X8 ∧ X9 ∧ X10 ∧ (∀ j0, j0 < n → ((n : Nat) = n) ∧ (∀ j1, j1 < n → (((clrP (scaleQ (swapR (red n (wideQ n q b) g).1 g (leadK (red n (wideQ n q b) g).1 g g (n - g))) g g) g g (h + 1)) j0 j1 : Rat) = ((clrP (scaleQ (swapR (red n (wideQ n q b) g).1 g (leadK (red n (wideQ n q b) g).1 g g (n - g))) g g) g g h1) j0 j1)))) ∧ X11 ∧ (∀ j0, j0 < n → (((clrP (scaleQ (swapR (red n (wideQ n q b) g).1 g (leadK (red n (wideQ n q b) g).1 g g (n - g))) g g) g g (h + 1)) j0 n : Rat) = ((clrP (scaleQ (swapR (red n (wideQ n q b) g).1 g (leadK (red n (wideQ n q b) g).1 g g (n - g))) g g) g g h1) j0 n))) ∧ (h1 ≤ n) ∧ (n - h1 < n - h)) _ _ _ _ _ _ _ _ _ _ _)) ∧ ((!decide ((h : Int) = (g : Int))) = false → _ ∧ ((fun X1 X2 X3 X4 X5 X6 X7 X8 X9 X10 X11 : Prop => ∃ h1 : Nat, X1 ∧ X2 ∧ X3 ∧ X4 ∧ X5 ∧ X6 ∧ (((h + 1 : Nat) : Int) = (h1 : Int)) ∧ X7 ∧ X8 ∧ X9 ∧ X10 ∧ (∀ j0, j0 < n → ((n : Nat) = n) ∧ (∀ j1, j1 < n → (((clrP (scaleQ (swapR (red n (wideQ n q b) g).1 g (leadK (red n (wideQ n q b) g).1 g g (n - g))) g g) g g h) j0 j1 : Rat) = ((clrP (scaleQ (swapR (red n (wideQ n q b) g).1 g (leadK (red n (wideQ n q b) g).1 g g (n - g))) g g) g g h1) j0 j1)))) ∧ X11 ∧ (∀ j0, j0 < n → (((clrP (scaleQ (swapR (red n (wideQ n q b) g).1 g (leadK (red n (wideQ n q b) g).1 g g (n - g))) g g) g g h) j0 n : Rat) = ((clrP (scaleQ (swapR (red n (wideQ n q b) g).1 g (leadK (red n (wideQ n q b) g).1 g g (n - g))) g g) g g h1) j0 n))) ∧ (h1 ≤ n) ∧ (n - h1 < n - h)) _ _ _ _ _ _ _ _ _ _ _)))) ∧ ((decide ((h : Int) < (n : Int))) = false → _ ∧ ((fun X1 X2 X3 X4 X5 X6 X7 X8 : Prop => ∃ g1 : Nat, X1 ∧ X2 ∧ X3 ∧ (((g + 1 : Nat) : Int) = (g1 : Int)) ∧ X4 ∧ X5 ∧ X6 ∧ X7 ∧ (∀ j0, j0 < n → ((n : Nat) = n) ∧ (∀ j1, j1 < n → (((clrP (scaleQ (swapR (red n (wideQ n q b) g).1 g (leadK (red n (wideQ n q b) g).1 g g (n - g))) g g) g g h) j0 j1 : Rat) = ((red n (wideQ n q b) g1).1 j0 j1)))) ∧ X8 ∧ (∀ j0, j0 < n → (((clrP (scaleQ (swapR (red n (wideQ n q b) g).1 g (leadK (red n (wideQ n q b) g).1 g g (n - g))) g g) g g h) j0 n : Rat) = ((red n (wideQ n q b) g1).1 j0 n))) ∧ (g1 ≤ n ∧ (red n (wideQ n q b) g1).2.1 = g1) ∧ (n - g1 < n - g)) _ _ _ _ _ _ _ _))))))) ∧ ((decide ((g : Int) < (n : Int))) = false → (((n : Nat) = 0) ∧ (∀ j0, j0 < n → (((red n (wideQ n q b) g).1 j0 n : Rat) = 0)) ∧ ((2 : Int) = 3) ∧ _)))))
  ⟨(fun _ _ => (fun _ _ => trivial)), (fun _ _ => trivial), sMatRows (m := n) (n := n) (q := q), (by simp), sRowsOf (m := n) (n := n) (q := q) zo zo, sVecCopy (n := n) (q := b) zo, sMatCols (m := n) (n := n) (q := q), ⟨0, (rf 0), (rf 0), (rf (n : Int)), zo, (rf n), (leS (mE q n) n), (rf (n : Int)), (rf n), (fun j0 hj0 => ⟨rfl, (fun j1 hj1 => (wideQ_lt (by assumption)).symm)⟩), (rf n), (fun j0 hj0 => wideQ_n.symm), Nat.zero_le _, rfl⟩, fun g hg0 => have hg1 := hg0.1; ⟨fun hc27 => have hc27 := dT hc27; have hgn : g < n := zo; ⟨sLead (m := n) (n := n) (a := g) (c := g) (q := ((red n (wideQ n q b) g).1)) zo zo zo, fun hc34 => have hc34 := dT hc34; ⟨(rf 0), (rf (3 : Int)), (rf (true : Bool))⟩, fun hc34 => have hc34 := dF hc34; have hk2 := lead_yes hc34; have H4 := (hs g zo).swap (k := g) hgn hk2; ⟨(leadZ_pos hk2), zo, zo, (rf (g : Int)), zo, zo, (rf (g : Int)), zo, zo, ⟨rfl, (fun j0 hj0 => (if_pos rfl).symm)⟩, (fun t ht hne => by simp only [setR_ne hne]), (leadZ_pos hk2), zo, zo, ⟨rfl, (fun j0 hj0 => (swap_at))⟩, (fun t ht hne => by simp only [swap_other hne]), (leadZ_pos hk2), zo, zo, (rf (g : Int)), zo, zo, (rf (g : Int)), zo, zo, (if_pos rfl).symm, (fun t ht hne => by rw [setR_ne hne]), (leadZ_pos hk2), zo, zo, (swap_at), (fun t ht hne => by rw [swap_other hne]), (rf (g : Int)), zo, zo, (rf (g : Int)), zo, sRatInv (q := (swapR (red n (wideQ n q b) g).1 g (leadK (red n (wideQ n q b) g).1 g g (n - g))) g g) (inv_room H4 hgn zo), (rf (g : Int)), zo, zo, (sVecScale (n := n) (a := (fun i => (swapR (red n (wideQ n q b) g).1 g (leadK (red n (wideQ n q b) g).1 g g (n - g))) g i)) (r := (((swapR (red n (wideQ n q b) g).1 g (leadK (red n (wideQ n q b) g).1 g g (n - g))) g g)⁻¹)) zo (fun j hj => scale_room H4 hgn zo j zo)).frzV, (rf (g : Int)), zo, zo, sRatMul (p := ((swapR (red n (wideQ n q b) g).1 g (leadK (red n (wideQ n q b) g).1 g g (n - g))) g g) ⁻¹) (q := (swapR (red n (wideQ n q b) g).1 g (leadK (red n (wideQ n q b) g).1 g g (n - g))) g n) (scale_room H4 hgn zo n zo), (rf (g : Int)), zo, zo, ⟨rfl, (fun j0 hj0 => (if_pos rfl).symm)⟩, (fun t ht hne => by simp only [scale_other hne]), (rf (g : Int)), zo, zo, (if_pos rfl).symm, (fun t ht hne => by rw [scale_other hne]), ⟨0, (rf 0), (rf 0), (rf (n : Int)), (rf (g : Int)), (rf (g : Int)), (rf (n : Int)), zo, (rf n), (leS (mE q n) n), (rf (n : Int)), (rf n), (fun j0 hj0 => ⟨rfl, (fun j1 hj1 => clrP_zero)⟩), (rf n), (fun j0 hj0 => clrP_zero), zo⟩, fun h hh => ⟨fun hc95 => have hc95 := dT hc95; ⟨fun hc99 => have hz : h ≠ g := (by simp at hc99; omega); ⟨(rf (h : Int)), zo, zo, (rf (g : Int)), zo, sRatNeg (q := (clrP (scaleQ (swapR (red n (wideQ n q b) g).1 g (leadK (red n (wideQ n q b) g).1 g g (n - g))) g g) g g h) h g), (rf (h : Int)), zo, zo, (rf (g : Int)), zo, zo, (sVecAddTimes (a := (clrP (scaleQ (swapR (red n (wideQ n q b) g).1 g (leadK (red n (wideQ n q b) g).1 g g (n - g))) g g) g g h) h) (b := (clrP (scaleQ (swapR (red n (wideQ n q b) g).1 g (leadK (red n (wideQ n q b) g).1 g g (n - g))) g g) g g h) g) (n := n) (r := - ((clrP (scaleQ (swapR (red n (wideQ n q b) g).1 g (leadK (red n (wideQ n q b) g).1 g g (n - g))) g g) g g h) h g)) zo (fun j hj => clr_room H4 hgn zo zo hz j zo)).frzV2, (rf (h : Int)), zo, zo, ⟨rfl, (fun j0 hj0 => (clrP_at hz))⟩, (fun t ht hne => by simp only [clrP_ne hne]), (rf (h : Int)), zo, zo, (rf (g : Int)), zo, zo, sRatMul (p := - ((clrP (scaleQ (swapR (red n (wideQ n q b) g).1 g (leadK (red n (wideQ n q b) g).1 g g (n - g))) g g) g g h) h g)) (q := (clrP (scaleQ (swapR (red n (wideQ n q b) g).1 g (leadK (red n (wideQ n q b) g).1 g g (n - g))) g g) g g h) g n) ((clr_room H4 hgn zo zo hz n zo).1), sRatAdd (p := (clrP (scaleQ (swapR (red n (wideQ n q b) g).1 g (leadK (red n (wideQ n q b) g).1 g g (n - g))) g g) g g h) h n) (q := (- ((clrP (scaleQ (swapR (red n (wideQ n q b) g).1 g (leadK (red n (wideQ n q b) g).1 g g (n - g))) g g) g g h) h g)) * ((clrP (scaleQ (swapR (red n (wideQ n q b) g).1 g (leadK (red n (wideQ n q b) g).1 g g (n - g))) g g) g g h) g n)) ((clr_room H4 hgn zo zo hz n zo).2), (rf (h : Int)), zo, zo, (clrP_at hz), (fun t ht hne => by rw [clrP_ne hne]), (wI (g := h) zo), h + 1, (rf 0), (rf 0), (rf (n : Int)), (rf (g : Int)), (rf (g : Int)), (rf (n : Int)), zo, (rf n), (leS (mE q n) n), (rf (n : Int)), (rf n), (fun j0 hj0 => ⟨rfl, (fun j1 hj1 => (by first | rfl | exact clrP_skip (.inl hz)))⟩), (rf n), (fun j0 hj0 => (by first | rfl | exact clrP_skip (.inl hz))), zo, zo⟩, fun hc99 => have hz : h = g := (by simp at hc99; omega); ⟨(wI (g := h) zo), h + 1, (rf 0), (rf 0), (rf (n : Int)), (rf (g : Int)), (rf (g : Int)), (rf (n : Int)), zo, (rf n), (leS (mE q n) n), (rf (n : Int)), (rf n), (fun j0 hj0 => ⟨rfl, (fun j1 hj1 => (by first | rfl | exact clrP_skip (.inl hz)))⟩), (rf n), (fun j0 hj0 => (by first | rfl | exact clrP_skip (.inl hz))), zo, zo⟩⟩, fun hc95 => have hc95 := dF hc95; have hi3 : h = n := zo; ⟨(wI (g := g) zo), g + 1, (rf 0), (rf 0), (rf (n : Int)), zo, (rf n), (leS (mE q n) n), (rf (n : Int)), (rf n), (fun j0 hj0 => ⟨rfl, (fun j1 hj1 => (by rw [hi3]; exact sq_hit hg0.2 hk2 (by assumption)))⟩), (rf n), (fun j0 hj0 => (by rw [hi3]; exact sq_hit hg0.2 hk2 (by assumption))), ⟨by omega, sq_next hg0.2 hk2⟩, zo⟩⟩⟩⟩, fun hc27 => have hc27 := dF hc27; have hi2 : g = n := zo; have hx : False := hno (by have := hg0.2; rwa [hi2] at this); ⟨hx.elim, (fun j0 hj0 => hx.elim), hx.elim, (rf (true : Bool))⟩⟩⟩
theorem CallOK.frzV3 {P : Program} {f : FuncId} {As : List SV} {T : TypeId} {n : Nat} {q : Nat → Rat} {z : Int} {b : Bool} (h : CallOK P f As (.cn (.own 0 0) (.cn (.ex (.int .i64 z)) (.cn (.ex (.bool b)) .nl))) [.one (.row T 3 (fun i => .rat (q i)) n)]) : CallOK P f As (.cn (.sl 3 (fun i => .rat (q i)) n) (.cn (.ex (.int .i64 z)) (.cn (.ex (.bool b)) .nl))) [] :=
 h.told [] (Eq.mp (α := n = n ∧ (∀ j, j < n → q j = q j) ∧ z = z ∧ b = b) (by kernel_rfl) ⟨rfl, fun _ _ => rfl, rfl, rfl⟩)
def eQ (k i : Nat) : Rat := if i = k then 1 else 0
def invQ (n : Nat) (q : Nat → Nat → Rat) (r c : Nat) : Rat := (red n (wideQ n q (eQ c)) n).1 r n
theorem sq_all {n : Nat} {q : Nat → Nat → Rat} {b : Nat → Rat} (h : (red n q n).2.1 = n) : (red n (wideQ n q b) n).2.1 = n := by rw [(red_wide (Nat.le_refl n)).1]; exact h
theorem sq_nall {n : Nat} {q : Nat → Nat → Rat} {b : Nat → Rat} (h : ¬ (red n q n).2.1 = n) : ¬ (red n (wideQ n q b) n).2.1 = n := by rw [(red_wide (Nat.le_refl n)).1]; exact h
theorem sInverse {q : Nat → Nat → Rat} {n : Nat} (hn : n ≤ 64) (hs : ∀ k, k < n → ∀ c, c ≤ n → HtB n (n + 1) 100000000 (red n (wideQ n q (eQ k)) c).1) (hall : (red n q n).2.1 = n) : CallOK Tryz.prog 20 [.agg (.cn (.sl 1 (mE q n) n) (.cn (.ex (.int .i64 (n : Int))) (.nl)))] (.cn (.agg (.cn (.sl 1 (mE (invQ n q) n) n) (.cn (.ex (.int .i64 (n : Int))) (.nl)))) (.cn (.ex (.bool true)) (.nl))) [] := by
 exact kP (ch := [.reg 1 [(1, .callS (.ex (.int .i64 (n : Int))) [])], .reg 2 [(2, .callS (.ex (.int .i64 (n : Int))) [])], .dec 19 false, .loop 6 (Nat) (fun g => g ≤ n) (fun g => n - g) (fun g => ⟨[(1, .own 0 0), (2, .own 1 0), (4, .ex (.int .i64 (n : Int))), (5, .own 2 0), (21, .ex (.int .i64 (n : Int))), (22, .ex (.int .i64 (g : Int)))], [(0, .one (.var 32 (.agg (.cn (.sl 1 (mE q n) n) (.cn (.ex (.int .i64 (n : Int))) (.nl)))))), (1, .one (.var 32 (.ex (.agg #[.slice none 0 0, .int .i64 0])))), (2, .one (.row 69 1 (fun i0 => .sl 3 (fun i1 => .rat (invQ n q i1 i0)) n) g))], 3⟩) [(0, .id 0), (1, .id 1), (2, .nil)] (fun _ => [(0, .id 0), (1, .id 1), (2, .id 3)]) (fun g => [.reg 8 [(2, .callS (.cn (.sl 3 (fun i0 => .rat (eQ g i0)) n) (.cn (.ex (.bool true)) (.nl))) [])], .reg 9 [(2, .callS (.cn (.sl 3 (fun i0 => .rat (invQ n q i0 g)) n) (.cn (.ex (.int .i64 2)) (.cn (.ex (.bool true)) (.nl)))) [])], .dec 43 false, .reg 12 [(3, .row 0 (fun i0 => .sl 3 (fun i1 => .rat (invQ n q i1 i0)) n))], .reg 13 [(0, .z ((g + 1 : Nat) : Int))], .conv 14 [(0, .id 0), (1, .id 1)] ⟨[(1, .own 0 0), (2, .own 1 0), (4, .ex (.int .i64 (n : Int))), (5, .sl 1 (fun i0 => .sl 3 (fun i1 => .rat (invQ n q i1 i0)) n) n)], [(0, .one (.var 32 (.agg (.cn (.sl 1 (mE q n) n) (.cn (.ex (.int .i64 (n : Int))) (.nl)))))), (1, .one (.var 32 (.ex (.agg #[.slice none 0 0, .int .i64 0]))))], 2⟩, .reg 14 [(2, .callS (.cn (.agg (.cn (.sl 1 (fun i0 => .sl 3 (fun i1 => .rat (invQ n q i1 i0)) n) n) (.cn (.ex (.int .i64 (n : Int))) (.nl)))) (.cn (.ex (.bool true)) (.nl))) [])], .reg 15 [(1, .callS (.agg (.cn (.sl 1 (fun i0 => .sl 3 (fun i1 => .rat (invQ n q i0 i1)) n) n) (.cn (.ex (.int .i64 (n : Int))) (.nl)))) [])]])]) Tryz.func20 ((∀ j0, j0 < n → (∀ j1, j1 < n → True)) ∧ _ ∧ _ ∧ ((!decide ((n : Int) = (n : Int))) = false) ∧ (((fun X1 X2 X3 X4 X5 X6 X7 X8 : Prop => ∃ g0 : Nat, X1 ∧ X2 ∧ X3 ∧ X4 ∧ X5 ∧ ((0 : Int) = (g0 : Int)) ∧ X6 ∧ X7 ∧ X8 ∧ ((.agg #[.slice none 0 0, .int .i64 0] : Value) = .agg #[.slice none 0 0, .int .i64 0]) ∧ ((g0 : Nat) = 0) ∧ (g0 ≤ n)) _ _ _ _ _ _ _ _) ∧ ∀ g : Nat, (g ≤ n) → (((decide ((g : Int) < (n : Int))) = true → _ ∧ _ ∧ (((!true) == false) = true → ((!true) == false) = true) ∧ ((!(!true)) = true → ((!true) == false) = true) ∧ ((bif (!true) then true else (!decide ((2 : Int) = 2))) = false) ∧ (g + 1 ≤ 68719476736) ∧ _ ∧ _ ∧ _ ∧ ((fun X1 X2 X3 X4 X5 X6 X7 X8 X9 : Prop => ∃ g1 : Nat, X1 ∧ X2 ∧ X3 ∧ X4 ∧ X5 ∧ (((g + 1 : Nat) : Int) = (g1 : Int)) ∧ X6 ∧ X7 ∧ X8 ∧ ((.agg #[.slice none 0 0, .int .i64 0] : Value) = .agg #[.slice none 0 0, .int .i64 0]) ∧ ((g + 1 : Nat) = g1) ∧ X9 ∧ (g1 ≤ n) ∧ (n - g1 < n - g)) _ _ _ _ _ _ _ _ _)) ∧ ((decide ((g : Int) < (n : Int))) = false → _ ∧ _ ∧ _ ∧ ((g : Nat) = n) ∧ _ ∧ _ ∧ _ ∧ _ ∧ ((.agg #[.slice none 0 0, .int .i64 0] : Value) = .agg #[.slice none 0 0, .int .i64 0]) ∧ _ ∧ _ ∧ (_ ∧ (∀ j0, j0 < n → ((n : Nat) = n) ∧ (∀ j1, j1 < n → ((invQ n q j0 j1 : Rat) = ((invQ n q) j0 j1)))) ∧ _ ∧ _)))))
  ⟨(fun _ _ => (fun _ _ => trivial)), sMatRows (m := n) (n := n) (q := q), sMatCols (m := n) (n := n) (q := q), (by simp), ⟨0, (rf 0), (rf 0), (rf (n : Int)), (rf 0), (rf (n : Int)), zo, (rf n), (leS (mE q n) n), (rf (n : Int)), rfl, zo, zo⟩, fun g hg => ⟨fun hc23 => have hc23 := dT hc23; have hgn : g < n := zo; ⟨(sVecUnit (n := n) (k := g) zo zo).frzV2, (sSquare (n := n) (q := q) (b := (fun i => eQ g i)) zo (hs g zo) (sq_all hall)).frzV3, id, (by simp), rfl, zo, (oldS (fun i0 => .sl 3 (fun i1 => .rat (invQ n q i1 i0)) n) g), (newS (fun i0 => .sl 3 (fun i1 => .rat (invQ n q i1 i0)) n) g), (wI (g := g) zo), g + 1, (rf 0), (rf 0), (rf (n : Int)), (rf 0), (rf (n : Int)), zo, (rf n), (leS (mE q n) n), (rf (n : Int)), rfl, zo, (leS (fun i0 => .sl 3 (fun i1 => .rat (invQ n q i1 i0)) n) (g + 1)), zo, zo⟩, fun hc23 => have hc23 := dF hc23; have hi2 : g = n := zo; ⟨(rf 0), (rf 0), (rf (n : Int)), hi2, (leS (fun i0 => .sl 3 (fun i1 => .rat (invQ n q i1 i0)) n) g), (rf n), (leS (mE q n) n), (rf (n : Int)), rfl, (sMatOf (m := n) (n := n) (q := fun r c => invQ n q c r) zo zo), sMatTurned (m := n) (n := n) (q := (fun r c => invQ n q c r)) zo zo, (rf n), (fun j0 hj0 => ⟨rfl, (fun j1 hj1 => rfl)⟩), (rf (n : Int)), (rf (true : Bool))⟩⟩⟩
theorem sInverse_no {q : Nat → Nat → Rat} {n : Nat} (hn : n ≤ 64) (hs : ∀ k, k < n → ∀ c, c ≤ n → HtB n (n + 1) 100000000 (red n (wideQ n q (eQ k)) c).1) (hno : ¬ (red n q n).2.1 = n) : CallOK Tryz.prog 20 [.agg (.cn (.sl 1 (mE q n) n) (.cn (.ex (.int .i64 (n : Int))) (.nl)))] (.cn (.agg (.cn (.sl 1 (fun _ => .sl 3 (fun _ => .rat 0) 0) 0) (.cn (.ex (.int .i64 ((0 : Nat) : Int))) (.nl)))) (.cn (.ex (.bool false)) (.nl))) [] := by
 exact kP (ch := [.reg 1 [(1, .callS (.ex (.int .i64 (n : Int))) [])], .reg 2 [(2, .callS (.ex (.int .i64 (n : Int))) [])], .dec 19 false, .loop 6 (Nat) (fun g => g = 0) (fun g => n - g) (fun g => ⟨[(1, .own 0 0), (2, .own 1 0), (4, .ex (.int .i64 (n : Int))), (5, .own 2 0), (21, .ex (.int .i64 (n : Int))), (22, .ex (.int .i64 (g : Int)))], [(0, .one (.var 32 (.agg (.cn (.sl 1 (mE q n) n) (.cn (.ex (.int .i64 (n : Int))) (.nl)))))), (1, .one (.var 32 (.ex (.agg #[.slice none 0 0, .int .i64 0])))), (2, .one (.row 69 1 (fun i0 => .sl 3 (fun i1 => .rat (invQ n q i1 i0)) n) g))], 3⟩) [(0, .id 0), (1, .id 1), (2, .nil)] (fun _ => [(0, .id 0), (1, .id 1), (2, .id 3)]) (fun g => [.reg 8 [(2, .callS (.cn (.sl 3 (fun i0 => .rat (eQ g i0)) n) (.cn (.ex (.bool true)) (.nl))) [])], .reg 9 [(2, .callS (.cn (.sl 3 (fun _ => .rat 0) 0) (.cn (.ex (.int .i64 3)) (.cn (.ex (.bool true)) (.nl)))) [])], .dec 43 true, .conv 14 [(0, .id 0), (1, .id 1)] ⟨[(1, .own 0 0), (2, .own 1 0), (4, .ex (.int .i64 (n : Int))), (5, .sl 1 (fun i0 => .sl 3 (fun i1 => .rat (invQ n q i1 i0)) n) n)], [(0, .one (.var 32 (.agg (.cn (.sl 1 (mE q n) n) (.cn (.ex (.int .i64 (n : Int))) (.nl)))))), (1, .one (.var 32 (.ex (.agg #[.slice none 0 0, .int .i64 0]))))], 2⟩, .reg 14 [(2, .callS (.cn (.agg (.cn (.sl 1 (fun i0 => .sl 3 (fun i1 => .rat (invQ n q i1 i0)) n) n) (.cn (.ex (.int .i64 (n : Int))) (.nl)))) (.cn (.ex (.bool true)) (.nl))) [])], .reg 15 [(1, .callS (.agg (.cn (.sl 1 (fun i0 => .sl 3 (fun i1 => .rat (invQ n q i0 i1)) n) n) (.cn (.ex (.int .i64 (n : Int))) (.nl)))) [])]])]) Tryz.func20 ((∀ j0, j0 < n → (∀ j1, j1 < n → True)) ∧ _ ∧ _ ∧ ((!decide ((n : Int) = (n : Int))) = false) ∧ (((fun X1 X2 X3 X4 X5 X6 X7 X8 : Prop => ∃ g0 : Nat, X1 ∧ X2 ∧ X3 ∧ X4 ∧ X5 ∧ ((0 : Int) = (g0 : Int)) ∧ X6 ∧ X7 ∧ X8 ∧ ((.agg #[.slice none 0 0, .int .i64 0] : Value) = .agg #[.slice none 0 0, .int .i64 0]) ∧ ((g0 : Nat) = 0) ∧ (g0 = 0)) _ _ _ _ _ _ _ _) ∧ ∀ g : Nat, (g = 0) → (((decide ((g : Int) < (n : Int))) = true → _ ∧ _ ∧ (((!true) == false) = true → ((!true) == false) = true) ∧ ((!(!true)) = true → ((!true) == false) = true) ∧ ((bif (!true) then true else (!decide ((3 : Int) = 2))) = true) ∧ (_ ∧ ((0 : Int) = ((0 : Nat) : Int)) ∧ _)) ∧ ((decide ((g : Int) < (n : Int))) = false → _ ∧ _ ∧ _ ∧ ((g : Nat) = n) ∧ _ ∧ _ ∧ _ ∧ _ ∧ ((.agg #[.slice none 0 0, .int .i64 0] : Value) = .agg #[.slice none 0 0, .int .i64 0]) ∧ _ ∧ _ ∧ (((n : Nat) = 0) ∧ (∀ j0, j0 < n → ((n : Nat) = 0) ∧ (∀ j1, j1 < n → ((invQ n q j0 j1 : Rat) = 0))) ∧ ((n : Int) = ((0 : Nat) : Int)) ∧ ((true : Bool) = false))))))
  ⟨(fun _ _ => (fun _ _ => trivial)), sMatRows (m := n) (n := n) (q := q), sMatCols (m := n) (n := n) (q := q), (by simp), ⟨0, (rf 0), (rf 0), (rf (n : Int)), (rf 0), (rf (n : Int)), zo, (rf n), (leS (mE q n) n), (rf (n : Int)), rfl, zo, rfl⟩, fun g hg => ⟨fun hc23 => have hc23 := dT hc23; have hgn : g < n := zo; ⟨(sVecUnit (n := n) (k := g) zo zo).frzV2, (sSquare_no (n := n) (q := q) (b := (fun i => eQ g i)) zo (hs g zo) (sq_nall hno)), id, (by simp), rfl, (rf 0), zo, (rf (false : Bool))⟩, fun hc23 => have hc23 := dF hc23; have hi2 : n = 0 := (by have := hg; omega); have hx : False := hno (by rw [hi2]; rfl); ⟨(rf 0), (rf 0), (rf (n : Int)), zo, (leS (fun i0 => .sl 3 (fun i1 => .rat (invQ n q i1 i0)) n) g), (rf n), (leS (mE q n) n), (rf (n : Int)), rfl, (sMatOf (m := n) (n := n) (q := fun r c => invQ n q c r) zo zo), sMatTurned (m := n) (n := n) (q := (fun r c => invQ n q c r)) zo zo, hx.elim, (fun j0 hj0 => ⟨hx.elim, (fun j1 hj1 => hx.elim)⟩), hx.elim, hx.elim⟩⟩⟩
theorem sInverse_no2 {q : Nat → Nat → Rat} {m n : Nat} (h : m ≠ n) : CallOK Tryz.prog 20 [.agg (.cn (.sl 1 (mE q n) m) (.cn (.ex (.int .i64 (n : Int))) (.nl)))] (.cn (.agg (.cn (.sl 1 (fun _ => .sl 3 (fun _ => .rat 0) 0) 0) (.cn (.ex (.int .i64 ((0 : Nat) : Int))) (.nl)))) (.cn (.ex (.bool false)) (.nl))) [] := by
 exact kP (ch := [.reg 1 [(1, .callS (.ex (.int .i64 (m : Int))) [])], .reg 2 [(2, .callS (.ex (.int .i64 (n : Int))) [])], .dec 19 true]) Tryz.func20 ((∀ j0, j0 < m → (∀ j1, j1 < n → True)) ∧ _ ∧ _ ∧ ((!decide ((m : Int) = (n : Int))) = true) ∧ (_ ∧ ((0 : Int) = ((0 : Nat) : Int)) ∧ _))
  ⟨(fun _ _ => (fun _ _ => trivial)), sMatRows (m := m) (n := n) (q := q), sMatCols (m := m) (n := n) (q := q), (by simp; omega), (rf 0), zo, (rf (false : Bool))⟩
open Go.RowKit
theorem HtB.mono {m n B C : Nat} {A : Nat → Nat → Rat} (h : HtB m n B A) (hBC : B ≤ C) : HtB m n C A := fun i hi j hj => Nat.le_trans (h i hi j hj) hBC
theorem red_sz {m n s : Nat} {q : Nat → Nat → Rat} (h : ∀ i, i < m → ∀ j, j < n → szq (q i j) ≤ s) {d : Nat} (hd : m ≤ d ∨ n ≤ d) (t : Nat) (ht : (s + 1) * 4 ^ d ≤ t) : ∀ c, c ≤ n → HtB m n t (red m q c).1 :=
 red_htT (fun i hi j hj => by have := ht_sz (q i j); have := h i hi j hj; omega) hd t ht
theorem dot_sum (a b : Nat → Rat) : ∀ n, dotQ a b n = sumQ (fun i => a i * b i) n
 | 0 => rfl
 | n + 1 => by show dotQ a b n + a n * b n = sumQ _ n + a n * b n; rw [dot_sum a b n]
theorem ht_times {a b : Nat → Rat} {n S : Nat} (hn : n ≤ 64) (ha : ∀ i, i < n → htq (a i) ≤ S) (hb : ∀ i, i < n → htq (b i) ≤ S) (hS : S ≤ 60000000) : ∀ i, i < n → szq (a i) + szq (b i) ≤ 17179869184 ∧ szq (dotQ a b i) + szq (a i * b i) ≤ 17179869184 := fun i hi => by
 have h1 := ht_dot i (fun j hj => ha j zo) (fun j hj => hb j zo)
 have h2 := ha i hi
 have h3 := hb i hi
 have h4 := ht_mul (a i) (b i)
 have h5 := sz_ht (a i)
 have h6 := sz_ht (b i)
 have h7 := sz_ht (dotQ a b i)
 have h8 := sz_ht (a i * b i)
 have h9 : i * (S + S + 1) ≤ 64 * (S + S + 1) := Nat.mul_le_mul_right _ zo
 omega
theorem sAwake12   : CallOK Tryz.prog 17 [] (.ex (.bool true)) [] := by
 exact kP (ch := [.reg 1 [(0, .row 0 (fun i0 => .ex (.int .i64 (litI [2, 4, 0] i0)))), (1, .callS (.sl 3 (fun i0 => .rat (((litI [2, 4, 0]) i0 : Int) : Rat)) 3) []), (2, .row 0 (fun i0 => .ex (.int .i64 (litI [1, 2, 1] i0)))), (3, .callS (.sl 3 (fun i0 => .rat (((litI [1, 2, 1]) i0 : Int) : Rat)) 3) []), (4, .row 0 (fun i0 => .sl 3 (fun i1 => .rat ((litLL [[2, 4, 0], [1, 2, 1]] i0 i1 : Int) : Rat)) 3)), (5, .callS (.cn (.agg (.cn (.sl 1 (fun i0 => .sl 3 (fun i1 => .rat ((litLL [[2, 4, 0], [1, 2, 1]] i0 i1 : Int) : Rat)) 3) 2) (.cn (.ex (.int .i64 ((3 : Nat) : Int))) (.nl)))) (.cn (.ex (.bool true)) (.nl))) [])], .reg 2 [(1, .callS (.cn (.agg (.cn (.sl 1 (fun i0 => .sl 3 (fun i1 => .rat (((red 2 (fun r c => ((litLL [[2, 4, 0], [1, 2, 1]] r c : Int) : Rat)) 3).1) i0 i1)) 3) 2) (.cn (.ex (.int .i64 ((3 : Nat) : Int))) (.nl)))) (.cn (.sl 1 (fun i0 => .ex (.int .i64 (((red 2 (fun r c => ((litLL [[2, 4, 0], [1, 2, 1]] r c : Int) : Rat)) 3).2.2 i0 : Nat) : Int))) ((red 2 (fun r c => ((litLL [[2, 4, 0], [1, 2, 1]] r c : Int) : Rat)) 3).2.1)) (.nl))) [])], .reg 3 [(0, .row 0 (fun i0 => .ex (.int .i64 (litI [1, 2, 0] i0)))), (1, .callS (.sl 3 (fun i0 => .rat (((litI [1, 2, 0]) i0 : Int) : Rat)) 3) []), (2, .row 0 (fun i0 => .ex (.int .i64 (litI [0, 0, 1] i0)))), (3, .callS (.sl 3 (fun i0 => .rat (((litI [0, 0, 1]) i0 : Int) : Rat)) 3) []), (4, .row 0 (fun i0 => .sl 3 (fun i1 => .rat ((litLL [[1, 2, 0], [0, 0, 1]] i0 i1 : Int) : Rat)) 3)), (5, .callS (.cn (.agg (.cn (.sl 1 (fun i0 => .sl 3 (fun i1 => .rat ((litLL [[1, 2, 0], [0, 0, 1]] i0 i1 : Int) : Rat)) 3) 2) (.cn (.ex (.int .i64 ((3 : Nat) : Int))) (.nl)))) (.cn (.ex (.bool true)) (.nl))) [])], .reg 4 [(1, .callS (.sl 1 (fun i0 => .sl 3 (fun i1 => .rat (kerQ (red 2 (fun r c => ((litLL [[2, 4, 0], [1, 2, 1]] r c : Int) : Rat)) 3) ((frL (red 2 (fun r c => ((litLL [[2, 4, 0], [1, 2, 1]] r c : Int) : Rat)) 3).2.1 (red 2 (fun r c => ((litLL [[2, 4, 0], [1, 2, 1]] r c : Int) : Rat)) 3).2.2 3).2 i0) i1)) 3) ((frL (red 2 (fun r c => ((litLL [[2, 4, 0], [1, 2, 1]] r c : Int) : Rat)) 3).2.1 (red 2 (fun r c => ((litLL [[2, 4, 0], [1, 2, 1]] r c : Int) : Rat)) 3).2.2 3).1)) [])], .reg 5 [(0, .row 0 (fun i0 => .ex (.int .i64 (litI [1, 2] i0)))), (1, .callS (.sl 3 (fun i0 => .rat (((litI [1, 2]) i0 : Int) : Rat)) 2) []), (2, .row 0 (fun i0 => .ex (.int .i64 (litI [3, 4] i0)))), (3, .callS (.sl 3 (fun i0 => .rat (((litI [3, 4]) i0 : Int) : Rat)) 2) []), (4, .row 0 (fun i0 => .sl 3 (fun i1 => .rat ((litLL [[1, 2], [3, 4]] i0 i1 : Int) : Rat)) 2)), (5, .callS (.cn (.agg (.cn (.sl 1 (fun i0 => .sl 3 (fun i1 => .rat ((litLL [[1, 2], [3, 4]] i0 i1 : Int) : Rat)) 2) 2) (.cn (.ex (.int .i64 ((2 : Nat) : Int))) (.nl)))) (.cn (.ex (.bool true)) (.nl))) [])], .reg 6 [(1, .callS (.cn (.rat (cdet 2 (fun r c => ((litLL [[1, 2], [3, 4]] r c : Int) : Rat)))) (.cn (.ex (.bool true)) (.nl))) [])], .reg 7 [(0, .row 0 (fun i0 => .ex (.int .i64 (litI [1, 1] i0)))), (1, .callS (.sl 3 (fun i0 => .rat (((litI [1, 1]) i0 : Int) : Rat)) 2) []), (2, .row 0 (fun i0 => .ex (.int .i64 (litI [1, 1] i0)))), (3, .callS (.sl 3 (fun i0 => .rat (((litI [1, 1]) i0 : Int) : Rat)) 2) []), (4, .row 0 (fun i0 => .sl 3 (fun i1 => .rat ((litLL [[1, 1], [1, 1]] i0 i1 : Int) : Rat)) 2)), (5, .callS (.cn (.agg (.cn (.sl 1 (fun i0 => .sl 3 (fun i1 => .rat ((litLL [[1, 1], [1, 1]] i0 i1 : Int) : Rat)) 2) 2) (.cn (.ex (.int .i64 ((2 : Nat) : Int))) (.nl)))) (.cn (.ex (.bool true)) (.nl))) [])], .reg 8 [(1, .row 0 (fun i0 => .ex (.int .i64 (litI [1, 2] i0)))), (2, .callS (.sl 3 (fun i0 => .rat (((litI [1, 2]) i0 : Int) : Rat)) 2) []), (3, .callS (.cn (.sl 3 (fun _ => .rat 0) 0) (.cn (.ex (.int .i64 1)) (.cn (.ex (.bool true)) (.nl)))) [])], .reg 9 [(1, .row 0 (fun i0 => .ex (.int .i64 (litI [3, 3] i0)))), (2, .callS (.sl 3 (fun i0 => .rat (((litI [3, 3]) i0 : Int) : Rat)) 2) []), (3, .callS (.cn (.sl 3 (fun i0 => .rat (solQ (red 2 (wideQ 2 (fun r c => ((litLL [[1, 1], [1, 1]] r c : Int) : Rat)) (fun i => (((litI [3, 3]) i : Int) : Rat))) (2 + 1)) 2 i0)) 2) (.cn (.ex (.int .i64 (if (red 2 (wideQ 2 (fun r c => ((litLL [[1, 1], [1, 1]] r c : Int) : Rat)) (fun i => (((litI [3, 3]) i : Int) : Rat))) (2 + 1)).2.1 < 2 then 3 else 2))) (.cn (.ex (.bool true)) (.nl)))) [])], .reg 10 [(4, .callS (.ex (.bool (decide (3 = 3 ∧ 2 = 2 ∧ ∀ r : Nat, r < 2 → ∀ c : Nat, c < 3 → ((red 2 (fun r c => ((litLL [[2, 4, 0], [1, 2, 1]] r c : Int) : Rat)) 3).1) r c = ((litLL [[1, 2, 0], [0, 0, 1]] r c : Int) : Rat))))) []), (5, .sure .no), (10, .sure .no), (13, .k 1), (16, .sure .no), (21, .sure .no), (24, .k 0), (26, .row 0 (fun i0 => .ex (.int .i64 (litI [-2, 1, 0] i0)))), (27, .callS (.sl 3 (fun i0 => .rat (((litI [-2, 1, 0]) i0 : Int) : Rat)) 3) []), (28, .callS (.ex (.bool (decide (3 = 3 ∧ ∀ j : Nat, j < 3 → (kerQ (red 2 (fun r c => ((litLL [[2, 4, 0], [1, 2, 1]] r c : Int) : Rat)) 3) ((frL (red 2 (fun r c => ((litLL [[2, 4, 0], [1, 2, 1]] r c : Int) : Rat)) 3).2.1 (red 2 (fun r c => ((litLL [[2, 4, 0], [1, 2, 1]] r c : Int) : Rat)) 3).2.2 3).2 0) j : Rat) = (((litI [-2, 1, 0]) j : Int) : Rat))))) []), (29, .sure .no), (32, .sure .no), (35, .callS (.ex (.bool (decide ((cdet 2 (fun r c => ((litLL [[1, 2], [3, 4]] r c : Int) : Rat))) = Rat.divInt (-2) 1)))) []), (36, .sure .no), (39, .sure .no), (43, .sure .no), (46, .sure .no), (50, .sure .no), (53, .row 0 (fun i0 => .ex (.int .i64 (litI [3, 0] i0)))), (54, .callS (.sl 3 (fun i0 => .rat (((litI [3, 0]) i0 : Int) : Rat)) 2) []), (55, .callS (.ex (.bool (decide (2 = 2 ∧ ∀ j : Nat, j < 2 → (solQ (red 2 (wideQ 2 (fun r c => ((litLL [[1, 1], [1, 1]] r c : Int) : Rat)) (fun i => (((litI [3, 3]) i : Int) : Rat))) (2 + 1)) 2 j : Rat) = (((litI [3, 0]) j : Int) : Rat))))) []), (56, .sure .no)]]) Tryz.func17 (let y0 := (decide (3 = 3 ∧ 2 = 2 ∧ ∀ r : Nat, r < 2 → ∀ c : Nat, c < 3 → ((red 2 (fun r c => ((litLL [[2, 4, 0], [1, 2, 1]] r c : Int) : Rat)) 3).1) r c = ((litLL [[1, 2, 0], [0, 0, 1]] r c : Int) : Rat))); let y1 := (true == true); ((2 : Int) = (litI [2, 4, 0] 0)) ∧ ((4 : Int) = (litI [2, 4, 0] 1)) ∧ ((0 : Int) = (litI [2, 4, 0] 2)) ∧ _ ∧ ((1 : Int) = (litI [1, 2, 1] 0)) ∧ ((2 : Int) = (litI [1, 2, 1] 1)) ∧ ((1 : Int) = (litI [1, 2, 1] 2)) ∧ _ ∧ _ ∧ (∀ j0, j0 < 3 → (((((litI [2, 4, 0]) j0 : Int) : Rat) : Rat) = ((litLL [[2, 4, 0], [1, 2, 1]] 0 j0 : Int) : Rat))) ∧ _ ∧ (∀ j0, j0 < 3 → (((((litI [1, 2, 1]) j0 : Int) : Rat) : Rat) = ((litLL [[2, 4, 0], [1, 2, 1]] 1 j0 : Int) : Rat))) ∧ (CallOK Tryz.prog 38 [.ex (.int .i64 3), .sl 1 (fun i0 => .sl 3 (fun i1 => .rat ((litLL [[2, 4, 0], [1, 2, 1]] i0 i1 : Int) : Rat)) 3) 2] (.cn (.agg (.cn (.sl 1 (fun i0 => .sl 3 (fun i1 => .rat ((litLL [[2, 4, 0], [1, 2, 1]] i0 i1 : Int) : Rat)) 3) 2) (.cn (.ex (.int .i64 ((3 : Nat) : Int))) (.nl)))) (.cn (.ex (.bool true)) (.nl))) []) ∧ _ ∧ ((1 : Int) = (litI [1, 2, 0] 0)) ∧ ((2 : Int) = (litI [1, 2, 0] 1)) ∧ ((0 : Int) = (litI [1, 2, 0] 2)) ∧ _ ∧ ((0 : Int) = (litI [0, 0, 1] 0)) ∧ ((0 : Int) = (litI [0, 0, 1] 1)) ∧ ((1 : Int) = (litI [0, 0, 1] 2)) ∧ _ ∧ _ ∧ (∀ j0, j0 < 3 → (((((litI [1, 2, 0]) j0 : Int) : Rat) : Rat) = ((litLL [[1, 2, 0], [0, 0, 1]] 0 j0 : Int) : Rat))) ∧ _ ∧ (∀ j0, j0 < 3 → (((((litI [0, 0, 1]) j0 : Int) : Rat) : Rat) = ((litLL [[1, 2, 0], [0, 0, 1]] 1 j0 : Int) : Rat))) ∧ (CallOK Tryz.prog 38 [.ex (.int .i64 3), .sl 1 (fun i0 => .sl 3 (fun i1 => .rat ((litLL [[1, 2, 0], [0, 0, 1]] i0 i1 : Int) : Rat)) 3) 2] (.cn (.agg (.cn (.sl 1 (fun i0 => .sl 3 (fun i1 => .rat ((litLL [[1, 2, 0], [0, 0, 1]] i0 i1 : Int) : Rat)) 3) 2) (.cn (.ex (.int .i64 ((3 : Nat) : Int))) (.nl)))) (.cn (.ex (.bool true)) (.nl))) []) ∧ _ ∧ ((1 : Int) = (litI [1, 2] 0)) ∧ ((2 : Int) = (litI [1, 2] 1)) ∧ _ ∧ ((3 : Int) = (litI [3, 4] 0)) ∧ ((4 : Int) = (litI [3, 4] 1)) ∧ _ ∧ _ ∧ (∀ j0, j0 < 2 → (((((litI [1, 2]) j0 : Int) : Rat) : Rat) = ((litLL [[1, 2], [3, 4]] 0 j0 : Int) : Rat))) ∧ _ ∧ (∀ j0, j0 < 2 → (((((litI [3, 4]) j0 : Int) : Rat) : Rat) = ((litLL [[1, 2], [3, 4]] 1 j0 : Int) : Rat))) ∧ (CallOK Tryz.prog 38 [.ex (.int .i64 2), .sl 1 (fun i0 => .sl 3 (fun i1 => .rat ((litLL [[1, 2], [3, 4]] i0 i1 : Int) : Rat)) 2) 2] (.cn (.agg (.cn (.sl 1 (fun i0 => .sl 3 (fun i1 => .rat ((litLL [[1, 2], [3, 4]] i0 i1 : Int) : Rat)) 2) 2) (.cn (.ex (.int .i64 ((2 : Nat) : Int))) (.nl)))) (.cn (.ex (.bool true)) (.nl))) []) ∧ _ ∧ ((1 : Int) = (litI [1, 1] 0)) ∧ ((1 : Int) = (litI [1, 1] 1)) ∧ _ ∧ ((1 : Int) = (litI [1, 1] 0)) ∧ ((1 : Int) = (litI [1, 1] 1)) ∧ _ ∧ _ ∧ (∀ j0, j0 < 2 → (((((litI [1, 1]) j0 : Int) : Rat) : Rat) = ((litLL [[1, 1], [1, 1]] 0 j0 : Int) : Rat))) ∧ _ ∧ (∀ j0, j0 < 2 → (((((litI [1, 1]) j0 : Int) : Rat) : Rat) = ((litLL [[1, 1], [1, 1]] 1 j0 : Int) : Rat))) ∧ (CallOK Tryz.prog 38 [.ex (.int .i64 2), .sl 1 (fun i0 => .sl 3 (fun i1 => .rat ((litLL [[1, 1], [1, 1]] i0 i1 : Int) : Rat)) 2) 2] (.cn (.agg (.cn (.sl 1 (fun i0 => .sl 3 (fun i1 => .rat ((litLL [[1, 1], [1, 1]] i0 i1 : Int) : Rat)) 2) 2) (.cn (.ex (.int .i64 ((2 : Nat) : Int))) (.nl)))) (.cn (.ex (.bool true)) (.nl))) []) ∧ ((1 : Int) = (litI [1, 2] 0)) ∧ ((2 : Int) = (litI [1, 2] 1)) ∧ _ ∧ _ ∧ ((3 : Int) = (litI [3, 3] 0)) ∧ ((3 : Int) = (litI [3, 3] 1)) ∧ _ ∧ _ ∧ (y1 = true → y1 = true) ∧ (y1 = true → y1 = true) ∧ (y1 = true → _) ∧ (true = true) ∧ (y1 = true) ∧ ((y0 == true) = true → (y0 == true) = true) ∧ ((y0 == true) = true → (y0 == true) = true) ∧ (y0 = true) ∧ ((y0 == true) = true) ∧ (((decide ((((red 2 (fun r c => ((litLL [[2, 4, 0], [1, 2, 1]] r c : Int) : Rat)) 3).2.1 : Nat) : Int) = 2)) == true) = true → ((decide ((((red 2 (fun r c => ((litLL [[2, 4, 0], [1, 2, 1]] r c : Int) : Rat)) 3).2.1 : Nat) : Int) = 2)) == true) = true) ∧ (((decide ((((red 2 (fun r c => ((litLL [[2, 4, 0], [1, 2, 1]] r c : Int) : Rat)) 3).2.1 : Nat) : Int) = 2)) == true) = true → (1 : Int) = ((1 : Nat) : Int)) ∧ (((decide ((((red 2 (fun r c => ((litLL [[2, 4, 0], [1, 2, 1]] r c : Int) : Rat)) 3).2.1 : Nat) : Int) = 2)) == true) = true → 1 < ((red 2 (fun r c => ((litLL [[2, 4, 0], [1, 2, 1]] r c : Int) : Rat)) 3).2.1)) ∧ (((decide ((((red 2 (fun r c => ((litLL [[2, 4, 0], [1, 2, 1]] r c : Int) : Rat)) 3).2.1 : Nat) : Int) = 2)) == true) = true → ((decide ((((red 2 (fun r c => ((litLL [[2, 4, 0], [1, 2, 1]] r c : Int) : Rat)) 3).2.1 : Nat) : Int) = 2)) == true) = true) ∧ (((decide ((((red 2 (fun r c => ((litLL [[2, 4, 0], [1, 2, 1]] r c : Int) : Rat)) 3).2.1 : Nat) : Int) = 2)) == true) = true → ((decide ((((red 2 (fun r c => ((litLL [[2, 4, 0], [1, 2, 1]] r c : Int) : Rat)) 3).2.1 : Nat) : Int) = 2)) == true) = true) ∧ ((decide ((((red 2 (fun r c => ((litLL [[2, 4, 0], [1, 2, 1]] r c : Int) : Rat)) 3).2.1 : Nat) : Int) = 2)) = true) ∧ (((decide ((((red 2 (fun r c => ((litLL [[2, 4, 0], [1, 2, 1]] r c : Int) : Rat)) 3).2.1 : Nat) : Int) = 2)) == true) = true) ∧ (((decide ((((red 2 (fun r c => ((litLL [[2, 4, 0], [1, 2, 1]] r c : Int) : Rat)) 3).2.2 1 : Nat) : Int) = 2)) == true) = true → ((decide ((((red 2 (fun r c => ((litLL [[2, 4, 0], [1, 2, 1]] r c : Int) : Rat)) 3).2.2 1 : Nat) : Int) = 2)) == true) = true) ∧ (((decide ((((red 2 (fun r c => ((litLL [[2, 4, 0], [1, 2, 1]] r c : Int) : Rat)) 3).2.2 1 : Nat) : Int) = 2)) == true) = true → ((decide ((((red 2 (fun r c => ((litLL [[2, 4, 0], [1, 2, 1]] r c : Int) : Rat)) 3).2.2 1 : Nat) : Int) = 2)) == true) = true) ∧ ((decide ((((red 2 (fun r c => ((litLL [[2, 4, 0], [1, 2, 1]] r c : Int) : Rat)) 3).2.2 1 : Nat) : Int) = 2)) = true) ∧ (((decide ((((red 2 (fun r c => ((litLL [[2, 4, 0], [1, 2, 1]] r c : Int) : Rat)) 3).2.2 1 : Nat) : Int) = 2)) == true) = true) ∧ (((decide ((((frL (red 2 (fun r c => ((litLL [[2, 4, 0], [1, 2, 1]] r c : Int) : Rat)) 3).2.1 (red 2 (fun r c => ((litLL [[2, 4, 0], [1, 2, 1]] r c : Int) : Rat)) 3).2.2 3).1 : Nat) : Int) = 1)) == true) = true → ((decide ((((frL (red 2 (fun r c => ((litLL [[2, 4, 0], [1, 2, 1]] r c : Int) : Rat)) 3).2.1 (red 2 (fun r c => ((litLL [[2, 4, 0], [1, 2, 1]] r c : Int) : Rat)) 3).2.2 3).1 : Nat) : Int) = 1)) == true) = true) ∧ (((decide ((((frL (red 2 (fun r c => ((litLL [[2, 4, 0], [1, 2, 1]] r c : Int) : Rat)) 3).2.1 (red 2 (fun r c => ((litLL [[2, 4, 0], [1, 2, 1]] r c : Int) : Rat)) 3).2.2 3).1 : Nat) : Int) = 1)) == true) = true → (0 : Int) = ((0 : Nat) : Int)) ∧ (((decide ((((frL (red 2 (fun r c => ((litLL [[2, 4, 0], [1, 2, 1]] r c : Int) : Rat)) 3).2.1 (red 2 (fun r c => ((litLL [[2, 4, 0], [1, 2, 1]] r c : Int) : Rat)) 3).2.2 3).1 : Nat) : Int) = 1)) == true) = true → 0 < ((frL (red 2 (fun r c => ((litLL [[2, 4, 0], [1, 2, 1]] r c : Int) : Rat)) 3).2.1 (red 2 (fun r c => ((litLL [[2, 4, 0], [1, 2, 1]] r c : Int) : Rat)) 3).2.2 3).1)) ∧ (((decide ((((frL (red 2 (fun r c => ((litLL [[2, 4, 0], [1, 2, 1]] r c : Int) : Rat)) 3).2.1 (red 2 (fun r c => ((litLL [[2, 4, 0], [1, 2, 1]] r c : Int) : Rat)) 3).2.2 3).1 : Nat) : Int) = 1)) == true) = true → ((decide ((((frL (red 2 (fun r c => ((litLL [[2, 4, 0], [1, 2, 1]] r c : Int) : Rat)) 3).2.1 (red 2 (fun r c => ((litLL [[2, 4, 0], [1, 2, 1]] r c : Int) : Rat)) 3).2.2 3).1 : Nat) : Int) = 1)) == true) = true) ∧ (((decide ((((frL (red 2 (fun r c => ((litLL [[2, 4, 0], [1, 2, 1]] r c : Int) : Rat)) 3).2.1 (red 2 (fun r c => ((litLL [[2, 4, 0], [1, 2, 1]] r c : Int) : Rat)) 3).2.2 3).1 : Nat) : Int) = 1)) == true) = true → (-2 : Int) = (litI [-2, 1, 0] 0)) ∧ (((decide ((((frL (red 2 (fun r c => ((litLL [[2, 4, 0], [1, 2, 1]] r c : Int) : Rat)) 3).2.1 (red 2 (fun r c => ((litLL [[2, 4, 0], [1, 2, 1]] r c : Int) : Rat)) 3).2.2 3).1 : Nat) : Int) = 1)) == true) = true → (1 : Int) = (litI [-2, 1, 0] 1)) ∧ (((decide ((((frL (red 2 (fun r c => ((litLL [[2, 4, 0], [1, 2, 1]] r c : Int) : Rat)) 3).2.1 (red 2 (fun r c => ((litLL [[2, 4, 0], [1, 2, 1]] r c : Int) : Rat)) 3).2.2 3).1 : Nat) : Int) = 1)) == true) = true → (0 : Int) = (litI [-2, 1, 0] 2)) ∧ (((decide ((((frL (red 2 (fun r c => ((litLL [[2, 4, 0], [1, 2, 1]] r c : Int) : Rat)) 3).2.1 (red 2 (fun r c => ((litLL [[2, 4, 0], [1, 2, 1]] r c : Int) : Rat)) 3).2.2 3).1 : Nat) : Int) = 1)) == true) = true → ((decide ((((frL (red 2 (fun r c => ((litLL [[2, 4, 0], [1, 2, 1]] r c : Int) : Rat)) 3).2.1 (red 2 (fun r c => ((litLL [[2, 4, 0], [1, 2, 1]] r c : Int) : Rat)) 3).2.2 3).1 : Nat) : Int) = 1)) == true) = true) ∧ (((decide ((((frL (red 2 (fun r c => ((litLL [[2, 4, 0], [1, 2, 1]] r c : Int) : Rat)) 3).2.1 (red 2 (fun r c => ((litLL [[2, 4, 0], [1, 2, 1]] r c : Int) : Rat)) 3).2.2 3).1 : Nat) : Int) = 1)) == true) = true → _) ∧ (((decide ((((frL (red 2 (fun r c => ((litLL [[2, 4, 0], [1, 2, 1]] r c : Int) : Rat)) 3).2.1 (red 2 (fun r c => ((litLL [[2, 4, 0], [1, 2, 1]] r c : Int) : Rat)) 3).2.2 3).1 : Nat) : Int) = 1)) == true) = true → ((decide ((((frL (red 2 (fun r c => ((litLL [[2, 4, 0], [1, 2, 1]] r c : Int) : Rat)) 3).2.1 (red 2 (fun r c => ((litLL [[2, 4, 0], [1, 2, 1]] r c : Int) : Rat)) 3).2.2 3).1 : Nat) : Int) = 1)) == true) = true) ∧ (((decide ((((frL (red 2 (fun r c => ((litLL [[2, 4, 0], [1, 2, 1]] r c : Int) : Rat)) 3).2.1 (red 2 (fun r c => ((litLL [[2, 4, 0], [1, 2, 1]] r c : Int) : Rat)) 3).2.2 3).1 : Nat) : Int) = 1)) == true) = true → ((decide ((((frL (red 2 (fun r c => ((litLL [[2, 4, 0], [1, 2, 1]] r c : Int) : Rat)) 3).2.1 (red 2 (fun r c => ((litLL [[2, 4, 0], [1, 2, 1]] r c : Int) : Rat)) 3).2.2 3).1 : Nat) : Int) = 1)) == true) = true) ∧ (((decide ((((frL (red 2 (fun r c => ((litLL [[2, 4, 0], [1, 2, 1]] r c : Int) : Rat)) 3).2.1 (red 2 (fun r c => ((litLL [[2, 4, 0], [1, 2, 1]] r c : Int) : Rat)) 3).2.2 3).1 : Nat) : Int) = 1)) == true) = true → _) ∧ ((decide ((((frL (red 2 (fun r c => ((litLL [[2, 4, 0], [1, 2, 1]] r c : Int) : Rat)) 3).2.1 (red 2 (fun r c => ((litLL [[2, 4, 0], [1, 2, 1]] r c : Int) : Rat)) 3).2.2 3).1 : Nat) : Int) = 1)) = true) ∧ (((decide ((((frL (red 2 (fun r c => ((litLL [[2, 4, 0], [1, 2, 1]] r c : Int) : Rat)) 3).2.1 (red 2 (fun r c => ((litLL [[2, 4, 0], [1, 2, 1]] r c : Int) : Rat)) 3).2.2 3).1 : Nat) : Int) = 1)) == true) = true) ∧ ((decide (3 = 3 ∧ ∀ j : Nat, j < 3 → (kerQ (red 2 (fun r c => ((litLL [[2, 4, 0], [1, 2, 1]] r c : Int) : Rat)) 3) ((frL (red 2 (fun r c => ((litLL [[2, 4, 0], [1, 2, 1]] r c : Int) : Rat)) 3).2.1 (red 2 (fun r c => ((litLL [[2, 4, 0], [1, 2, 1]] r c : Int) : Rat)) 3).2.2 3).2 0) j : Rat) = (((litI [-2, 1, 0]) j : Int) : Rat))) = true) ∧ (((decide (3 = 3 ∧ ∀ j : Nat, j < 3 → (kerQ (red 2 (fun r c => ((litLL [[2, 4, 0], [1, 2, 1]] r c : Int) : Rat)) 3) ((frL (red 2 (fun r c => ((litLL [[2, 4, 0], [1, 2, 1]] r c : Int) : Rat)) 3).2.1 (red 2 (fun r c => ((litLL [[2, 4, 0], [1, 2, 1]] r c : Int) : Rat)) 3).2.2 3).2 0) j : Rat) = (((litI [-2, 1, 0]) j : Int) : Rat))) == true) = true) ∧ (y1 = true → y1 = true) ∧ (y1 = true → _) ∧ (true = true) ∧ (y1 = true) ∧ ((decide ((cdet 2 (fun r c => ((litLL [[1, 2], [3, 4]] r c : Int) : Rat))) = Rat.divInt (-2) 1)) = true) ∧ (((decide ((cdet 2 (fun r c => ((litLL [[1, 2], [3, 4]] r c : Int) : Rat))) = Rat.divInt (-2) 1)) == true) = true) ∧ (y1 = true → y1 = true) ∧ (true = true) ∧ (y1 = true) ∧ ((decide ((1 : Int) = 1)) = true) ∧ (((decide ((1 : Int) = 1)) == true) = true) ∧ (y1 = true → y1 = true) ∧ (true = true) ∧ (y1 = true) ∧ (((decide ((if (red 2 (wideQ 2 (fun r c => ((litLL [[1, 1], [1, 1]] r c : Int) : Rat)) (fun i => (((litI [3, 3]) i : Int) : Rat))) (2 + 1)).2.1 < 2 then 3 else 2 : Int) = 3)) == true) = true → (3 : Int) = (litI [3, 0] 0)) ∧ (((decide ((if (red 2 (wideQ 2 (fun r c => ((litLL [[1, 1], [1, 1]] r c : Int) : Rat)) (fun i => (((litI [3, 3]) i : Int) : Rat))) (2 + 1)).2.1 < 2 then 3 else 2 : Int) = 3)) == true) = true → (0 : Int) = (litI [3, 0] 1)) ∧ (((decide ((if (red 2 (wideQ 2 (fun r c => ((litLL [[1, 1], [1, 1]] r c : Int) : Rat)) (fun i => (((litI [3, 3]) i : Int) : Rat))) (2 + 1)).2.1 < 2 then 3 else 2 : Int) = 3)) == true) = true → ((decide ((if (red 2 (wideQ 2 (fun r c => ((litLL [[1, 1], [1, 1]] r c : Int) : Rat)) (fun i => (((litI [3, 3]) i : Int) : Rat))) (2 + 1)).2.1 < 2 then 3 else 2 : Int) = 3)) == true) = true) ∧ (((decide ((if (red 2 (wideQ 2 (fun r c => ((litLL [[1, 1], [1, 1]] r c : Int) : Rat)) (fun i => (((litI [3, 3]) i : Int) : Rat))) (2 + 1)).2.1 < 2 then 3 else 2 : Int) = 3)) == true) = true → _) ∧ (((decide ((if (red 2 (wideQ 2 (fun r c => ((litLL [[1, 1], [1, 1]] r c : Int) : Rat)) (fun i => (((litI [3, 3]) i : Int) : Rat))) (2 + 1)).2.1 < 2 then 3 else 2 : Int) = 3)) == true) = true → ((decide ((if (red 2 (wideQ 2 (fun r c => ((litLL [[1, 1], [1, 1]] r c : Int) : Rat)) (fun i => (((litI [3, 3]) i : Int) : Rat))) (2 + 1)).2.1 < 2 then 3 else 2 : Int) = 3)) == true) = true) ∧ (((decide ((if (red 2 (wideQ 2 (fun r c => ((litLL [[1, 1], [1, 1]] r c : Int) : Rat)) (fun i => (((litI [3, 3]) i : Int) : Rat))) (2 + 1)).2.1 < 2 then 3 else 2 : Int) = 3)) == true) = true → ((decide ((if (red 2 (wideQ 2 (fun r c => ((litLL [[1, 1], [1, 1]] r c : Int) : Rat)) (fun i => (((litI [3, 3]) i : Int) : Rat))) (2 + 1)).2.1 < 2 then 3 else 2 : Int) = 3)) == true) = true) ∧ (((decide ((if (red 2 (wideQ 2 (fun r c => ((litLL [[1, 1], [1, 1]] r c : Int) : Rat)) (fun i => (((litI [3, 3]) i : Int) : Rat))) (2 + 1)).2.1 < 2 then 3 else 2 : Int) = 3)) == true) = true → _) ∧ ((decide ((if (red 2 (wideQ 2 (fun r c => ((litLL [[1, 1], [1, 1]] r c : Int) : Rat)) (fun i => (((litI [3, 3]) i : Int) : Rat))) (2 + 1)).2.1 < 2 then 3 else 2 : Int) = 3)) = true) ∧ (((decide ((if (red 2 (wideQ 2 (fun r c => ((litLL [[1, 1], [1, 1]] r c : Int) : Rat)) (fun i => (((litI [3, 3]) i : Int) : Rat))) (2 + 1)).2.1 < 2 then 3 else 2 : Int) = 3)) == true) = true) ∧ (((decide (2 = 2 ∧ ∀ j : Nat, j < 2 → (solQ (red 2 (wideQ 2 (fun r c => ((litLL [[1, 1], [1, 1]] r c : Int) : Rat)) (fun i => (((litI [3, 3]) i : Int) : Rat))) (2 + 1)) 2 j : Rat) = (((litI [3, 0]) j : Int) : Rat)) : Bool) = true)))
  ⟨rfl, rfl, rfl, (sVecOf (n := 3) (a := (litI [2, 4, 0])) (by decide) (by decide +kernel)).frzV, rfl, rfl, rfl, (sVecOf (n := 3) (a := (litI [1, 2, 1])) (by decide) (by decide +kernel)).frzV, (rf 3), (fun j0 hj0 => rfl), (rf 3), (fun j0 hj0 => rfl), (sMatOf (q := fun r c => ((litLL [[2, 4, 0], [1, 2, 1]] r c : Int) : Rat)) (by decide) (by decide)), sReduced (m := 2) (n := 3) (q := (fun r c => ((litLL [[2, 4, 0], [1, 2, 1]] r c : Int) : Rat))) (by decide) (by decide) (red_sz (s := 2) (by decide +kernel) (d := 2) (.inl (by decide)) _ (by decide)), rfl, rfl, rfl, (sVecOf (n := 3) (a := (litI [1, 2, 0])) (by decide) (by decide +kernel)).frzV, rfl, rfl, rfl, (sVecOf (n := 3) (a := (litI [0, 0, 1])) (by decide) (by decide +kernel)).frzV, (rf 3), (fun j0 hj0 => rfl), (rf 3), (fun j0 hj0 => rfl), (sMatOf (q := fun r c => ((litLL [[1, 2, 0], [0, 0, 1]] r c : Int) : Rat)) (by decide) (by decide)), sKernel (m := 2) (n := 3) (q := (fun r c => ((litLL [[2, 4, 0], [1, 2, 1]] r c : Int) : Rat))) (by decide) (by decide) (red_sz (s := 2) (by decide +kernel) (d := 2) (.inl (by decide)) _ (by decide)), rfl, rfl, (sVecOf (n := 2) (a := (litI [1, 2])) (by decide) (by decide +kernel)).frzV, rfl, rfl, (sVecOf (n := 2) (a := (litI [3, 4])) (by decide) (by decide +kernel)).frzV, (rf 2), (fun j0 hj0 => rfl), (rf 2), (fun j0 hj0 => rfl), (sMatOf (q := fun r c => ((litLL [[1, 2], [3, 4]] r c : Int) : Rat)) (by decide) (by decide)), (sDet (n := 2) (q := (fun r c => ((litLL [[1, 2], [3, 4]] r c : Int) : Rat))) (s := 2) (by decide) (by decide) (by decide +kernel)), rfl, rfl, (sVecOf (n := 2) (a := (litI [1, 1])) (by decide) (by decide +kernel)).frzV, rfl, rfl, (sVecOf (n := 2) (a := (litI [1, 1])) (by decide) (by decide +kernel)).frzV, (rf 2), (fun j0 hj0 => rfl), (rf 2), (fun j0 hj0 => rfl), (sMatOf (q := fun r c => ((litLL [[1, 1], [1, 1]] r c : Int) : Rat)) (by decide) (by decide)), rfl, rfl, (sVecOf (n := 2) (a := (litI [1, 2])) (by decide) (by decide +kernel)).frzV, (sSolveN (m := 2) (n := 2) (q := (fun r c => ((litLL [[1, 1], [1, 1]] r c : Int) : Rat))) (b := (fun i => (((litI [1, 2]) i : Int) : Rat))) (by decide) (by decide) (red_sz (s := 2) (by decide +kernel) (d := 2) (.inl (by decide)) _ (by decide)) (by decide +kernel)), rfl, rfl, (sVecOf (n := 2) (a := (litI [3, 3])) (by decide) (by decide +kernel)).frzV, (sSolveY (m := 2) (n := 2) (q := (fun r c => ((litLL [[1, 1], [1, 1]] r c : Int) : Rat))) (b := (fun i => (((litI [3, 3]) i : Int) : Rat))) (by decide) (by decide) (red_sz (s := 2) (by decide +kernel) (d := 2) (.inl (by decide)) _ (by decide)) (by decide +kernel)), id, id, (fun hg => (sMatSame (m := 2) (n := 3) (k := 2) (l := 3) (p := (fun r c => ((red 2 (fun r c => ((litLL [[2, 4, 0], [1, 2, 1]] r c : Int) : Rat)) 3).1) r c)) (q := (fun r c => ((litLL [[1, 2, 0], [0, 0, 1]] r c : Int) : Rat))) (by decide) (by decide) (by decide +kernel))), (by decide +kernel), (by decide +kernel), id, id, (by decide +kernel), (by decide +kernel), id, (fun hg => rfl), (fun hg => (by decide +kernel)), id, id, (by decide +kernel), (by decide +kernel), id, id, (by decide +kernel), (by decide +kernel), id, (fun hg => rfl), (fun hg => (by decide +kernel)), id, (fun hg => rfl), (fun hg => rfl), (fun hg => rfl), id, (fun hg => (sVecOf (n := 3) (a := (litI [-2, 1, 0])) (by decide) (by decide +kernel)).frzV), id, id, (fun hg => (sVecSame (n := 3) (m := 3) (a := (fun i => kerQ (red 2 (fun r c => ((litLL [[2, 4, 0], [1, 2, 1]] r c : Int) : Rat)) 3) ((frL (red 2 (fun r c => ((litLL [[2, 4, 0], [1, 2, 1]] r c : Int) : Rat)) 3).2.1 (red 2 (fun r c => ((litLL [[2, 4, 0], [1, 2, 1]] r c : Int) : Rat)) 3).2.2 3).2 0) i)) (b := (fun i => (((litI [-2, 1, 0]) i : Int) : Rat))) (by decide) (by decide +kernel))), (by decide +kernel), (by decide +kernel), (by decide +kernel), (by decide +kernel), id, (fun hg => sIs (q := (cdet 2 (fun r c => (((litLL [[1, 2], [3, 4]] r c) : Int) : Rat)))) (p := -2) (d := 1) (by decide +kernel) (by decide +kernel) (by decide +kernel) (by decide +kernel)), (by decide +kernel), (by decide +kernel), (by decide +kernel), (by decide +kernel), id, (by decide +kernel), (by decide +kernel), (by decide +kernel), (by decide +kernel), id, (by decide +kernel), (by decide +kernel), (fun hg => rfl), (fun hg => rfl), id, (fun hg => (sVecOf (n := 2) (a := (litI [3, 0])) (by decide) (by decide +kernel)).frzV), id, id, (fun hg => (sVecSame (n := 2) (m := 2) (a := (fun i => solQ (red 2 (wideQ 2 (fun r c => ((litLL [[1, 1], [1, 1]] r c : Int) : Rat)) (fun i => (((litI [3, 3]) i : Int) : Rat))) (2 + 1)) 2 i)) (b := (fun i => (((litI [3, 0]) i : Int) : Rat))) (by decide) (by decide +kernel))), (by decide +kernel), (by decide +kernel), (by decide +kernel)⟩
open Go.RowKit
theorem wide_ht {m n s : Nat} {q : Nat → Nat → Rat} {b : Nat → Rat} (hq : ∀ i, i < m → ∀ j, htq (q i j) ≤ 2) (hb : ∀ i, i < m → htq (b i) ≤ s) (hs : 2 ≤ s) (hm : m ≤ 6) (t : Nat) (ht : (s + 1) * 4 ^ 6 ≤ t) : ∀ c, c ≤ n + 1 → HtB m (n + 1) t (red m (wideQ n q b) c).1 :=
 red_htT (fun i hi j _ => by
  unfold wideQ
  split
  ·have := hq i hi j; omega
  ·have := hb i hi; omega) (.inl hm) t ht
open Go.RowKit
theorem eQ_ht (k i : Nat) : htq (eQ k i) ≤ 2 := by
 unfold eQ
 split
 ·rw [ht_one]; omega
 ·rw [ht_zero]; omega
theorem det_szs {n : Nat} {q : Nat → Nat → Rat} (hn : n ≤ 6) (hq : ∀ i, i < n → ∀ j, j < n → htq (q i j) ≤ 1000) : szq (det n q) ≤ 16777216 := by
 have h1 := (det_ht n hq).1
 have h3 := dB_le (E := 1000) (by decide) n hn
 have := sz_ht (det n q)
 omega
open Go.RowKit
section
variable {n r c i : Nat} {q : Nat → Nat → Rat}
theorem inv_none {b : Nat → Rat} (h : (red n q n).2.1 = n) : ¬ noSol n n q b := by
 unfold noSol
 rw [sq_all h, Nat.sub_self]
 exact Nat.lt_irrefl n
theorem inv_sol {t : Nat} (h : (red n q n).2.1 = n) (ht : t < n) : invQ n q t c = solQ (red n (wideQ n q (eQ c)) (n + 1)) n t := by
 have e : (red n (wideQ n q (eQ c)) n).2.1 = n := sq_all h
 have H := red_inv n (wideQ n q (eQ c)) n
 have h1 := solQ_lead (n := n) H (k := t) (by rw [e]; exact ht)
 rw [H.lead_eq e ht] at h1
 rw [red_some (inv_none h)]
 exact h1.symm
theorem inv_right (h : (red n q n).2.1 = n) (hr : r < n) : sumQ (fun t => q r t * invQ n q t c) n = eQ c r := by
 rw [← sol_ok (inv_none (b := eQ c) h) hr]
 exact sumQ_congr n fun t ht => by rw [inv_sol h ht]
theorem eQ_self {k : Nat} : eQ k k = 1 := if_pos rfl
theorem eQ_ne {k j : Nat} (h : j ≠ k) : eQ k j = 0 := if_neg h
theorem inv_left (h : (red n q n).2.1 = n) (hr : r < n) (hc : c < n) : sumQ (fun t => invQ n q r t * q t c) n = eQ c r := by
 refine sol_one h (x := fun r => sumQ (fun t => invQ n q r t * q t c) n) (y := eQ c) (fun i hi => ?_) r hr
 have e1 : sumQ (fun j => q i j * sumQ (fun t => invQ n q j t * q t c) n) n = sumQ (fun t => sumQ (fun j => q i j * invQ n q j t) n * q t c) n := by
  rw [show sumQ (fun j => q i j * sumQ (fun t => invQ n q j t * q t c) n) n = sumQ (fun j => sumQ (fun t => q i j * invQ n q j t * q t c) n) n from sumQ_congr n fun j _ => by rw [← sumQ_mul]; exact sumQ_congr n fun t _ => by rw [Rat.mul_assoc]]
  rw [sumQ_comm]
  exact sumQ_congr n fun t _ => by
   rw [Rat.mul_comm _ (q t c), ← sumQ_mul]
   exact sumQ_congr n fun j _ => Rat.mul_comm _ _
 have e2 : sumQ (fun t => sumQ (fun j => q i j * invQ n q j t) n * q t c) n = q i c := by
  rw [show sumQ (fun t => sumQ (fun j => q i j * invQ n q j t) n * q t c) n = sumQ (fun t => eQ t i * q t c) n from sumQ_congr n fun t _ => by rw [inv_right h hi], sumQ_one n hi fun t _ ht => by rw [eQ_ne (Ne.symm ht), Rat.zero_mul], eQ_self, Rat.one_mul]
 have e3 : sumQ (fun j => q i j * eQ c j) n = q i c := by
  rw [sumQ_one n hc fun t _ ht => by rw [eQ_ne ht, Rat.mul_zero], eQ_self, Rat.mul_one]
 show sumQ (fun j => q i j * sumQ (fun t => invQ n q j t * q t c) n) n = sumQ (fun j => q i j * eQ c j) n
 rw [e1, e2, e3]
theorem inv_ht (h : (red n q n).2.1 = n) {B : Nat} (hH : HtB n (n + 1) B (red n (wideQ n q (eQ c)) n).1) (hr : r < n) : htq (invQ n q r c) ≤ B := Nat.le_of_succ_le (hH r hr n (Nat.lt_succ_self n))
end
end Go.Proofs.YtgighdoacajmfaaGreat
