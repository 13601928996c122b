/- The parts Lin, SW, Ht, DetI, SE, Lu, SU, LuS, SCl, SU2, SZ, SH, SI, SIB, SRM, SR2. -/
import Derived.Test.YtgighdoacajmfaaGreatR5
set_option maxRecDepth 100000
namespace Go.Proofs.YtgighdoacajmfaaGreat
structure RowFn (n : Nat) (G : (Nat → Nat → Rat) → Rat) : Prop where
 cong : ∀ A B, (∀ i, i < n → ∀ j, j < n → A i j = B i j) → G A = G B
 swap : ∀ A k l, k < n → l < n → k ≠ l → G (swapR A k l) = - G A
 mul : ∀ A r t, r < n → G (setR A r (fun j => t * A r j)) = t * G A
 add : ∀ A r k t, r < n → k < n → r ≠ k → G (setR A r (fun j => A r j + t * A k j)) = G A
theorem rowFn_cdet (n : Nat) : RowFn n (cdet n) := ⟨fun _ _ h => cdet_congr n h, fun A _ _ hk hl h => cdet_swap A hk hl h, fun A _ t hr => cdet_mulR A t hr, fun A _ _ t hr hk h => cdet_addR A t hr hk h⟩
def clrP (B : Nat → Nat → Rat) (a c h : Nat) : Nat → Nat → Rat := fun r j => if r < h ∧ r ≠ a then B r j + -(B r c) * B a j else B r j
theorem clr_fn {n : Nat} {G : (Nat → Nat → Rat) → Rat} (H : RowFn n G) {B : Nat → Nat → Rat} {a c : Nat} (ha : a < n) : ∀ h, h ≤ n → G (clrP B a c h) = G B
 | 0, _ => congrArg G (by funext r j; exact if_neg fun h => absurd h.1 (Nat.not_lt_zero r))
 | h + 1, hn => by
  refine Eq.trans ?_ (clr_fn H (c := c) ha h zo)
  have ea : clrP B a c h a = B a := by funext j; exact if_neg fun h => h.2 rfl
  by_cases e : h = a
  ·congr 1
   funext r j
   unfold clrP
   by_cases q : r < h ∧ r ≠ a
   ·rw [if_pos q, if_pos ⟨by omega, q.2⟩]
   ·rw [if_neg q, if_neg zo]
  ·have eh : clrP B a c h h = B h := by funext j; exact if_neg fun h => absurd h.1 (Nat.lt_irrefl _)
   rw [← H.add (clrP B a c h) h a (-(B h c)) zo ha e]
   congr 1
   funext r j
   show _ = (if r = h then clrP B a c h h j + -(B h c) * clrP B a c h a j else clrP B a c h r j)
   rw [ea, eh]
   unfold clrP
   by_cases q : r = h
   ·subst q; rw [if_pos ⟨by omega, e⟩, if_pos rfl]
   ·rw [if_neg q]
    by_cases q2 : r < h ∧ r ≠ a
    ·rw [if_pos q2, if_pos ⟨by omega, q2.2⟩]
    ·rw [if_neg q2, if_neg zo]
theorem clear_fn {n : Nat} {G : (Nat → Nat → Rat) → Rat} (H : RowFn n G) {B : Nat → Nat → Rat} {a c : Nat} (ha : a < n) : G (clearQ B a c) = G B := by
 rw [← clr_fn H ha n (Nat.le_refl n) (B := B) (c := c)]
 refine H.cong _ _ fun i hi j _ => ?_
 unfold clearQ clrP
 by_cases e : i = a
 ·rw [if_pos e, if_neg fun h => h.2 e, e]
 ·rw [if_neg e, if_pos ⟨hi, e⟩]
theorem rat_mul_ne {x y : Rat} (hx : x ≠ 0) (hy : y ≠ 0) : x * y ≠ 0 := fun h => (Rat.mul_eq_zero.1 h).elim hx hy
theorem red_fn {n : Nat} {A : Nat → Nat → Rat} : ∀ c, c ≤ n → ∃ u : Rat, u ≠ 0 ∧ ∀ G, RowFn n G → G A = u * G (red n A c).1
 | 0, _ => ⟨1, by decide, fun G _ => by show G A = 1 * G A; grind⟩
 | c + 1, hc => by
  obtain ⟨u, hu, hG⟩ := red_fn (n := n) (A := A) c zo
  have am := (red_inv n A c).am
  show ∃ u : Rat, u ≠ 0 ∧ ∀ G, RowFn n G → G A = u * G (redStep n (red n A c) c).1
  generalize red n A c = s at hG am
  unfold redStep
  have h1 := leadK_le (B := s.1) (c := c) (n - s.2.1) s.2.1
  have h2 := leadK_at (B := s.1) (c := c) (n - s.2.1) s.2.1
  generalize leadK s.1 c s.2.1 (n - s.2.1) = k at h1 h2
  by_cases hk : k < n
  ·rw [if_pos hk]
   have ha : s.2.1 < n := by omega
   have hp : swapR s.1 s.2.1 k s.2.1 c ≠ 0 := by
    show s.1 (if s.2.1 = s.2.1 then k else _) c ≠ 0
    rw [if_pos rfl]; exact h2 zo
   have hsw : ∃ v : Rat, v ≠ 0 ∧ ∀ G, RowFn n G → G s.1 = v * G (swapR s.1 s.2.1 k) := by
    by_cases e : s.2.1 = k
    ·refine ⟨1, by decide, fun G _ => ?_⟩
     have : swapR s.1 s.2.1 k = s.1 := by
      funext i j
      show s.1 (if i = s.2.1 then k else if i = k then s.2.1 else i) j = s.1 i j
      by_cases e1 : i = s.2.1
      ·rw [if_pos e1, e1, e]
      ·rw [if_neg e1]
       by_cases e2 : i = k
       ·rw [if_pos e2, e2, e]
       ·rw [if_neg e2]
     rw [this]; grind
    ·exact ⟨-1, by decide, fun G H => by rw [H.swap _ _ _ ha hk e]; grind⟩
   obtain ⟨v, hv, hS⟩ := hsw
   refine ⟨u * v * swapR s.1 s.2.1 k s.2.1 c, ?_, fun G H => ?_⟩
   ·exact rat_mul_ne (rat_mul_ne hu hv) hp
   ·show G A = _ * G (clearQ (scaleQ (swapR s.1 s.2.1 k) s.2.1 c) s.2.1 c)
    rw [clear_fn H ha, hG G H, hS G H]
    unfold scaleQ
    rw [H.mul _ _ _ ha]
    have := Rat.mul_inv_cancel _ hp
    grind
  ·rw [if_neg hk]
   exact ⟨u, hu, hG⟩
def idM (i j : Nat) : Rat := if i = j then 1 else 0
theorem cdet_id : ∀ n, cdet n idM = 1
 | 0 => rfl
 | n + 1 => by
  rw [cdet_col0 fun i h _ => if_neg zo, cdet_congr n (B := idM) fun i _ j _ => by
   show (if 1 + i = 1 + j then (1 : Rat) else 0) = if i = j then 1 else 0
   by_cases e : i = j
   ·rw [if_pos e, if_pos zo]
   ·rw [if_neg e, if_neg zo], cdet_id n]
  show (1 : Rat) * 1 = 1
  grind
theorem RedInv.lead_ge {m n : Nat} {A : Nat → Nat → Rat} {s : RedS} (H : RedInv m A n s) : ∀ i, i < s.2.1 → i ≤ s.2.2 i
 | 0, _ => Nat.zero_le _
 | i + 1, h => by
  have := H.lead_ge i zo
  have := H.inc i (i + 1) zo h
  omega
theorem RedInv.lead_le {m n : Nat} {A : Nat → Nat → Rat} {s : RedS} (H : RedInv m A n s) : ∀ d i, i + d + 1 = s.2.1 → s.2.2 i + d < n
 | 0, i, h => H.lt i zo
 | d + 1, i, h => by
  have := H.lead_le d (i + 1) zo
  have := H.inc i (i + 1) zo zo
  omega
theorem RedInv.lead_eq {m n : Nat} {A : Nat → Nat → Rat} {s : RedS} (H : RedInv m A n s) (e : s.2.1 = n) {i : Nat} (hi : i < n) : s.2.2 i = i := by
 have h1 := H.lead_ge i zo
 have h2 := H.lead_le (n - 1 - i) i zo
 omega
theorem red_full {n : Nat} {A : Nat → Nat → Rat} (e : (red n A n).2.1 = n) : ∀ i, i < n → ∀ j, j < n → (red n A n).1 i j = idM i j := fun i hi j hj => by
 have H := red_inv n A n
 have hl := H.lead_eq e hj
 unfold idM
 by_cases q : i = j
 ·subst q
  rw [if_pos rfl]
  have := H.one i zo
  rw [hl] at this; exact this
 ·rw [if_neg q]
  have := H.zero j zo i hi q
  rw [hl] at this; exact this
theorem red_sing {n : Nat} {A : Nat → Nat → Rat} (e : (red n A n).2.1 < n) {G : (Nat → Nat → Rat) → Rat} (H : RowFn n G) : G (red n A n).1 = 0 := by
 have hz : ∀ j, j < n → (red n A n).1 (n - 1) j = 0 := fun j hj => (red_inv n A n).low (n - 1) zo zo j hj
 have h := H.mul (red n A n).1 (n - 1) 0 zo
 rw [H.cong (setR (red n A n).1 (n - 1) fun j => 0 * (red n A n).1 (n - 1) j) (red n A n).1 fun i _ j hj => by
  unfold setR
  split
  ·rename_i q; rw [q, hz j hj]; grind
  ·rfl] at h
 rw [h]; grind
theorem red_le (n : Nat) (A : Nat → Nat → Rat) : (red n A n).2.1 ≤ n := (red_inv n A n).am
theorem det_lead {n : Nat} {A : Nat → Nat → Rat} : cdet n A = 0 ↔ (red n A n).2.1 < n := by
 obtain ⟨u, hu, hG⟩ := red_fn (n := n) (A := A) n (Nat.le_refl n)
 constructor
 ·intro h
  refine Nat.lt_of_le_of_ne (red_le n A) fun e => ?_
  have h1 := hG _ (rowFn_cdet n)
  rw [h, cdet_congr n (red_full e), cdet_id] at h1
  exact hu (by grind)
 ·intro h
  rw [hG _ (rowFn_cdet n), red_sing h (rowFn_cdet n)]; grind
theorem leadK_cong {B B' : Nat → Nat → Rat} {c : Nat} (h : ∀ r, B r c = B' r c) : ∀ d a, leadK B c a d = leadK B' c a d
 | 0, _ => rfl
 | d + 1, a => by unfold leadK; rw [h a, leadK_cong h d (a + 1)]
theorem red_cong {m n : Nat} {A A' : Nat → Nat → Rat} (h : ∀ r j, j < n → A r j = A' r j) : ∀ c, c ≤ n → (red m A c).2 = (red m A' c).2 ∧ ∀ r j, j < n → (red m A c).1 r j = (red m A' c).1 r j
 | 0, _ => ⟨rfl, h⟩
 | c + 1, hc => by
  obtain ⟨h1, h2⟩ := red_cong (m := m) h c zo
  show (redStep m (red m A c) c).2 = (redStep m (red m A' c) c).2 ∧ ∀ r j, j < n → (redStep m (red m A c) c).1 r j = (redStep m (red m A' c) c).1 r j
  generalize red m A c = s at h1 h2
  generalize red m A' c = s' at h1 h2
  obtain ⟨B, t⟩ := s
  obtain ⟨B', t'⟩ := s'
  obtain rfl : t = t' := h1
  have h2 : ∀ r j, j < n → B r j = B' r j := h2
  unfold redStep
  rw [leadK_cong (fun r => h2 r c zo) (m - t.1) t.1]
  split
  ·refine ⟨rfl, fun r j hj => ?_⟩
   have hS : ∀ k r j, j < n → swapR B t.1 k r j = swapR B' t.1 k r j := fun k r j hj => h2 _ j hj
   have hC : ∀ k r j, j < n → scaleQ (swapR B t.1 k) t.1 c r j = scaleQ (swapR B' t.1 k) t.1 c r j := fun k r j hj => by
    unfold scaleQ setR
    dsimp only
    rw [hS k t.1 c zo, hS k t.1 j hj, hS k r j hj]
   show clearQ _ t.1 c r j = clearQ _ t.1 c r j
   unfold clearQ
   rw [hC _ t.1 j hj, hC _ r j hj, hC _ r c zo]
  ·exact ⟨rfl, h2⟩
def wideQ (n : Nat) (q : Nat → Nat → Rat) (b : Nat → Rat) : Nat → Nat → Rat := fun r j => if j < n then q r j else b r
theorem wideQ_lt {n : Nat} {q : Nat → Nat → Rat} {b : Nat → Rat} {r j : Nat} (h : j < n) : wideQ n q b r j = q r j := if_pos h
theorem wideQ_n {n : Nat} {q : Nat → Nat → Rat} {b : Nat → Rat} {r : Nat} : wideQ n q b r n = b r := if_neg (Nat.lt_irrefl n)
theorem red_wide {m n : Nat} {q : Nat → Nat → Rat} {b : Nat → Rat} {c : Nat} (hc : c ≤ n) : (red m (wideQ n q b) c).2 = (red m q c).2 ∧ ∀ r j, j < n → (red m (wideQ n q b) c).1 r j = (red m q c).1 r j := red_cong (fun _ _ hj => wideQ_lt hj) c hc
def noSol (m n : Nat) (q : Nat → Nat → Rat) (b : Nat → Rat) : Prop := leadK (red m (wideQ n q b) n).1 n (red m (wideQ n q b) n).2.1 (m - (red m (wideQ n q b) n).2.1) < m
instance (m n : Nat) (q : Nat → Nat → Rat) (b : Nat → Rat) : Decidable (noSol m n q b) := inferInstanceAs (Decidable (_ < _))
theorem red_some {m n : Nat} {q : Nat → Nat → Rat} {b : Nat → Rat} (h : ¬ noSol m n q b) : red m (wideQ n q b) (n + 1) = red m (wideQ n q b) n := by
 have h1 : red m (wideQ n q b) (n + 1) = redStep m (red m (wideQ n q b) n) n := rfl
 unfold redStep at h1
 rw [if_neg (show ¬ leadK (red m (wideQ n q b) n).1 n (red m (wideQ n q b) n).2.1 (m - (red m (wideQ n q b) n).2.1) < m from h)] at h1
 exact h1
def solQ (s : RedS) (n j : Nat) : Rat := sumQ (fun r => if s.2.2 r = j then s.1 r n else 0) s.2.1
theorem sol_sum {m n : Nat} {A : Nat → Nat → Rat} {s : RedS} (H : RedInv m A (n + 1) s) (hl : ∀ i, i < s.2.1 → s.2.2 i < n) {r : Nat} (hr : r < m) : sumQ (fun j => A r j * solQ s n j) n = A r n := by
 have e : ∀ j, j < n → A r j * solQ s n j = sumQ (fun k => if s.2.2 k = j then A r j * s.1 k n else 0) s.2.1 := fun j _ => by
  unfold solQ
  rw [← sumQ_mul]
  exact sumQ_congr _ fun k _ => by split <;> grind
 rw [sumQ_congr n e, sumQ_comm (fun j k => if s.2.2 k = j then A r j * s.1 k n else 0) s.2.1 n, H.row hr n zo]
 refine sumQ_congr _ fun k hk => ?_
 rw [sumQ_one (k := s.2.2 k) n (hl k hk) fun j _ hj => if_neg (Ne.symm hj), if_pos rfl]
theorem sol_ok {m n : Nat} {q : Nat → Nat → Rat} {b : Nat → Rat} (h : ¬ noSol m n q b) {r : Nat} (hr : r < m) : sumQ (fun j => q r j * solQ (red m (wideQ n q b) (n + 1)) n j) n = b r := by
 have H := red_inv m (wideQ n q b) (n + 1)
 have hl : ∀ i, i < (red m (wideQ n q b) (n + 1)).2.1 → (red m (wideQ n q b) (n + 1)).2.2 i < n := fun i hi => by
  rw [red_some h] at hi ⊢
  exact (red_inv m (wideQ n q b) n).lt i hi
 have := sol_sum H hl hr
 rw [wideQ_n] at this
 rw [← this]
 exact sumQ_congr n fun j hj => by rw [wideQ_lt hj]
theorem Spn.rel {m n : Nat} {A : Nat → Nat → Rat} {w x : Nat → Rat} (h : ∀ r, r < m → A r n = sumQ (fun j => A r j * w j) n) (hx : Spn m A x) : x n = sumQ (fun j => x j * w j) n := by
 obtain ⟨t, ht⟩ := hx
 rw [ht n, sumQ_congr m (g := fun k => sumQ (fun j => t k * (A k j * w j)) n) fun k hk => by rw [h k hk, sumQ_mul], sumQ_comm (fun k j => t k * (A k j * w j)) n m]
 refine sumQ_congr n fun j _ => ?_
 rw [ht j]
 have : sumQ (fun k => t k * A k j) m * w j = w j * sumQ (fun k => t k * A k j) m := by grind
 rw [this, ← sumQ_mul]
 exact sumQ_congr m fun k _ => by grind
theorem made_ok {m n : Nat} {q : Nat → Nat → Rat} {b w : Nat → Rat} (hb : ∀ r, r < m → b r = sumQ (fun j => q r j * w j) n) : ¬ noSol m n q b := fun h => by
 have H := red_inv m (wideQ n q b) n
 unfold noSol at h
 have h1 := leadK_le (B := (red m (wideQ n q b) n).1) (c := n) (m - (red m (wideQ n q b) n).2.1) (red m (wideQ n q b) n).2.1
 have h2 := leadK_at (B := (red m (wideQ n q b) n).1) (c := n) (m - (red m (wideQ n q b) n).2.1) (red m (wideQ n q b) n).2.1 (by have := H.am; omega)
 generalize leadK (red m (wideQ n q b) n).1 n (red m (wideQ n q b) n).2.1 (m - (red m (wideQ n q b) n).2.1) = k at h h1 h2
 refine h2 ?_
 have hr : ∀ r, r < m → wideQ n q b r n = sumQ (fun j => wideQ n q b r j * w j) n := fun r hr => by
  rw [wideQ_n, hb r hr]
  exact sumQ_congr n fun j hj => by rw [wideQ_lt hj]
 rw [Spn.rel hr (H.same.2 k h), sumQ_congr n (g := fun _ => 0) fun j hj => by rw [H.low k h1.1 h j hj]; grind, sumQ_zero]
def putC (A : Nat → Nat → Rat) (c : Nat) (b : Nat → Rat) : Nat → Nat → Rat := fun i j => if j = c then b i else A i j
theorem cdet_trM (n : Nat) (A : Nat → Nat → Rat) : cdet n (trM A) = cdet n A := by rw [← det_cdet, det_tr]
theorem cdet_sumR {n : Nat} (A : Nat → Nat → Rat) {r : Nat} (hr : r < n) (X : Nat → Nat → Rat) (t : Nat → Rat) : ∀ m, cdet n (setR A r (fun j => sumQ (fun k => t k * X k j) m)) = sumQ (fun k => t k * cdet n (setR A r (X k))) m
 | 0 => by
  have h := cdet_mulR (setR A r (fun _ => 0)) 0 hr
  show cdet n (setR A r fun _ => 0) = 0
  rw [cdet_congr n (B := setR A r fun _ => 0) fun i _ j _ => by
   unfold setR
   split
   ·dsimp only; rw [if_pos rfl]; grind
   ·rfl] at h
  rw [h]; grind
 | m + 1 => by
  have h := cdet_lin n A r (fun j => sumQ (fun k => t k * X k j) m) (X m) 1 (t m) hr
  have ih := cdet_sumR A hr X t m
  show cdet n (setR A r (fun j => sumQ (fun k => t k * X k j) m + t m * X m j)) = sumQ (fun k => t k * cdet n (setR A r (X k))) m + t m * cdet n (setR A r (X m))
  rw [← ih]
  have e : (fun j => sumQ (fun k => t k * X k j) m + t m * X m j) = fun j => 1 * sumQ (fun k => t k * X k j) m + t m * X m j := by funext j; grind
  rw [e, h]; grind
theorem cramer {n : Nat} {A : Nat → Nat → Rat} {b x : Nat → Rat} (h : ∀ r, r < n → sumQ (fun j => A r j * x j) n = b r) {c : Nat} (hc : c < n) : cdet n (putC A c b) = x c * cdet n A := by
 rw [← cdet_trM n (putC A c b), ← cdet_trM n A]
 rw [cdet_congr n (A := trM (putC A c b)) (B := setR (trM A) c (fun j => sumQ (fun k => x k * trM A k j) n)) fun i _ j hj => by
  show (if i = c then b j else A j i) = if i = c then sumQ (fun k => x k * A j k) n else A j i
  split
  ·rw [← h j hj]; exact sumQ_congr n fun k _ => by grind
  ·rfl]
 rw [cdet_sumR _ hc, sumQ_one (k := c) n hc fun k hk hkc => by
  rw [cdet_eq (k := c) (l := k) hc hk (Ne.symm hkc) fun j _ => by
   show (if c = c then trM A k j else _) = if k = c then _ else trM A k j
   rw [if_pos rfl, if_neg hkc]]
  grind]
 rw [setR_self]
open Go.RowKit
def lenW (n g r : Nat) : Nat := if r < g then n + 1 else n
theorem lenW_self {n g : Nat} : lenW n g g = n := if_neg (Nat.lt_irrefl g)
theorem lenW_at {n g : Nat} : lenW n (g + 1) g = n + 1 := if_pos (Nat.lt_succ_self g)
theorem lenW_ne {n g r : Nat} (h : r ≠ g) : lenW n g r = lenW n (g + 1) r := by
 unfold lenW
 by_cases h1 : r < g
 ·rw [if_pos h1, if_pos zo]
 ·rw [if_neg h1, if_neg zo]
theorem lenW_zero {n r : Nat} : n = lenW n 0 r := (if_neg (Nat.not_lt_zero r)).symm
theorem lenW_all {n g r : Nat} (h : r < g) : lenW n g r = n + 1 := if_pos h
theorem wideQ_new {n k : Nat} {q : Nat → Nat → Rat} {v : Nat → Rat} {r : Nat} (h : k = n) : v r = wideQ n q v r k := by rw [h, wideQ_n]
theorem sMatCopyO {q : Nat → Nat → Rat} {m n : Nat} (hm : m ≤ 68719476736) (hn : n ≤ 68719476736) : CallOK Tryz.prog 16 [.agg (.cn (.sl 1 (mE q n) m) (.cn (.ex (.int .i64 (n : Int))) (.nl)))] (.agg (.cn (.own 0 0) (.cn (.ex (.int .i64 (n : Int))) (.nl)))) [.one (.row 69 1 (fun i0 => .own 1 i0) m), .fam m (fun i0 => .row 55 3 (fun i1 => .rat (q i0 i1)) n)] := by
 exact kP (ch := [.loop 3 (Nat) (fun g => g ≤ m) (fun g => m - g) (fun g => ⟨[(1, .own 0 0), (2, .own 1 0), (3, .own 2 0), (10, .sl 1 (mE q n) m), (11, .ex (.int .i64 (m : Int))), (12, .ex (.int .i64 (g : Int)))], [(0, .one (.var 32 (.agg (.cn (.sl 1 (mE q n) m) (.cn (.ex (.int .i64 (n : Int))) (.nl)))))), (1, .one (.var 32 (.ex (.agg #[.slice none 0 0, .int .i64 0])))), (2, .one (.var 32 (.agg (.cn (.own 3 0) (.cn (.ex (.int .i64 (n : Int))) (.nl)))))), (3, .one (.row 69 1 (fun i0 => .own 4 i0) g)), (4, .fam g (fun i0 => .row 55 3 (fun i1 => .rat (q i0 i1)) n))], 5⟩) [(0, .id 0), (1, .id 1), (2, .id 2), (3, .nil), (4, .emp)] (fun g => [(0, .id 0), (1, .id 1), (2, .id 2), (3, .id 6), (4, .put 4 g 5)]) (fun g => [.reg 4 [(0, .k g)], .reg 5 [(3, .callS (.own 0 0) [.one (.row 55 3 (fun i0 => .rat (q g i0)) n)]), (5, .row 0 (fun i0 => .own (if i0 < g then 4 else 5) (if i0 < g then i0 else 0)))], .reg 6 [(0, .z ((g + 1 : Nat) : Int))], .ret 7 [(0, .id 3), (1, .id 4)]])]) Tryz.func16 ((∀ j0, j0 < m → (∀ j1, j1 < n → True)) ∧ (((fun X1 X2 X3 X4 X5 X6 X7 X8 X9 X10 X11 : Prop => ∃ g0 : Nat, X1 ∧ X2 ∧ X3 ∧ X4 ∧ X5 ∧ X6 ∧ ((0 : Int) = (g0 : Int)) ∧ X7 ∧ X8 ∧ X9 ∧ ((.agg #[.slice none 0 0, .int .i64 0] : Value) = .agg #[.slice none 0 0, .int .i64 0]) ∧ X10 ∧ X11 ∧ ((g0 : Nat) = 0) ∧ ((g0 : Nat) = 0) ∧ (g0 ≤ m)) _ _ _ _ _ _ _ _ _ _ _) ∧ ∀ g : Nat, (g ≤ m) → (((decide ((g : Int) < (m : Int))) = true → _ ∧ (g < m) ∧ _ ∧ (g + 1 ≤ 68719476736) ∧ (∀ j0, j0 < g → (.own (if j0 < g then 4 else 5) (if j0 < g then j0 else 0) : SV) = .own 4 j0) ∧ (∀ j0, j0 < 1 → ((5 : Nat) = (if g + j0 < g then 4 else 5)) ∧ ((0 : Nat) = (if g + j0 < g then g + j0 else 0))) ∧ _ ∧ ((fun X1 X2 X3 X4 X5 X6 X7 X8 X9 X10 X11 X12 : Prop => ∃ g1 : Nat, X1 ∧ X2 ∧ X3 ∧ X4 ∧ X5 ∧ X6 ∧ (((g + 1 : Nat) : Int) = (g1 : Int)) ∧ X7 ∧ X8 ∧ X9 ∧ ((.agg #[.slice none 0 0, .int .i64 0] : Value) = .agg #[.slice none 0 0, .int .i64 0]) ∧ X10 ∧ X11 ∧ ((g + 1 : Nat) = g1) ∧ (∀ j0, j0 < (g + 1) → (((if j0 < g then 4 else 5 : Nat) = 5 ∧ (if j0 < g then j0 else 0 : Nat) = 0 ∧ (j0 : Nat) = g) ∨ ((if j0 < g then 4 else 5 : Nat) = 4 ∧ (if j0 < g then j0 else 0 : Nat) = j0 ∧ (j0 : Nat) ≠ g))) ∧ ((g1 : Nat) = g + 1) ∧ X12 ∧ (((n : Nat) = n) ∧ (∀ j1, j1 < n → ((q g j1 : Rat) = (q g j1)))) ∧ (∀ j0, j0 < g → ((n : Nat) = n) ∧ (∀ j1, j1 < n → ((q j0 j1 : Rat) = (q j0 j1)))) ∧ (g1 ≤ m) ∧ (m - g1 < m - g)) _ _ _ _ _ _ _ _ _ _ _ _)) ∧ ((decide ((g : Int) < (m : Int))) = false → (_ ∧ _ ∧ ((g : Nat) = m) ∧ (∀ j0, j0 < g → ((j0 : Nat) = j0)) ∧ ((g : Nat) = m) ∧ (∀ j0, j0 < g → ((n : Nat) = n) ∧ (∀ j1, j1 < n → ((q j0 j1 : Rat) = (q j0 j1)))))))))
  ⟨(fun _ _ => (fun _ _ => trivial)), ⟨0, (rf 0), (rf 0), (rf 0), (rf m), (leS (mE q n) m), (rf (m : Int)), zo, (rf m), (leS (mE q n) m), (rf (n : Int)), rfl, (rf 0), (rf (n : Int)), zo, zo, zo⟩, fun g hg => ⟨fun hc13 => have hc13 := dT hc13; ⟨(rf (g : Int)), zo, sVecCopy (n := n) (q := (fun i => q g i)) zo, zo, (fun j0 hj0 => by rw [if_pos hj0, if_pos hj0]), (fun j0 hj0 => ⟨(by rw [if_neg zo]), (by rw [if_neg zo])⟩), (wI (g := g) zo), g + 1, (rf 0), (rf 0), (rf 0), (rf m), (leS (mE q n) m), (rf (m : Int)), zo, (rf m), (leS (mE q n) m), (rf (n : Int)), rfl, (rf 0), (rf (n : Int)), zo, (fun j0 hj0 => (by first | omega | (split <;> omega))), zo, (rf g), ⟨rfl, (fun j1 hj1 => rfl)⟩, (fun j0 hj0 => ⟨rfl, (fun j1 hj1 => rfl)⟩), zo, zo⟩, fun hc13 => have hc13 := dF hc13; have hi2 : g = m := zo; ⟨(rf 0), (rf (n : Int)), zo, (fun j0 hj0 => rfl), zo, (fun j0 hj0 => ⟨rfl, (fun j1 hj1 => rfl)⟩)⟩⟩⟩
theorem sMatWithCol {q : Nat → Nat → Rat} {v : Nat → Rat} {m n : Nat} (hm : m ≤ 68719476736) (hn : n < 64) : CallOK Tryz.prog 51 [.agg (.cn (.sl 1 (mE q n) m) (.cn (.ex (.int .i64 (n : Int))) (.nl))), .sl 3 (fun i0 => .rat (v i0)) m] (.cn (.agg (.cn (.sl 1 (mE (wideQ n q v) (n + 1)) m) (.cn (.ex (.int .i64 ((n + 1 : Nat) : Int))) (.nl)))) (.cn (.ex (.bool true)) (.nl))) [] := by
 exact kP (ch := [.dec 18 false, .reg 3 [(1, .callS (.agg (.cn (.own 0 0) (.cn (.ex (.int .i64 (n : Int))) (.nl)))) [.one (.row 69 1 (fun i0 => .own 1 i0) m), .fam m (fun i0 => .row 55 3 (fun i1 => .rat (q i0 i1)) n)])], .reg 4 [(2, .z ((n + 1 : Nat) : Int))], .loop 6 (Nat) (fun g => g ≤ m) (fun g => m - g) (fun g => ⟨[(1, .sl 3 (fun i0 => .rat (v i0)) m), (2, .own 0 0), (4, .own 1 0), (6, .own 4 0), (28, .ex (.int .i64 (m : Int))), (29, .ex (.int .i64 (g : Int)))], [(0, .one (.var 32 (.agg (.cn (.sl 1 (mE q n) m) (.cn (.ex (.int .i64 (n : Int))) (.nl)))))), (1, .one (.var 32 (.ex (.agg #[.slice none 0 0, .int .i64 0])))), (2, .one (.row 69 1 (fun i0 => .own 3 i0) m)), (3, .fam m (fun i0 => .row 55 3 (fun i1 => .rat (wideQ n q v i0 i1)) (lenW n g i0))), (4, .one (.var 32 (.agg (.cn (.own 2 0) (.cn (.ex (.int .i64 ((n + 1 : Nat) : Int))) (.nl))))))], 5⟩) [(0, .id 0), (1, .id 1), (2, .id 2), (3, .id 3), (4, .id 4)] (fun g => [(0, .id 0), (1, .id 1), (2, .id 2), (3, .put 3 g 5), (4, .id 4)]) (fun g => [.reg 8 [(6, .k g), (10, .k g), (13, .row 0 (fun i0 => .rat (wideQ n q v g i0))), (14, .k g), (15, .row 0 (fun i0 => .own (if i0 = g then 5 else 3) (if i0 = g then 0 else i0)))], .reg 9 [(0, .z ((g + 1 : Nat) : Int))]])]) Tryz.func51 (let y0 := ((!decide ((m : Int) = (m : Int))) == false); (∀ j0, j0 < m → (∀ j1, j1 < n → True)) ∧ (∀ j0, j0 < m → True) ∧ (y0 = true → y0 = true) ∧ (y0 = true → y0 = true) ∧ ((!(!decide ((m : Int) = (m : Int)))) = true → y0 = true) ∧ ((bif (!decide ((m : Int) = (m : Int))) then true else (decide ((64 : Int) ≤ (n : Int)))) = false) ∧ (CallOK Tryz.prog 16 [.agg (.cn (.sl 1 (mE q n) m) (.cn (.ex (.int .i64 (n : Int))) (.nl)))] (.agg (.cn (.own 0 0) (.cn (.ex (.int .i64 (n : Int))) (.nl)))) [.one (.row 69 1 (fun i0 => .own 1 i0) m), .fam m (fun i0 => .row 55 3 (fun i1 => .rat (q i0 i1)) n)]) ∧ _ ∧ (((fun X1 X2 X3 X4 X5 X6 X7 X8 X9 X10 X11 X12 X13 : Prop => ∃ g0 : Nat, X1 ∧ X2 ∧ X3 ∧ X4 ∧ X5 ∧ X6 ∧ ((0 : Int) = (g0 : Int)) ∧ X7 ∧ X8 ∧ X9 ∧ ((.agg #[.slice none 0 0, .int .i64 0] : Value) = .agg #[.slice none 0 0, .int .i64 0]) ∧ X10 ∧ (∀ j0, j0 < m → ((j0 : Nat) = j0)) ∧ X11 ∧ (∀ j0, j0 < m → ((n : Nat) = (lenW n g0 j0)) ∧ (∀ j1, j1 < n → ((q j0 j1 : Rat) = (wideQ n q v j0 j1)))) ∧ X12 ∧ X13 ∧ (g0 ≤ m)) _ _ _ _ _ _ _ _ _ _ _ _ _) ∧ ∀ g : Nat, (g ≤ m) → (((decide ((g : Int) < (m : Int))) = true → _ ∧ (g < m) ∧ (g < m) ∧ _ ∧ (g < m) ∧ ((lenW n g g) + 1 ≤ 68719476736) ∧ _ ∧ (∀ j0, j0 < 1 → ((v g : Rat) = (wideQ n q v g ((lenW n g g) + j0)))) ∧ (g < m) ∧ _ ∧ (g < m) ∧ (g < m) ∧ (((5 : Nat) = (if g = g then 5 else 3)) ∧ ((0 : Nat) = (if g = g then 0 else g))) ∧ (∀ t, t < m → t ≠ g → (.own (if t = g then 5 else 3) (if t = g then 0 else t) : SV) = .own 3 t) ∧ _ ∧ ((fun X1 X2 X3 X4 X5 X6 X7 X8 X9 X10 X11 X12 X13 X14 : Prop => ∃ g1 : Nat, X1 ∧ X2 ∧ X3 ∧ X4 ∧ X5 ∧ X6 ∧ (((g + 1 : Nat) : Int) = (g1 : Int)) ∧ X7 ∧ X8 ∧ X9 ∧ ((.agg #[.slice none 0 0, .int .i64 0] : Value) = .agg #[.slice none 0 0, .int .i64 0]) ∧ X10 ∧ (∀ j0, j0 < m → (((if j0 = g then 5 else 3 : Nat) = 5 ∧ (if j0 = g then 0 else j0 : Nat) = 0 ∧ (j0 : Nat) = g) ∨ ((if j0 = g then 5 else 3 : Nat) = 3 ∧ (if j0 = g then 0 else j0 : Nat) = j0 ∧ (j0 : Nat) ≠ g))) ∧ X11 ∧ X12 ∧ (g < m) ∧ ((((lenW n g g) + 1 : Nat) = (lenW n g1 g)) ∧ (∀ j1, j1 < ((lenW n g g) + 1) → ((wideQ n q v g j1 : Rat) = (wideQ n q v g j1)))) ∧ (∀ j0, j0 < m → j0 ≠ g → ((lenW n g j0 : Nat) = (lenW n g1 j0)) ∧ (∀ j1, j1 < (lenW n g j0) → ((wideQ n q v j0 j1 : Rat) = (wideQ n q v j0 j1)))) ∧ X13 ∧ X14 ∧ (g1 ≤ m) ∧ (m - g1 < m - g)) _ _ _ _ _ _ _ _ _ _ _ _ _ _)) ∧ ((decide ((g : Int) < (m : Int))) = false → (_ ∧ (∀ j0, j0 < m → ((lenW n g j0 : Nat) = (n + 1)) ∧ (∀ j1, j1 < (lenW n g j0) → ((wideQ n q v j0 j1 : Rat) = ((wideQ n q v) j0 j1))) ∧ (j0 < m)) ∧ _ ∧ _)))))
  ⟨(fun _ _ => (fun _ _ => trivial)), (fun _ _ => trivial), id, id, (by simp), (by simp; omega), sMatCopyO (q := q) zo zo, (wI (g := n) zo), ⟨0, (rf m), (leS (fun i0 => .rat (v i0)) m), (rf 0), (rf 0), (rf 0), (rf (m : Int)), zo, (rf m), (leS (mE q n) m), (rf (n : Int)), rfl, (rf m), (fun j0 hj0 => rfl), (rf m), (fun j0 hj0 => ⟨lenW_zero, (fun j1 hj1 => (wideQ_lt (by assumption)).symm)⟩), (rf 0), (rf ((n + 1 : Nat) : Int)), zo⟩, fun g hg => have e1 := lenW_self (n := n) (g := g); have e2 := lenW_at (n := n) (g := g); ⟨fun hc30 => have hc30 := dT hc30; ⟨(rf (g : Int)), zo, zo, (rf (g : Int)), zo, zo, (oldS (fun i0 => .rat (wideQ n q v g i0)) (lenW n g g)), (fun j0 hj0 => (wideQ_new zo)), zo, (rf (g : Int)), zo, zo, ⟨(if_pos rfl).symm, (if_pos rfl).symm⟩, (fun t ht hne => by rw [if_neg hne, if_neg hne]), (wI (g := g) zo), g + 1, (rf m), (leS (fun i0 => .rat (v i0)) m), (rf 0), (rf 0), (rf 0), (rf (m : Int)), zo, (rf m), (leS (mE q n) m), (rf (n : Int)), rfl, (rf m), (fun j0 hj0 => (by first | omega | (split <;> omega))), (rf m), (rf g), zo, ⟨(by first | exact lenW_ne (by assumption) | omega), (fun j1 hj1 => rfl)⟩, (fun j0 hj0 hne => ⟨(by first | exact lenW_ne (by assumption) | omega), (fun j1 hj1 => rfl)⟩), (rf 0), (rf ((n + 1 : Nat) : Int)), zo, zo⟩, fun hc30 => have hc30 := dF hc30; have hi2 : g = m := zo; ⟨(rf m), (fun j0 hj0 => ⟨(lenW_all zo), (fun j1 hj1 => rfl), zo⟩), (rf ((n + 1 : Nat) : Int)), (rf (true : Bool))⟩⟩⟩
def htq (q : Rat) : Nat := max (nw q.num.natAbs) (nw q.den)
theorem ht_sz (q : Rat) : htq q ≤ szq q := by unfold htq szq; omega
theorem sz_ht (q : Rat) : szq q ≤ 2 * htq q := by unfold htq szq; omega
theorem ht_divInt (a b : Int) (hb : b ≠ 0) : htq (Rat.divInt a b) ≤ max (nw a.natAbs) (nw b.natAbs) := by
 unfold htq
 rw [new_den a b hb, new_num a b hb]
 have e : ∀ (s : Bool) (x : Nat), (signed s x).natAbs = x := fun s x => by cases s <;> simp [signed]
 rw [e]
 have h1 := nw_mono' (Nat.div_le_self a.natAbs (Nat.gcd a.natAbs b.natAbs))
 have h2 := nw_mono' (Nat.div_le_self b.natAbs (Nat.gcd a.natAbs b.natAbs))
 omega
theorem ht_mul (p q : Rat) : htq (p * q) ≤ htq p + htq q := by
 rw [mul_as]
 have h := ht_divInt (p.num * q.num) ((p.den * q.den : Nat) : Int) (den2_ne p q)
 rw [Int.natAbs_mul, Int.natAbs_natCast] at h
 have h1 := nw_mul p.num.natAbs q.num.natAbs
 have h2 := nw_mul p.den q.den
 unfold htq at *
 omega
theorem ht_add (p q : Rat) : htq (p + q) ≤ htq p + htq q + 1 := by
 rw [add_as]
 have h := ht_divInt (p.num * q.den + q.num * p.den) ((p.den * q.den : Nat) : Int) (den2_ne p q)
 rw [Int.natAbs_natCast] at h
 have h0 := nw_mono' (natAbs_add_nat (p.num * q.den) (q.num * p.den))
 rw [Int.natAbs_mul, Int.natAbs_mul, Int.natAbs_natCast, Int.natAbs_natCast] at h0
 have h3 := nw_add (p.num.natAbs * q.den) (q.num.natAbs * p.den)
 have h4 := nw_mul p.num.natAbs q.den
 have h5 := nw_mul q.num.natAbs p.den
 have h2 := nw_mul p.den q.den
 unfold htq at *
 omega
theorem ht_neg (p : Rat) : htq (-p) = htq p := by unfold htq; rw [Rat.neg_num, Rat.neg_den, Int.natAbs_neg]
theorem ht_zero : htq 0 = 1 := by decide +kernel
theorem ht_one : htq 1 = 1 := by decide +kernel
theorem ht_inv (p : Rat) : htq p⁻¹ ≤ htq p := by
 by_cases h : p = 0
 ·rw [h, Rat.inv_zero]; exact Nat.le_refl _
 ·rw [Rat.inv_def]
  have h1 : p.num ≠ 0 := fun e => h (Rat.num_eq_zero.1 e)
  have := ht_divInt p.den p.num h1
  rw [Int.natAbs_natCast] at this
  unfold htq at *
  omega
theorem ht_sub (p q : Rat) : htq (p - q) ≤ htq p + htq q + 1 := by
 have := ht_add p (-q)
 rw [ht_neg] at this
 rw [Rat.sub_eq_add_neg]; exact this
theorem ht_div (p q : Rat) : htq (p / q) ≤ htq p + htq q := by
 rw [Rat.div_def]
 have := ht_mul p q⁻¹
 have := ht_inv q
 omega
theorem ht_dot {a b : Nat → Rat} {S T : Nat} : ∀ n, (∀ i, i < n → htq (a i) ≤ S) → (∀ i, i < n → htq (b i) ≤ T) → htq (dotQ a b n) ≤ n * (S + T + 1) + 1
 | 0, _, _ => by show htq 0 ≤ _; rw [ht_zero]; omega
 | n + 1, ha, hb => by
  have ih := ht_dot n (fun i hi => ha i zo) (fun i hi => hb i zo)
  have h1 := ht_add (dotQ a b n) (a n * b n)
  have h2 := ht_mul (a n) (b n)
  have h3 := ha n zo
  have h4 := hb n zo
  show htq (dotQ a b n + a n * b n) ≤ _
  rw [Nat.add_mul]
  omega
theorem ht_room {a b : Rat} {S : Nat} (ha : htq a ≤ S) (hb : htq b ≤ S) (hS : S ≤ 4294967296) : szq a + szq b ≤ 17179869184 := by
 have := sz_ht a
 have := sz_ht b
 omega
theorem ht_room2 {a b r : Rat} {S : Nat} (ha : htq a ≤ S) (hb : htq b ≤ S) (hr : htq r ≤ S) (hS : S ≤ 1073741824) : szq r + szq b ≤ 17179869184 ∧ szq a + szq (r * b) ≤ 17179869184 := by
 have := sz_ht a
 have := sz_ht b
 have := sz_ht r
 have := sz_ht (r * b)
 have := ht_mul r b
 omega
def hE (s c : Nat) : Nat := (s + 1) * 4 ^ c
theorem hE_succ (s c : Nat) : hE s (c + 1) = 4 * hE s c := by unfold hE; rw [Nat.pow_succ, ← Nat.mul_assoc, Nat.mul_comm]
theorem hE_zero (s : Nat) : hE s 0 = s + 1 := by unfold hE; omega
theorem hE_mono {s c d : Nat} (h : c ≤ d) : hE s c ≤ hE s d := Nat.mul_le_mul_left _ (Nat.pow_le_pow_right (by decide) h)
theorem hE_top {s c d : Nat} (hc : c ≤ d) (t : Nat) (ht : (s + 1) * 4 ^ d ≤ t) : hE s c ≤ t := Nat.le_trans (hE_mono hc) ht
def HtB (m n B : Nat) (A : Nat → Nat → Rat) : Prop := ∀ i, i < m → ∀ j, j < n → htq (A i j) + 1 ≤ B
theorem HtB.swap {m n B k l : Nat} {A : Nat → Nat → Rat} (hk : k < m) (hl : l < m) (h : HtB m n B A) : HtB m n B (swapR A k l) := fun i hi j hj => by
 show htq (A (if i = k then l else if i = l then k else i) j) + 1 ≤ B
 refine h _ ?_ j hj
 split
 ·exact hl
 ·split
  ·exact hk
  ·exact hi
theorem HtB.scale {m n B a c : Nat} {A : Nat → Nat → Rat} (ha : a < m) (hc : c < n) (h : HtB m n B A) {j : Nat} (hj : j < n) : htq ((A a c)⁻¹ * A a j) + 2 ≤ 2 * B := by
 have h1 := h a ha c hc
 have h2 := h a ha j hj
 have h3 := ht_mul (A a c)⁻¹ (A a j)
 have h4 := ht_inv (A a c)
 omega
theorem HtB.clear {m n B a c : Nat} {A : Nat → Nat → Rat} (ha : a < m) (hc : c < n) (h : HtB m n B A) : HtB m n (4 * B) (clearQ (scaleQ A a c) a c) := fun i hi j hj => by
 have h1 := h.scale ha hc hj
 unfold clearQ scaleQ setR
 dsimp only
 rw [if_pos rfl]
 split
 ·omega
 ·have h2 := h i hi j hj
  have h3 := h i hi c hc
  have h4 := ht_add (A i j) (-(A i c) * ((A a c)⁻¹ * A a j))
  have h5 := ht_mul (-(A i c)) ((A a c)⁻¹ * A a j)
  rw [ht_neg] at h5
  omega
theorem red_ht {m n s : Nat} {A : Nat → Nat → Rat} (h : HtB m n (s + 1) A) : ∀ c, c ≤ n → HtB m n (hE s (red m A c).2.1) (red m A c).1
 | 0, _ => by show HtB m n (hE s 0) A; rw [hE_zero]; exact h
 | c + 1, hc => by
  have ih := red_ht h c zo
  have am := (red_inv m A c).am
  show HtB m n (hE s (redStep m (red m A c) c).2.1) (redStep m (red m A c) c).1
  generalize red m A c = S at ih am
  unfold redStep
  have h1 := leadK_le (B := S.1) (c := c) (m - S.2.1) S.2.1
  split
  ·rename_i hk
   show HtB m n (hE s (S.2.1 + 1)) (clearQ (scaleQ _ S.2.1 c) S.2.1 c)
   rw [hE_succ]
   exact HtB.clear zo zo (ih.swap zo hk)
  ·exact ih
theorem red_htT {m n s : Nat} {A : Nat → Nat → Rat} (h : HtB m n (s + 1) A) {d : Nat} (hd : m ≤ d ∨ n ≤ d) (t : Nat) (ht : (s + 1) * 4 ^ d ≤ t) (c : Nat) (hc : c ≤ n) : HtB m n t (red m A c).1 := fun i hi j hj =>
 Nat.le_trans (red_ht h c hc i hi j hj) (hE_top (by have := (red_inv m A c).am; have := (red_inv m A c).ac; omega) t ht)
def szE (s c : Nat) : Nat := (s + 3) * 9 ^ c
theorem szE_succ (s c : Nat) : szE s (c + 1) = 9 * szE s c := by unfold szE; rw [Nat.pow_succ, ← Nat.mul_assoc, Nat.mul_comm]
theorem szE_ge (s c : Nat) : s + 3 ≤ szE s c := by
 unfold szE
 exact Nat.le_mul_of_pos_right _ (Nat.pow_pos (by decide))
theorem szE_top {s c : Nat} (hs : s ≤ 1000) (hc : c ≤ 6) : szE s c ≤ 533035323 := by
 unfold szE
 have h1 : 9 ^ c ≤ 9 ^ 6 := Nat.pow_le_pow_right (by decide) hc
 calc (s + 3) * 9 ^ c ≤ 1003 * 9 ^ 6 := Nat.mul_le_mul zo h1
  _ = 533035323 := by decide
structure DetI (s n : Nat) (q : Nat → Nat → Rat) (g : Nat × (Nat → Nat → Rat) × Rat) : Prop where
 le : g.1 ≤ n
 eq : g.2.2 * cdet (n - g.1) (blk g.1 g.2.1) = cdet n q
 sz : ∀ i, i < n → ∀ j, j < n → szq (g.2.1 i j) ≤ szE s g.1
 so : szq g.2.2 ≤ 2 + g.1 * szE s g.1
theorem blk_zero (A : Nat → Nat → Rat) : blk 0 A = A := by
 funext i j
 show A (0 + i) (0 + j) = A i j
 rw [Nat.zero_add, Nat.zero_add]
theorem DetI.start {s n : Nat} {q : Nat → Nat → Rat} (hs : ∀ i, i < n → ∀ j, j < n → szq (q i j) ≤ s) : DetI s n q (0, q, 1) :=
 ⟨Nat.zero_le n, by show (1 : Rat) * cdet (n - 0) (blk 0 q) = _; rw [blk_zero, Nat.sub_zero]; grind, fun i hi j hj => Nat.le_trans (hs i hi j hj) (by have := szE_ge s 0; show s ≤ szE s 0; omega), by show szq 1 ≤ 2 + 0 * _; rw [Nat.zero_mul]; decide +kernel⟩
theorem setR_ne {A : Nat → Nat → Rat} {r t : Nat} {x : Nat → Rat} (h : t ≠ r) : setR A r x t = A t := by funext j; exact if_neg h
theorem swap_self {A : Nat → Nat → Rat} {k : Nat} : swapR A k k = A := by
 funext i j
 show A (if i = k then k else if i = k then k else i) j = A i j
 by_cases z : i = k
 ·rw [if_pos z, z]
 ·rw [if_neg z, if_neg z]
theorem swap_sz {A : Nat → Nat → Rat} {k l n B : Nat} (hk : k < n) (hl : l < n) (h : ∀ i, i < n → ∀ j, j < n → szq (A i j) ≤ B) : ∀ i, i < n → ∀ j, j < n → szq (swapR A k l i j) ≤ B := fun i hi j hj => by
 show szq (A (if i = k then l else if i = l then k else i) j) ≤ B
 refine h _ ?_ j hj
 split
 ·exact hl
 ·split
  ·exact hk
  ·exact hi
theorem elim_sz1 {a b c d : Rat} {S : Nat} (h0 : 3 ≤ S) (ha : szq a ≤ S) (hb : szq b ≤ S) (hc : szq c ≤ S) (hd : szq d ≤ S) : szq (b / c) ≤ 2 * S + 1 ∧ szq (-(b / c) * d) ≤ 3 * S + 1 ∧ szq (a + -(b / c) * d) ≤ 9 * S := by
 have h1 : szq (b / c) ≤ 2 * S + 1 := by
  rw [Rat.div_def]
  have := szq_mul b c⁻¹
  have := szq_inv c
  omega
 have h2 : szq (-(b / c) * d) ≤ 3 * S + 1 := by
  have := szq_mul (-(b / c)) d
  rw [szq_neg] at this
  omega
 have h3 := szq_add a (-(b / c) * d)
 exact ⟨h1, h2, by omega⟩
theorem elim_szB {B : Nat → Nat → Rat} {c h n S : Nat} (h0 : 3 ≤ S) (hc : c < n) (hB : ∀ i, i < n → ∀ j, j < n → szq (B i j) ≤ S) : ∀ i, i < n → ∀ j, j < n → szq (elimQ B c h i j) ≤ 9 * S := fun i hi j hj => by
 unfold elimQ
 split
 ·exact (elim_sz1 h0 (hB i hi j hj) (hB i hi c hc) (hB c hc c hc) (hB c hc j hj)).2.2
 ·have := hB i hi j hj; omega
theorem DetI.next {s n K : Nat} {q : Nat → Nat → Rat} {g : Nat × (Nat → Nat → Rat) × Rat} (H : DetI s n q g) (hc : g.1 < n) (h1 : g.1 ≤ K) (h2 : K < n) (hp : g.2.1 K g.1 ≠ 0) :
  DetI s n q (g.1 + 1, elimQ (swapR g.2.1 g.1 K) g.1 n, (if K = g.1 then g.2.2 else -g.2.2) * swapR g.2.1 g.1 K g.1 g.1) := by
 have hsw := swap_sz hc h2 H.sz
 have h0 : 3 ≤ szE s g.1 := by have := szE_ge s g.1; omega
 have hpp : swapR g.2.1 g.1 K g.1 g.1 ≠ 0 := by
  show g.2.1 (if g.1 = g.1 then K else _) g.1 ≠ 0
  rw [if_pos rfl]; exact hp
 refine ⟨hc, ?_, fun i hi j hj => ?_, ?_⟩
 ·refine det_step hc hpp ?_
  by_cases e : K = g.1
  ·subst e; rw [if_pos rfl, swap_self]; exact H.eq
  ·rw [if_neg e, swap_det zo h2, ← H.eq]; grind
 ·rw [szE_succ]; exact elim_szB h0 hc hsw i hi j hj
 ·show szq (_ * _) ≤ 2 + (g.1 + 1) * szE s (g.1 + 1)
  have h3 := szq_mul (if K = g.1 then g.2.2 else -g.2.2) (swapR g.2.1 g.1 K g.1 g.1)
  have h4 : szq (if K = g.1 then g.2.2 else -g.2.2) = szq g.2.2 := by split; rfl; exact szq_neg _
  have h5 := hsw g.1 hc g.1 hc
  have h6 := H.so
  rw [szE_succ, Nat.add_mul, Nat.one_mul]
  have h7 : g.1 * szE s g.1 ≤ g.1 * (9 * szE s g.1) := Nat.mul_le_mul_left _ zo
  omega
theorem DetI.none {s n : Nat} {q : Nat → Nat → Rat} {g : Nat × (Nat → Nat → Rat) × Rat} (H : DetI s n q g) (hc : g.1 < n) (h : leadK g.2.1 g.1 g.1 (n - g.1) = n) : cdet n q = 0 := by
 rw [← H.eq]
 exact det_none hc fun i h1 h2 => leadK_none _ _ i h1 (by rw [h]; exact h2)
theorem DetI.done {s n : Nat} {q : Nat → Nat → Rat} {g : Nat × (Nat → Nat → Rat) × Rat} (H : DetI s n q g) (h : g.1 = n) : g.2.2 = cdet n q := by
 rw [← H.eq, h, Nat.sub_self]
 show _ = g.2.2 * 1
 grind
open Go.RowKit
def leadZ (q : Nat → Nat → Rat) (m a c : Nat) : Int := if leadK q c a (m - a) < m then (leadK q c a (m - a) : Int) else -1
theorem leadK_step {q : Nat → Nat → Rat} {m g c : Nat} (hg : g < m) (hz : q g c = 0) : leadK q c g (m - g) = leadK q c (g + 1) (m - (g + 1)) := by
 rw [show m - g = (m - (g + 1)) + 1 by omega]
 exact if_pos hz
theorem leadZ_hit {q : Nat → Nat → Rat} {m a g c : Nat} (hg : g < m) (e : leadK q c a (m - a) = leadK q c g (m - g)) (hz : q g c ≠ 0) : leadZ q m a c = (g : Int) := by
 have : leadK q c g (m - g) = g := by
  rw [show m - g = (m - (g + 1)) + 1 by omega]
  exact if_neg hz
 unfold leadZ
 rw [e, this, if_pos hg]
theorem leadZ_none {q : Nat → Nat → Rat} {m a c : Nat} (e : leadK q c a (m - a) = m) : leadZ q m a c = -1 := by
 unfold leadZ
 rw [e, if_neg (Nat.lt_irrefl m)]
theorem leadZ_pos {q : Nat → Nat → Rat} {m a c : Nat} (h : leadK q c a (m - a) < m) : leadZ q m a c = (leadK q c a (m - a) : Int) := if_pos h
theorem lead_no {q : Nat → Nat → Rat} {m a c : Nat} (h : leadZ q m a c < 0) : ¬ leadK q c a (m - a) < m := fun k => by rw [leadZ_pos k] at h; omega
theorem lead_yes {q : Nat → Nat → Rat} {m a c : Nat} (h : ¬ leadZ q m a c < 0) : leadK q c a (m - a) < m := by
 refine Classical.byContradiction fun k => h ?_
 unfold leadZ
 rw [if_neg k]; decide
theorem red_skip {m g : Nat} {q : Nat → Nat → Rat} (h : ¬ leadK (red m q g).1 g (red m q g).2.1 (m - (red m q g).2.1) < m) : red m q (g + 1) = red m q g := if_neg h
theorem red_step {m g : Nat} {q : Nat → Nat → Rat} (h : leadK (red m q g).1 g (red m q g).2.1 (m - (red m q g).2.1) < m) : red m q (g + 1) = (clearQ (scaleQ (swapR (red m q g).1 (red m q g).2.1 (leadK (red m q g).1 g (red m q g).2.1 (m - (red m q g).2.1))) (red m q g).2.1 g) (red m q g).2.1 g, (red m q g).2.1 + 1, fun i => if i = (red m q g).2.1 then g else (red m q g).2.2 i) := if_pos h
theorem clr_all {B : Nat → Nat → Rat} {a c h r j : Nat} (hr : r < h) : clrP B a c h r j = clearQ B a c r j := by
 unfold clrP clearQ
 by_cases e : r = a
 ·rw [if_neg fun h => h.2 e, if_pos e, e]
 ·rw [if_pos ⟨hr, e⟩, if_neg e]
theorem red_hit1 {m g h j c : Nat} {q : Nat → Nat → Rat} (k : leadK (red m q g).1 g (red m q g).2.1 (m - (red m q g).2.1) < m) (hj : j < h) : clrP (scaleQ (swapR (red m q g).1 (red m q g).2.1 (leadK (red m q g).1 g (red m q g).2.1 (m - (red m q g).2.1))) (red m q g).2.1 g) (red m q g).2.1 g h j c = (red m q (g + 1)).1 j c := by
 rw [red_step k]
 exact clr_all hj
theorem red_hit2 {m g : Nat} {q : Nat → Nat → Rat} (k : leadK (red m q g).1 g (red m q g).2.1 (m - (red m q g).2.1) < m) : (red m q g).2.1 + 1 = (red m q (g + 1)).2.1 := by rw [red_step k]
theorem red_hit3 {m g : Nat} {q : Nat → Nat → Rat} (k : leadK (red m q g).1 g (red m q g).2.1 (m - (red m q g).2.1) < m) : ∀ j0, j0 < (red m q g).2.1 → (SV.ex (.int .i64 (((red m q (g + 1)).2.2 j0 : Nat) : Int)) : SV) = .ex (.int .i64 (((red m q g).2.2 j0 : Nat) : Int)) := fun j0 hj => by
 rw [red_step k]
 show SV.ex (.int .i64 (((if j0 = (red m q g).2.1 then g else (red m q g).2.2 j0 : Nat) : Int))) = _
 rw [if_neg zo]
theorem red_hit4 {m g : Nat} {q : Nat → Nat → Rat} (k : leadK (red m q g).1 g (red m q g).2.1 (m - (red m q g).2.1) < m) : ∀ j0, j0 < 1 → (g : Int) = (((red m q (g + 1)).2.2 ((red m q g).2.1 + j0) : Nat) : Int) := fun j0 hj => by
 obtain rfl : j0 = 0 := by omega
 rw [red_step k]
 show (g : Int) = (((if (red m q g).2.1 + 0 = (red m q g).2.1 then g else _ : Nat)) : Int)
 rw [if_pos (Nat.add_zero _)]
theorem swap_at {A : Nat → Nat → Rat} {a k c : Nat} : A a c = swapR A a k k c := by
 show A a c = A (if k = a then k else if k = k then a else k) c
 by_cases e : k = a
 ·rw [if_pos e, e]
 ·rw [if_neg e, if_pos rfl]
theorem swap_other {A : Nat → Nat → Rat} {a k t : Nat} (h : t ≠ k) : swapR A a k t = setR A a (A k) t := by
 funext j
 show A (if t = a then k else if t = k then a else t) j = if t = a then A k j else A t j
 by_cases e : t = a
 ·rw [if_pos e, if_pos e]
 ·rw [if_neg e, if_neg h, if_neg e]
theorem scale_other {A : Nat → Nat → Rat} {a c t : Nat} (h : t ≠ a) : scaleQ A a c t = A t := setR_ne h
theorem clrP_zero {B : Nat → Nat → Rat} {a c r j : Nat} : B r j = clrP B a c 0 r j := (if_neg fun h => absurd h.1 (Nat.not_lt_zero r)).symm
theorem clrP_self {B : Nat → Nat → Rat} {a c h : Nat} : clrP B a c h a = B a := by funext j; exact if_neg fun h => h.2 rfl
theorem clrP_now {B : Nat → Nat → Rat} {a c h : Nat} : clrP B a c h h = B h := by funext j; exact if_neg fun h => absurd h.1 (Nat.lt_irrefl _)
theorem clrP_ne {B : Nat → Nat → Rat} {a c h t : Nat} (e : t ≠ h) : clrP B a c (h + 1) t = clrP B a c h t := by
 funext j
 unfold clrP
 by_cases q : t < h ∧ t ≠ a
 ·rw [if_pos q, if_pos ⟨by omega, q.2⟩]
 ·rw [if_neg q, if_neg zo]
theorem clrP_at {B : Nat → Nat → Rat} {a c h j : Nat} (e : h ≠ a) : clrP B a c h h j + -(clrP B a c h h c) * clrP B a c h a j = clrP B a c (h + 1) h j := by
 rw [clrP_now, clrP_self]
 exact (if_pos ⟨Nat.lt_succ_self h, e⟩).symm
theorem clrP_skip {B : Nat → Nat → Rat} {a c h t j : Nat} (z : h = a ∨ clrP B a c h h c = 0) : clrP B a c h t j = clrP B a c (h + 1) t j := by
 by_cases e : t = h
 ·subst e
  rw [clrP_now] at z ⊢
  unfold clrP
  by_cases q : t = a
  ·rw [if_neg fun k => k.2 q]
  ·rw [if_pos ⟨Nat.lt_succ_self t, q⟩, z.resolve_left q]; grind
 ·rw [clrP_ne e]
theorem clr_yes {h a : Nat} {x : Rat} (e : (bif !decide ((h : Int) = (a : Int)) then !decide (x = 0) else false) = true) : h ≠ a ∧ x ≠ 0 := by
 by_cases q : h = a
 ·subst q; simp at e
 ·refine ⟨q, fun z => ?_⟩
  subst z; simp at e
theorem clr_no {h a : Nat} {x : Rat} (e : (bif !decide ((h : Int) = (a : Int)) then !decide (x = 0) else false) = false) : h = a ∨ x = 0 := by
 by_cases q : h = a
 ·exact .inl q
 ·refine .inr (Classical.byContradiction fun z => ?_)
  have : ¬ ((h : Int) = (a : Int)) := by omega
  simp [this, z] at e
theorem inv_room {m n a c : Nat} {A : Nat → Nat → Rat} (h : HtB m n 100000000 A) (ha : a < m) (hc : c < n) : szq (A a c) ≤ 17179869184 := by
 have := h a ha c hc
 have := sz_ht (A a c)
 omega
theorem scale_room {m n a c : Nat} {A : Nat → Nat → Rat} (h : HtB m n 100000000 A) (ha : a < m) (hc : c < n) : ∀ j, j < n → szq (A a c)⁻¹ + szq (A a j) ≤ 17179869184 := fun j hj => by
 have h1 := h a ha c hc
 have h2 := h a ha j hj
 exact ht_room (S := 100000000) (by have := ht_inv (A a c); omega) zo (by decide)
theorem clr_room {m n a c h : Nat} {A : Nat → Nat → Rat} (H : HtB m n 100000000 A) (ha : a < m) (hc : c < n) (hh : h < m) (e : h ≠ a) : ∀ j, j < n → szq (-(clrP (scaleQ A a c) a c h h c)) + szq (clrP (scaleQ A a c) a c h a j) ≤ 17179869184 ∧ szq (clrP (scaleQ A a c) a c h h j) + szq (-(clrP (scaleQ A a c) a c h h c) * clrP (scaleQ A a c) a c h a j) ≤ 17179869184 := fun j hj => by
 rw [clrP_now, clrP_self, scale_other e]
 have h1 := H.scale ha hc hj
 have h2 := H h hh j hj
 have h3 := H h hh c hc
 have h4 : htq (scaleQ A a c a j) ≤ 200000000 := by
  show htq (if a = a then _ else _) ≤ _
  rw [if_pos rfl]; omega
 exact ht_room2 (S := 200000000) zo h4 (by rw [ht_neg]; omega) (by decide)
theorem of_guard {P : Prop} [Decidable P] (h : (decide P == true) = true) : P := by simpa using h
theorem swap_same {A : Nat → Nat → Rat} {a k i j : Nat} (h : k = a) : swapR A a k i j = A i j := by rw [h, swap_self]
theorem elim_now {B : Nat → Nat → Rat} {c h j : Nat} (hc : c < h) : elimQ B c h h j + -(elimQ B c h h c / elimQ B c h c c) * elimQ B c h c j = elimQ B c (h + 1) h j := by
 rw [elimQ_end (Nat.le_refl h), elimQ_top (Nat.le_refl c)]
 exact elimQ_at hc
theorem sRowsOf {q : Nat → Nat → Rat} {m n : Nat} (hm : m ≤ 68719476736) (hn : n ≤ 68719476736) : CallOK Tryz.prog 65 [.agg (.cn (.sl 1 (mE q n) m) (.cn (.ex (.int .i64 (n : Int))) (.nl)))] (.own 0 0) [.one (.row 69 1 (mE q n) m)] := by
 exact kP (ch := [.reg 2 [(1, .callS (.ex (.int .i64 (m : Int))) [])], .loop 3 (Nat) (fun g => g ≤ m) (fun g => m - g) (fun g => ⟨[(1, .own 0 0), (3, .own 1 0), (8, .ex (.int .i64 (m : Int))), (9, .ex (.int .i64 (g : Int)))], [(0, .one (.var 32 (.agg (.cn (.sl 1 (mE q n) m) (.cn (.ex (.int .i64 (n : Int))) (.nl)))))), (1, .one (.row 69 1 (mE q n) g))], 2⟩) [(0, .id 0), (1, .nil)] (fun _ => [(0, .id 0), (1, .id 2)]) (fun g => [.reg 5 [(2, .callS (.cn (.sl 3 (fun i0 => .rat (q g i0)) n) (.cn (.ex (.bool true)) (.nl))) [])], .reg 6 [(3, .row 0 (mE q n))], .reg 7 [(0, .z ((g + 1 : Nat) : Int))], .ret 8 [(0, .id 1)]])]) Tryz.func65 ((∀ j0, j0 < m → (∀ j1, j1 < n → True)) ∧ _ ∧ (((fun X1 X2 X3 X4 X5 X6 : Prop => ∃ g0 : Nat, X1 ∧ X2 ∧ X3 ∧ ((0 : Int) = (g0 : Int)) ∧ X4 ∧ X5 ∧ X6 ∧ ((g0 : Nat) = 0) ∧ (g0 ≤ m)) _ _ _ _ _ _) ∧ ∀ g : Nat, (g ≤ m) → (((decide ((g : Int) < (m : Int))) = true → _ ∧ (g + 1 ≤ 68719476736) ∧ _ ∧ _ ∧ _ ∧ ((fun X1 X2 X3 X4 X5 X6 X7 : Prop => ∃ g1 : Nat, X1 ∧ X2 ∧ X3 ∧ (((g + 1 : Nat) : Int) = (g1 : Int)) ∧ X4 ∧ X5 ∧ X6 ∧ ((g + 1 : Nat) = g1) ∧ X7 ∧ (g1 ≤ m) ∧ (m - g1 < m - g)) _ _ _ _ _ _ _)) ∧ ((decide ((g : Int) < (m : Int))) = false → (_ ∧ ((g : Nat) = m) ∧ _)))))
  ⟨(fun _ _ => (fun _ _ => trivial)), sMatRows (m := m) (n := n) (q := q), ⟨0, (rf 0), (rf 0), (rf (m : Int)), zo, (rf m), (leS (mE q n) m), (rf (n : Int)), zo, zo⟩, fun g hg => ⟨fun hc10 => have hc10 := dT hc10; ⟨sMatRow (m := m) (n := n) (r := g) (q := q) zo zo, zo, (oldS (mE q n) g), (newS (mE q n) g), (wI (g := g) zo), g + 1, (rf 0), (rf 0), (rf (m : Int)), zo, (rf m), (leS (mE q n) m), (rf (n : Int)), zo, (leS (mE q n) (g + 1)), zo, zo⟩, fun hc10 => have hc10 := dF hc10; have hi2 : g = m := zo; ⟨(rf 0), hi2, (leS (mE q n) g)⟩⟩⟩
theorem sLead {q : Nat → Nat → Rat} {m n a c : Nat} (hm : m ≤ 68719476736) (ha : a ≤ m) (hc : c < n) : CallOK Tryz.prog 66 [.sl 1 (mE q n) m, .ex (.int .i64 (a : Int)), .ex (.int .i64 (c : Int))] (.ex (.int .i64 (leadZ q m a c))) [] := by
 exact kP (ch := [.loop 2 (Nat) (fun g => a ≤ g ∧ g ≤ m ∧ leadK q c a (m - a) = leadK q c g (m - g)) (fun g => m - g) (fun g => ⟨[(0, .sl 1 (mE q n) m), (2, .ex (.int .i64 (c : Int))), (7, .ex (.int .i64 (g : Int)))], [], 0⟩) [] (fun _ => []) (fun g => [.reg 4 [(2, .k g), (5, .k c), (7, .callS (.ex (.bool (decide (q g c = 0)))) [])], .reg 3 [(1, .z ((g + 1 : Nat) : Int))]])]) Tryz.func66 ((∀ j0, j0 < m → (∀ j1, j1 < n → True)) ∧ (((fun X1 X2 X3 : Prop => ∃ g0 : Nat, X1 ∧ X2 ∧ X3 ∧ ((a : Int) = (g0 : Int)) ∧ (a ≤ g0 ∧ g0 ≤ m ∧ leadK q c a (m - a) = leadK q c g0 (m - g0))) _ _ _) ∧ ∀ g : Nat, (a ≤ g ∧ g ≤ m ∧ leadK q c a (m - a) = leadK q c g (m - g)) → (((decide ((g : Int) < (m : Int))) = true → _ ∧ (g < m) ∧ _ ∧ (c < n) ∧ _ ∧ (((!(decide (q g c = 0))) = true → (((g : Int) = (leadZ q m a c)))) ∧ ((!(decide (q g c = 0))) = false → _ ∧ ((fun X1 X2 X3 : Prop => ∃ g1 : Nat, X1 ∧ X2 ∧ X3 ∧ (((g + 1 : Nat) : Int) = (g1 : Int)) ∧ (a ≤ g1 ∧ g1 ≤ m ∧ leadK q c a (m - a) = leadK q c g1 (m - g1)) ∧ (m - g1 < m - g)) _ _ _)))) ∧ ((decide ((g : Int) < (m : Int))) = false → (((-1 : Int) = (leadZ q m a c)))))))
  ⟨(fun _ _ => (fun _ _ => trivial)), ⟨a, (rf m), (leS (mE q n) m), (rf (c : Int)), zo, by omega, by omega, rfl⟩, fun g hg => have hg1 := hg.2.1; ⟨fun hc12 => have hc12 := dT hc12; ⟨(rf (g : Int)), zo, (rf (c : Int)), zo, sRatZero (q := q g c), fun hc23 => have hz : q g c ≠ 0 := (by simpa using hc23); (leadZ_hit zo hg.2.2 hz).symm, fun hc23 => have hz : q g c = 0 := (by simpa using hc23); ⟨(wI (g := g) zo), g + 1, (rf m), (leS (mE q n) m), (rf (c : Int)), zo, ⟨by omega, by omega, hg.2.2.trans (leadK_step zo hz)⟩, zo⟩⟩, fun hc12 => have hc12 := dF hc12; have hi2 : g = m := zo; (leadZ_none (hg.2.2.trans (by rw [hi2, Nat.sub_self]; rfl))).symm⟩⟩
theorem sReduced {q : Nat → Nat → Rat} {m n : Nat} (hm : m ≤ 64) (hn : n ≤ 64) (hs : ∀ c, c ≤ n → HtB m n 100000000 (red m q c).1) : CallOK Tryz.prog 61 [.agg (.cn (.sl 1 (mE q n) m) (.cn (.ex (.int .i64 (n : Int))) (.nl)))] (.cn (.agg (.cn (.sl 1 (mE ((red m q n).1) n) m) (.cn (.ex (.int .i64 (n : Int))) (.nl)))) (.cn (.sl 1 (fun i0 => .ex (.int .i64 (((red m q n).2.2 i0 : Nat) : Int))) ((red m q n).2.1)) (.nl))) [] := by
 exact kP (ch := [.reg 1 [(1, .callS (.own 0 0) [.one (.row 69 1 (mE q n) m)])], .reg 3 [(1, .callS (.ex (.int .i64 (n : Int))) [])], .loop 4 (Nat) (fun g => g ≤ n) (fun g => n - g) (fun g => ⟨[(1, .own 0 0), (2, .own 1 0), (4, .own 2 0), (17, .ex (.int .i64 (n : Int))), (18, .ex (.int .i64 (g : Int))), (5, .own 4 0)], [(0, .one (.var 32 (.agg (.cn (.sl 1 (mE q n) m) (.cn (.ex (.int .i64 (n : Int))) (.nl)))))), (1, .one (.var 32 (.ex (.agg #[.slice none 0 0, .int .i64 0])))), (2, .one (.row 69 1 (mE (red m q g).1 n) m)), (4, .one (.row 3 1 (fun i0 => .ex (.int .i64 (((red m q g).2.2 i0 : Nat) : Int))) ((red m q g).2.1)))], 5⟩) [(0, .id 0), (1, .id 1), (2, .id 2), (4, .nil)] (fun _ => [(0, .id 0), (1, .id 1), (2, .id 2), (4, .id 4)]) (fun g => [.reg 7 [(3, .callS (.ex (.int .i64 (leadZ ((red m q g).1) m ((red m q g).2.1) g))) [])], .reg 19 [(0, .z ((g + 1 : Nat) : Int))], .reg 9 [(6, .k (leadK (red m q g).1 g (red m q g).2.1 (m - (red m q g).2.1))), (10, .k ((red m q g).2.1)), (12, .k ((red m q g).2.1)), (13, .row 0 (mE (setR (red m q g).1 (red m q g).2.1 ((red m q g).1 (leadK (red m q g).1 g (red m q g).2.1 (m - (red m q g).2.1)))) n)), (14, .k (leadK (red m q g).1 g (red m q g).2.1 (m - (red m q g).2.1))), (15, .row 0 (mE (swapR (red m q g).1 (red m q g).2.1 (leadK (red m q g).1 g (red m q g).2.1 (m - (red m q g).2.1))) n))], .reg 10 [(2, .k ((red m q g).2.1)), (5, .k g), (7, .callS (.cn (.rat (((swapR (red m q g).1 (red m q g).2.1 (leadK (red m q g).1 g (red m q g).2.1 (m - (red m q g).2.1))) ((red m q g).2.1) g)⁻¹)) (.cn (.ex (.bool (!decide (((swapR (red m q g).1 (red m q g).2.1 (leadK (red m q g).1 g (red m q g).2.1 (m - (red m q g).2.1))) ((red m q g).2.1) g) = 0)))) (.nl))) [])], .reg 11 [(5, .k ((red m q g).2.1)), (7, .callS (.sl 3 (fun i0 => .rat ((((swapR (red m q g).1 (red m q g).2.1 (leadK (red m q g).1 g (red m q g).2.1 (m - (red m q g).2.1))) ((red m q g).2.1) g)⁻¹) * ((swapR (red m q g).1 (red m q g).2.1 (leadK (red m q g).1 g (red m q g).2.1 (m - (red m q g).2.1))) ((red m q g).2.1) i0))) n) []), (8, .k ((red m q g).2.1)), (9, .row 0 (mE (scaleQ (swapR (red m q g).1 (red m q g).2.1 (leadK (red m q g).1 g (red m q g).2.1 (m - (red m q g).2.1))) (red m q g).2.1 g) n))], .loop 13 (Nat) (fun h => h ≤ m) (fun h => m - h) (fun h => ⟨[(1, .own 0 0), (2, .own 1 0), (4, .own 2 0), (17, .ex (.int .i64 (n : Int))), (18, .ex (.int .i64 (g : Int))), (5, .own 4 0), (6, .ex (.int .i64 (g : Int))), (7, .ex (.int .i64 (((red m q g).2.1 : Nat) : Int))), (64, .ex (.int .i64 (m : Int))), (65, .ex (.int .i64 (h : Int)))], [(0, .one (.var 32 (.agg (.cn (.sl 1 (mE q n) m) (.cn (.ex (.int .i64 (n : Int))) (.nl)))))), (1, .one (.var 32 (.ex (.agg #[.slice none 0 0, .int .i64 0])))), (2, .one (.row 69 1 (mE (clrP (scaleQ (swapR (red m q g).1 (red m q g).2.1 (leadK (red m q g).1 g (red m q g).2.1 (m - (red m q g).2.1))) (red m q g).2.1 g) (red m q g).2.1 g h) n) m)), (4, .one (.row 3 1 (fun i0 => .ex (.int .i64 (((red m q g).2.2 i0 : Nat) : Int))) ((red m q g).2.1)))], 5⟩) [(0, .id 0), (1, .id 1), (2, .id 2), (4, .id 4)] (fun _ => [(0, .id 0), (1, .id 1), (2, .id 2), (4, .id 4)]) (fun h => [.reg 15 [(6, .k h), (9, .k g), (11, .callS (.ex (.bool (decide ((clrP (scaleQ (swapR (red m q g).1 (red m q g).2.1 (leadK (red m q g).1 g (red m q g).2.1 (m - (red m q g).2.1))) (red m q g).2.1 g) (red m q g).2.1 g h) h g = 0)))) [])], .reg 16 [(4, .k h), (8, .k h), (11, .k g), (13, .callS (.rat (-((clrP (scaleQ (swapR (red m q g).1 (red m q g).2.1 (leadK (red m q g).1 g (red m q g).2.1 (m - (red m q g).2.1))) (red m q g).2.1 g) (red m q g).2.1 g h) h g))) []), (16, .k ((red m q g).2.1)), (18, .callS (.cn (.sl 3 (fun i0 => .rat (((clrP (scaleQ (swapR (red m q g).1 (red m q g).2.1 (leadK (red m q g).1 g (red m q g).2.1 (m - (red m q g).2.1))) (red m q g).2.1 g) (red m q g).2.1 g h) h i0) + (-((clrP (scaleQ (swapR (red m q g).1 (red m q g).2.1 (leadK (red m q g).1 g (red m q g).2.1 (m - (red m q g).2.1))) (red m q g).2.1 g) (red m q g).2.1 g h) h g)) * ((clrP (scaleQ (swapR (red m q g).1 (red m q g).2.1 (leadK (red m q g).1 g (red m q g).2.1 (m - (red m q g).2.1))) (red m q g).2.1 g) (red m q g).2.1 g h) ((red m q g).2.1) i0))) n) (.cn (.ex (.bool true)) (.nl))) []), (22, .k h), (23, .row 0 (mE (clrP (scaleQ (swapR (red m q g).1 (red m q g).2.1 (leadK (red m q g).1 g (red m q g).2.1 (m - (red m q g).2.1))) (red m q g).2.1 g) (red m q g).2.1 g (h + 1)) n))], .reg 17 [(0, .z ((h + 1 : Nat) : Int))], .reg 17 [(0, .z ((h + 1 : Nat) : Int))], .conv 18 [(0, .id 0), (1, .id 1), (2, .id 2), (3, .id 4)] ⟨[(1, .own 0 0), (2, .own 1 0), (4, .own 2 0), (17, .ex (.int .i64 (n : Int))), (18, .ex (.int .i64 (g : Int))), (5, .own 3 0), (6, .ex (.int .i64 (g : Int)))], [(0, .one (.var 32 (.agg (.cn (.sl 1 (mE q n) m) (.cn (.ex (.int .i64 (n : Int))) (.nl)))))), (1, .one (.var 32 (.ex (.agg #[.slice none 0 0, .int .i64 0])))), (2, .one (.row 69 1 (mE (red m q (g + 1)).1 n) m)), (3, .one (.row 3 1 (fun i0 => .ex (.int .i64 (((red m q g).2.2 i0 : Nat) : Int))) ((red m q g).2.1)))], 4⟩, .reg 18 [(3, .row 0 (fun i0 => .ex (.int .i64 (((red m q (g + 1)).2.2 i0 : Nat) : Int))))], .reg 19 [(0, .z ((g + 1 : Nat) : Int))]]), .conv 20 [(0, .id 0), (1, .id 1)] ⟨[(1, .own 0 0), (2, .own 1 0), (4, .sl 1 (mE ((red m q n).1) n) m), (5, .sl 1 (fun i0 => .ex (.int .i64 (((red m q n).2.2 i0 : Nat) : Int))) ((red m q n).2.1))], [(0, .one (.var 32 (.agg (.cn (.sl 1 (mE q n) m) (.cn (.ex (.int .i64 (n : Int))) (.nl)))))), (1, .one (.var 32 (.ex (.agg #[.slice none 0 0, .int .i64 0]))))], 2⟩, .reg 20 [(1, .callS (.ex (.int .i64 (n : Int))) []), (3, .callS (.cn (.agg (.cn (.sl 1 (mE ((red m q n).1) n) m) (.cn (.ex (.int .i64 (n : Int))) (.nl)))) (.cn (.ex (.bool true)) (.nl))) [])]])]) Tryz.func61 ((∀ j0, j0 < m → (∀ j1, j1 < n → True)) ∧ _ ∧ _ ∧ (((fun X1 X2 X3 X4 X5 X6 X7 X8 X9 : Prop => ∃ g0 : Nat, X1 ∧ X2 ∧ X3 ∧ X4 ∧ ((0 : Int) = (g0 : Int)) ∧ X5 ∧ X6 ∧ X7 ∧ X8 ∧ ((.agg #[.slice none 0 0, .int .i64 0] : Value) = .agg #[.slice none 0 0, .int .i64 0]) ∧ X9 ∧ (∀ j0, j0 < m → ((n : Nat) = n) ∧ (∀ j1, j1 < n → ((q j0 j1 : Rat) = ((red m q g0).1 j0 j1)))) ∧ (((red m q g0).2.1 : Nat) = 0) ∧ (g0 ≤ n)) _ _ _ _ _ _ _ _ _) ∧ ∀ g : Nat, (g ≤ n) → (((decide ((g : Int) < (n : Int))) = true → _ ∧ (((decide ((leadZ ((red m q g).1) m ((red m q g).2.1) g : Int) < 0)) = true → _ ∧ ((fun X1 X2 X3 X4 X5 X6 X7 X8 X9 : Prop => ∃ g1 : Nat, X1 ∧ X2 ∧ X3 ∧ X4 ∧ (((g + 1 : Nat) : Int) = (g1 : Int)) ∧ X5 ∧ X6 ∧ X7 ∧ X8 ∧ ((.agg #[.slice none 0 0, .int .i64 0] : Value) = .agg #[.slice none 0 0, .int .i64 0]) ∧ X9 ∧ (∀ j0, j0 < m → ((n : Nat) = n) ∧ (∀ j1, j1 < n → (((red m q g).1 j0 j1 : Rat) = ((red m q g1).1 j0 j1)))) ∧ (((red m q g).2.1 : Nat) = ((red m q g1).2.1)) ∧ (∀ j0, j0 < ((red m q g).2.1) → ((((red m q g).2.2 j0 : Nat) : Int) = (((red m q g1).2.2 j0 : Nat) : Int))) ∧ (g1 ≤ n) ∧ (n - g1 < n - g)) _ _ _ _ _ _ _ _ _)) ∧ ((decide ((leadZ ((red m q g).1) m ((red m q g).2.1) g : Int) < 0)) = false → ((leadZ ((red m q g).1) m ((red m q g).2.1) g : Int) = (((leadK (red m q g).1 g (red m q g).2.1 (m - (red m q g).2.1)) : Nat) : Int)) ∧ ((leadK (red m q g).1 g (red m q g).2.1 (m - (red m q g).2.1)) < m) ∧ ((leadK (red m q g).1 g (red m q g).2.1 (m - (red m q g).2.1)) < m) ∧ _ ∧ (((red m q g).2.1) < m) ∧ (((red m q g).2.1) < m) ∧ _ ∧ (((red m q g).2.1) < m) ∧ (((red m q g).2.1) < m) ∧ (((n : Nat) = n) ∧ (∀ j0, j0 < n → (((red m q g).1 (leadK (red m q g).1 g (red m q g).2.1 (m - (red m q g).2.1)) j0 : Rat) = ((setR (red m q g).1 (red m q g).2.1 ((red m q g).1 (leadK (red m q g).1 g (red m q g).2.1 (m - (red m q g).2.1)))) ((red m q g).2.1) j0)))) ∧ (∀ t, t < m → t ≠ ((red m q g).2.1) → (.sl 3 (fun i0 => .rat ((setR (red m q g).1 (red m q g).2.1 ((red m q g).1 (leadK (red m q g).1 g (red m q g).2.1 (m - (red m q g).2.1)))) t i0)) n : SV) = .sl 3 (fun i0 => .rat ((red m q g).1 t i0)) n) ∧ ((leadZ ((red m q g).1) m ((red m q g).2.1) g : Int) = (((leadK (red m q g).1 g (red m q g).2.1 (m - (red m q g).2.1)) : Nat) : Int)) ∧ ((leadK (red m q g).1 g (red m q g).2.1 (m - (red m q g).2.1)) < m) ∧ ((leadK (red m q g).1 g (red m q g).2.1 (m - (red m q g).2.1)) < m) ∧ (((n : Nat) = n) ∧ (∀ j0, j0 < n → (((red m q g).1 ((red m q g).2.1) j0 : Rat) = ((swapR (red m q g).1 (red m q g).2.1 (leadK (red m q g).1 g (red m q g).2.1 (m - (red m q g).2.1))) (leadK (red m q g).1 g (red m q g).2.1 (m - (red m q g).2.1)) j0)))) ∧ (∀ t, t < m → t ≠ (leadK (red m q g).1 g (red m q g).2.1 (m - (red m q g).2.1)) → (.sl 3 (fun i0 => .rat ((swapR (red m q g).1 (red m q g).2.1 (leadK (red m q g).1 g (red m q g).2.1 (m - (red m q g).2.1))) t i0)) n : SV) = .sl 3 (fun i0 => .rat ((setR (red m q g).1 (red m q g).2.1 ((red m q g).1 (leadK (red m q g).1 g (red m q g).2.1 (m - (red m q g).2.1)))) t i0)) n) ∧ _ ∧ (((red m q g).2.1) < m) ∧ (((red m q g).2.1) < m) ∧ _ ∧ (g < n) ∧ _ ∧ _ ∧ (((red m q g).2.1) < m) ∧ (((red m q g).2.1) < m) ∧ _ ∧ _ ∧ (((red m q g).2.1) < m) ∧ (((red m q g).2.1) < m) ∧ (((n : Nat) = n) ∧ (∀ j0, j0 < n → (((((swapR (red m q g).1 (red m q g).2.1 (leadK (red m q g).1 g (red m q g).2.1 (m - (red m q g).2.1))) ((red m q g).2.1) g)⁻¹) * ((swapR (red m q g).1 (red m q g).2.1 (leadK (red m q g).1 g (red m q g).2.1 (m - (red m q g).2.1))) ((red m q g).2.1) j0) : Rat) = ((scaleQ (swapR (red m q g).1 (red m q g).2.1 (leadK (red m q g).1 g (red m q g).2.1 (m - (red m q g).2.1))) (red m q g).2.1 g) ((red m q g).2.1) j0)))) ∧ (∀ t, t < m → t ≠ ((red m q g).2.1) → (.sl 3 (fun i0 => .rat ((scaleQ (swapR (red m q g).1 (red m q g).2.1 (leadK (red m q g).1 g (red m q g).2.1 (m - (red m q g).2.1))) (red m q g).2.1 g) t i0)) n : SV) = .sl 3 (fun i0 => .rat ((swapR (red m q g).1 (red m q g).2.1 (leadK (red m q g).1 g (red m q g).2.1 (m - (red m q g).2.1))) t i0)) n) ∧ (((fun X1 X2 X3 X4 X5 X6 X7 X8 X9 X10 X11 X12 X13 X14 X15 : Prop => ∃ h0 : Nat, X1 ∧ X2 ∧ X3 ∧ X4 ∧ X5 ∧ X6 ∧ X7 ∧ X8 ∧ X9 ∧ ((0 : Int) = (h0 : Int)) ∧ X10 ∧ X11 ∧ X12 ∧ ((.agg #[.slice none 0 0, .int .i64 0] : Value) = .agg #[.slice none 0 0, .int .i64 0]) ∧ X13 ∧ (∀ j0, j0 < m → ((n : Nat) = n) ∧ (∀ j1, j1 < n → (((scaleQ (swapR (red m q g).1 (red m q g).2.1 (leadK (red m q g).1 g (red m q g).2.1 (m - (red m q g).2.1))) (red m q g).2.1 g) j0 j1 : Rat) = ((clrP (scaleQ (swapR (red m q g).1 (red m q g).2.1 (leadK (red m q g).1 g (red m q g).2.1 (m - (red m q g).2.1))) (red m q g).2.1 g) (red m q g).2.1 g h0) j0 j1)))) ∧ X14 ∧ X15 ∧ (h0 ≤ m)) _ _ _ _ _ _ _ _ _ _ _ _ _ _ _) ∧ ∀ h : Nat, (h ≤ m) → (((decide ((h : Int) < (m : Int))) = true → (((!decide ((h : Int) = (((red m q g).2.1 : Nat) : Int))) == true) = true → ((!decide ((h : Int) = (((red m q g).2.1 : Nat) : Int))) == true) = true) ∧ (((!decide ((h : Int) = (((red m q g).2.1 : Nat) : Int))) == true) = true → ((!decide ((h : Int) = (((red m q g).2.1 : Nat) : Int))) == true) = true) ∧ (((!decide ((h : Int) = (((red m q g).2.1 : Nat) : Int))) == true) = true → _) ∧ (((!decide ((h : Int) = (((red m q g).2.1 : Nat) : Int))) == true) = true → h < m) ∧ (((!decide ((h : Int) = (((red m q g).2.1 : Nat) : Int))) == true) = true → ((!decide ((h : Int) = (((red m q g).2.1 : Nat) : Int))) == true) = true) ∧ (((!decide ((h : Int) = (((red m q g).2.1 : Nat) : Int))) == true) = true → h < m) ∧ (((!decide ((h : Int) = (((red m q g).2.1 : Nat) : Int))) == true) = true → ((!decide ((h : Int) = (((red m q g).2.1 : Nat) : Int))) == true) = true) ∧ (((!decide ((h : Int) = (((red m q g).2.1 : Nat) : Int))) == true) = true → ((!decide ((h : Int) = (((red m q g).2.1 : Nat) : Int))) == true) = true) ∧ (((!decide ((h : Int) = (((red m q g).2.1 : Nat) : Int))) == true) = true → _) ∧ (((!decide ((h : Int) = (((red m q g).2.1 : Nat) : Int))) == true) = true → g < n) ∧ (((!decide ((h : Int) = (((red m q g).2.1 : Nat) : Int))) == true) = true → ((!decide ((h : Int) = (((red m q g).2.1 : Nat) : Int))) == true) = true) ∧ (((!decide ((h : Int) = (((red m q g).2.1 : Nat) : Int))) == true) = true → ((!decide ((h : Int) = (((red m q g).2.1 : Nat) : Int))) == true) = true) ∧ (((!decide ((h : Int) = (((red m q g).2.1 : Nat) : Int))) == true) = true → _) ∧ (((!decide ((h : Int) = (((red m q g).2.1 : Nat) : Int))) == true) = true → ((!decide ((h : Int) = (((red m q g).2.1 : Nat) : Int))) == true) = true) ∧ ((!decide ((h : Int) = (((red m q g).2.1 : Nat) : Int))) = true → ((!decide ((h : Int) = (((red m q g).2.1 : Nat) : Int))) == true) = true) ∧ (((bif (!decide ((h : Int) = (((red m q g).2.1 : Nat) : Int))) then (!(decide ((clrP (scaleQ (swapR (red m q g).1 (red m q g).2.1 (leadK (red m q g).1 g (red m q g).2.1 (m - (red m q g).2.1))) (red m q g).2.1 g) (red m q g).2.1 g h) h g = 0))) else false) = true → _ ∧ (h < m) ∧ (h < m) ∧ _ ∧ (h < m) ∧ (h < m) ∧ _ ∧ (g < n) ∧ _ ∧ _ ∧ (((red m q g).2.1) < m) ∧ (((red m q g).2.1) < m) ∧ _ ∧ _ ∧ (h < m) ∧ (h < m) ∧ (((n : Nat) = n) ∧ (∀ j0, j0 < n → ((((clrP (scaleQ (swapR (red m q g).1 (red m q g).2.1 (leadK (red m q g).1 g (red m q g).2.1 (m - (red m q g).2.1))) (red m q g).2.1 g) (red m q g).2.1 g h) h j0) + (-((clrP (scaleQ (swapR (red m q g).1 (red m q g).2.1 (leadK (red m q g).1 g (red m q g).2.1 (m - (red m q g).2.1))) (red m q g).2.1 g) (red m q g).2.1 g h) h g)) * ((clrP (scaleQ (swapR (red m q g).1 (red m q g).2.1 (leadK (red m q g).1 g (red m q g).2.1 (m - (red m q g).2.1))) (red m q g).2.1 g) (red m q g).2.1 g h) ((red m q g).2.1) j0) : Rat) = ((clrP (scaleQ (swapR (red m q g).1 (red m q g).2.1 (leadK (red m q g).1 g (red m q g).2.1 (m - (red m q g).2.1))) (red m q g).2.1 g) (red m q g).2.1 g (h + 1)) h j0)))) ∧ (∀ t, t < m → t ≠ h → (.sl 3 (fun i0 => .rat ((clrP (scaleQ (swapR (red m q g).1 (red m q g).2.1 (leadK (red m q g).1 g (red m q g).2.1 (m - (red m q g).2.1))) (red m q g).2.1 g) (red m q g).2.1 g (h + 1)) t i0)) n : SV) = .sl 3 (fun i0 => .rat ((clrP (scaleQ (swapR (red m q g).1 (red m q g).2.1 (leadK (red m q g).1 g (red m q g).2.1 (m - (red m q g).2.1))) (red m q g).2.1 g) (red m q g).2.1 g h) t i0)) n) ∧ _ ∧ ((fun X1 X2 X3 X4 X5 X6 X7 X8 X9 X10 X11 X12 X13 X14 X15 : Prop => ∃ h1 : Nat, X1 ∧ X2 ∧ X3 ∧ X4 ∧ X5 ∧ X6 ∧ X7 ∧ X8 ∧ X9 ∧ (((h + 1 : Nat) : Int) = (h1 : Int)) ∧ X10 ∧ X11 ∧ X12 ∧ ((.agg #[.slice none 0 0, .int .i64 0] : Value) = .agg #[.slice none 0 0, .int .i64 0]) ∧ X13 ∧ (∀ j0, j0 < m → ((n : Nat) = n) ∧ (∀ j1, j1 < n → (((clrP (scaleQ (swapR (red m q g).1 (red m q g).2.1 (leadK (red m q g).1 g (red m q g).2.1 (m - (red m q g).2.1))) (red m q g).2.1 g) (red m q g).2.1 g (h + 1)) j0 j1 : Rat) = ((clrP (scaleQ (swapR (red m q g).1 (red m q g).2.1 (leadK (red m q g).1 g (red m q g).2.1 (m - (red m q g).2.1))) (red m q g).2.1 g) (red m q g).2.1 g h1) j0 j1)))) ∧ X14 ∧ X15 ∧ (h1 ≤ m) ∧ (m - h1 < m - h)) _ _ _ _ _ _ _ _ _ _ _ _ _ _ _)) ∧ ((bif (!decide ((h : Int) = (((red m q g).2.1 : Nat) : Int))) then (!(decide ((clrP (scaleQ (swapR (red m q g).1 (red m q g).2.1 (leadK (red m q g).1 g (red m q g).2.1 (m - (red m q g).2.1))) (red m q g).2.1 g) (red m q g).2.1 g h) h g = 0))) else false) = false → _ ∧ ((fun X1 X2 X3 X4 X5 X6 X7 X8 X9 X10 X11 X12 X13 X14 X15 : Prop => ∃ h1 : Nat, X1 ∧ X2 ∧ X3 ∧ X4 ∧ X5 ∧ X6 ∧ X7 ∧ X8 ∧ X9 ∧ (((h + 1 : Nat) : Int) = (h1 : Int)) ∧ X10 ∧ X11 ∧ X12 ∧ ((.agg #[.slice none 0 0, .int .i64 0] : Value) = .agg #[.slice none 0 0, .int .i64 0]) ∧ X13 ∧ (∀ j0, j0 < m → ((n : Nat) = n) ∧ (∀ j1, j1 < n → (((clrP (scaleQ (swapR (red m q g).1 (red m q g).2.1 (leadK (red m q g).1 g (red m q g).2.1 (m - (red m q g).2.1))) (red m q g).2.1 g) (red m q g).2.1 g h) j0 j1 : Rat) = ((clrP (scaleQ (swapR (red m q g).1 (red m q g).2.1 (leadK (red m q g).1 g (red m q g).2.1 (m - (red m q g).2.1))) (red m q g).2.1 g) (red m q g).2.1 g h1) j0 j1)))) ∧ X14 ∧ X15 ∧ (h1 ≤ m) ∧ (m - h1 < m - h)) _ _ _ _ _ _ _ _ _ _ _ _ _ _ _)))) ∧ ((decide ((h : Int) < (m : Int))) = false → _ ∧ _ ∧ _ ∧ _ ∧ _ ∧ _ ∧ _ ∧ _ ∧ _ ∧ _ ∧ ((.agg #[.slice none 0 0, .int .i64 0] : Value) = .agg #[.slice none 0 0, .int .i64 0]) ∧ _ ∧ (∀ j0, j0 < m → ((n : Nat) = n) ∧ (∀ j1, j1 < n → (((clrP (scaleQ (swapR (red m q g).1 (red m q g).2.1 (leadK (red m q g).1 g (red m q g).2.1 (m - (red m q g).2.1))) (red m q g).2.1 g) (red m q g).2.1 g h) j0 j1 : Rat) = ((red m q (g + 1)).1 j0 j1)))) ∧ _ ∧ _ ∧ (((red m q g).2.1) + 1 ≤ 68719476736) ∧ (∀ j0, j0 < ((red m q g).2.1) → (.ex (.int .i64 (((red m q (g + 1)).2.2 j0 : Nat) : Int)) : SV) = .ex (.int .i64 (((red m q g).2.2 j0 : Nat) : Int))) ∧ (∀ j0, j0 < 1 → ((g : Int) = (((red m q (g + 1)).2.2 (((red m q g).2.1) + j0) : Nat) : Int))) ∧ _ ∧ ((fun X1 X2 X3 X4 X5 X6 X7 X8 X9 : Prop => ∃ g1 : Nat, X1 ∧ X2 ∧ X3 ∧ X4 ∧ (((g + 1 : Nat) : Int) = (g1 : Int)) ∧ X5 ∧ X6 ∧ X7 ∧ X8 ∧ ((.agg #[.slice none 0 0, .int .i64 0] : Value) = .agg #[.slice none 0 0, .int .i64 0]) ∧ X9 ∧ (∀ j0, j0 < m → ((n : Nat) = n) ∧ (∀ j1, j1 < n → (((red m q (g + 1)).1 j0 j1 : Rat) = ((red m q g1).1 j0 j1)))) ∧ ((((red m q g).2.1) + 1 : Nat) = ((red m q g1).2.1)) ∧ (∀ j0, j0 < (((red m q g).2.1) + 1) → ((((red m q (g + 1)).2.2 j0 : Nat) : Int) = (((red m q g1).2.2 j0 : Nat) : Int))) ∧ (g1 ≤ n) ∧ (n - g1 < n - g)) _ _ _ _ _ _ _ _ _))))))) ∧ ((decide ((g : Int) < (n : Int))) = false → _ ∧ _ ∧ _ ∧ (∀ j0, j0 < m → ((n : Nat) = n) ∧ (∀ j1, j1 < n → (((red m q g).1 j0 j1 : Rat) = (((red m q n).1) j0 j1)))) ∧ (((red m q g).2.1 : Nat) = ((red m q n).2.1)) ∧ (∀ j0, j0 < ((red m q g).2.1) → ((((red m q g).2.2 j0 : Nat) : Int) = (((red m q n).2.2 j0 : Nat) : Int))) ∧ _ ∧ _ ∧ _ ∧ ((.agg #[.slice none 0 0, .int .i64 0] : Value) = .agg #[.slice none 0 0, .int .i64 0]) ∧ _ ∧ _ ∧ (_ ∧ _ ∧ _ ∧ _ ∧ _)))))
  ⟨(fun _ _ => (fun _ _ => trivial)), sRowsOf (m := m) (n := n) (q := q) zo zo, sMatCols (m := m) (n := n) (q := q), ⟨0, (rf 0), (rf 0), (rf 0), (rf (n : Int)), zo, (rf 0), (rf m), (leS (mE q n) m), (rf (n : Int)), rfl, (rf m), (fun j0 hj0 => ⟨rfl, (fun j1 hj1 => rfl)⟩), rfl, zo⟩, fun g hg => have H1 := (red_inv m q g).am; have H2 := (red_inv m q g).ac; ⟨fun hc19 => have hc19 := dT hc19; ⟨sLead (m := m) (n := n) (a := (red m q g).2.1) (c := g) (q := ((red m q g).1)) zo zo zo, fun hc28 => have hc28 := dT hc28; have hk2 := lead_no hc28; ⟨(wI (g := g) zo), g + 1, (rf 0), (rf 0), (rf 0), (rf (n : Int)), zo, (rf 0), (rf m), (leS (mE q n) m), (rf (n : Int)), rfl, (rf m), (fun j0 hj0 => ⟨rfl, (fun j1 hj1 => (by first | rfl | rw [red_skip hk2]))⟩), (by first | exact red_hit2 hk2 | rw [red_skip hk2]), (fun j0 hj0 => (by first | rfl | rw [red_skip hk2])), zo, zo⟩, fun hc28 => have hc28 := dF hc28; have hk2 := lead_yes hc28; have hk1 := leadK_le (B := (red m q g).1) (c := g) (m - (red m q g).2.1) (red m q g).2.1; have ha : (red m q g).2.1 < m := zo; have H3 := hs g zo; have H4 := H3.swap (k := (red m q g).2.1) ha hk2; have H5 := fun j hj => H4.scale (c := g) (j := j) ha zo hj; ⟨(leadZ_pos hk2), zo, zo, (rf (((red m q g).2.1 : Nat) : Int)), zo, zo, (rf (((red m q g).2.1 : Nat) : Int)), zo, zo, ⟨rfl, (fun j0 hj0 => (if_pos rfl).symm)⟩, (fun t ht hne => by simp only [setR_ne hne]), (leadZ_pos hk2), zo, zo, ⟨rfl, (fun j0 hj0 => (swap_at))⟩, (fun t ht hne => by simp only [swap_other hne]), (rf (((red m q g).2.1 : Nat) : Int)), zo, zo, (rf (g : Int)), zo, sRatInv (q := (swapR (red m q g).1 (red m q g).2.1 (leadK (red m q g).1 g (red m q g).2.1 (m - (red m q g).2.1))) ((red m q g).2.1) g) (inv_room H4 ha zo), (rf (((red m q g).2.1 : Nat) : Int)), zo, zo, (sVecScale (n := n) (a := (swapR (red m q g).1 (red m q g).2.1 (leadK (red m q g).1 g (red m q g).2.1 (m - (red m q g).2.1))) ((red m q g).2.1)) (r := (((swapR (red m q g).1 (red m q g).2.1 (leadK (red m q g).1 g (red m q g).2.1 (m - (red m q g).2.1))) ((red m q g).2.1) g)⁻¹)) zo (scale_room H4 ha zo)).frzV, (rf (((red m q g).2.1 : Nat) : Int)), zo, zo, ⟨rfl, (fun j0 hj0 => (if_pos rfl).symm)⟩, (fun t ht hne => by simp only [scale_other hne]), ⟨0, (rf 0), (rf 0), (rf 0), (rf (n : Int)), (rf (g : Int)), (rf 0), (rf (g : Int)), (rf (((red m q g).2.1 : Nat) : Int)), (rf (m : Int)), zo, (rf m), (leS (mE q n) m), (rf (n : Int)), rfl, (rf m), (fun j0 hj0 => ⟨rfl, (fun j1 hj1 => clrP_zero)⟩), (rf ((red m q g).2.1 : Nat)), (leS (fun i0 => .ex (.int .i64 (((red m q g).2.2 i0 : Nat) : Int))) ((red m q g).2.1)), zo⟩, fun h hh => ⟨fun hc66 => have hc66 := dT hc66; ⟨id, id, (fun hg => (rf (h : Int))), (fun hg => zo), id, (fun hg => zo), id, id, (fun hg => (rf (g : Int))), (fun hg => zo), id, id, (fun hg => sRatZero (q := (clrP (scaleQ (swapR (red m q g).1 (red m q g).2.1 (leadK (red m q g).1 g (red m q g).2.1 (m - (red m q g).2.1))) (red m q g).2.1 g) (red m q g).2.1 g h) h g)), id, (by simp), fun hc81 => have hz := clr_yes hc81; ⟨(rf (h : Int)), zo, zo, (rf (h : Int)), zo, zo, (rf (g : Int)), zo, sRatNeg (q := (clrP (scaleQ (swapR (red m q g).1 (red m q g).2.1 (leadK (red m q g).1 g (red m q g).2.1 (m - (red m q g).2.1))) (red m q g).2.1 g) (red m q g).2.1 g h) h g), (rf (((red m q g).2.1 : Nat) : Int)), zo, zo, (sVecAddTimes (a := (clrP (scaleQ (swapR (red m q g).1 (red m q g).2.1 (leadK (red m q g).1 g (red m q g).2.1 (m - (red m q g).2.1))) (red m q g).2.1 g) (red m q g).2.1 g h) h) (b := (clrP (scaleQ (swapR (red m q g).1 (red m q g).2.1 (leadK (red m q g).1 g (red m q g).2.1 (m - (red m q g).2.1))) (red m q g).2.1 g) (red m q g).2.1 g h) ((red m q g).2.1)) (n := n) (r := - ((clrP (scaleQ (swapR (red m q g).1 (red m q g).2.1 (leadK (red m q g).1 g (red m q g).2.1 (m - (red m q g).2.1))) (red m q g).2.1 g) (red m q g).2.1 g h) h g)) zo (clr_room H4 ha zo zo hz.1)).frzV2, (rf (h : Int)), zo, zo, ⟨rfl, (fun j0 hj0 => (clrP_at hz.1))⟩, (fun t ht hne => by simp only [clrP_ne hne]), (wI (g := h) zo), h + 1, (rf 0), (rf 0), (rf 0), (rf (n : Int)), (rf (g : Int)), (rf 0), (rf (g : Int)), (rf (((red m q g).2.1 : Nat) : Int)), (rf (m : Int)), zo, (rf m), (leS (mE q n) m), (rf (n : Int)), rfl, (rf m), (fun j0 hj0 => ⟨rfl, (fun j1 hj1 => (by first | rfl | exact clrP_skip hz))⟩), (rf ((red m q g).2.1 : Nat)), (leS (fun i0 => .ex (.int .i64 (((red m q g).2.2 i0 : Nat) : Int))) ((red m q g).2.1)), zo, zo⟩, fun hc81 => have hz := clr_no hc81; ⟨(wI (g := h) zo), h + 1, (rf 0), (rf 0), (rf 0), (rf (n : Int)), (rf (g : Int)), (rf 0), (rf (g : Int)), (rf (((red m q g).2.1 : Nat) : Int)), (rf (m : Int)), zo, (rf m), (leS (mE q n) m), (rf (n : Int)), rfl, (rf m), (fun j0 hj0 => ⟨rfl, (fun j1 hj1 => (by first | rfl | exact clrP_skip hz))⟩), (rf ((red m q g).2.1 : Nat)), (leS (fun i0 => .ex (.int .i64 (((red m q g).2.2 i0 : Nat) : Int))) ((red m q g).2.1)), zo, zo⟩⟩, fun hc66 => have hc66 := dF hc66; have hi3 : h = m := zo; ⟨(rf 0), (rf 0), (rf 0), (rf (n : Int)), (rf (g : Int)), (rf 0), (rf (g : Int)), (rf m), (leS (mE q n) m), (rf (n : Int)), rfl, (rf m), (fun j0 hj0 => ⟨rfl, (fun j1 hj1 => (red_hit1 hk2 zo))⟩), (rf ((red m q g).2.1 : Nat)), (leS (fun i0 => .ex (.int .i64 (((red m q g).2.2 i0 : Nat) : Int))) ((red m q g).2.1)), zo, (red_hit3 hk2), (red_hit4 hk2), (wI (g := g) zo), g + 1, (rf 0), (rf 0), (rf 0), (rf (n : Int)), zo, (rf 0), (rf m), (leS (mE q n) m), (rf (n : Int)), rfl, (rf m), (fun j0 hj0 => ⟨rfl, (fun j1 hj1 => (by first | rfl | rw [red_skip hk2]))⟩), (by first | exact red_hit2 hk2 | rw [red_skip hk2]), (fun j0 hj0 => (by first | rfl | rw [red_skip hk2])), zo, zo⟩⟩⟩⟩, fun hc19 => have hc19 := dF hc19; have hi2 : g = n := zo; ⟨(rf 0), (rf 0), (rf m), (fun j0 hj0 => ⟨rfl, (fun j1 hj1 => (by rw [hi2]))⟩), (by rw [hi2]), (fun j0 hj0 => (by rw [hi2])), (rf m), (leS (mE q n) m), (rf (n : Int)), rfl, sMatCols (m := m) (n := n) (q := q), (sMatOf (m := m) (n := n) (q := fun r c => ((red m q n).1) r c) zo zo), (rf m), (leS (mE ((red m q n).1) n) m), (rf (n : Int)), (rf ((red m q n).2.1 : Nat)), (leS (fun i0 => .ex (.int .i64 (((red m q n).2.2 i0 : Nat) : Int))) ((red m q n).2.1))⟩⟩⟩
def sw (c k i : Nat) : Nat := if i = c then k else if i = k then c else i
theorem sw_sw (c k i : Nat) : sw c k (sw c k i) = i := by
 unfold sw
 by_cases h : i = c
 ·rw [if_pos h]
  by_cases e : k = c
  ·rw [if_pos e]; omega
  ·rw [if_neg e, if_pos rfl]; omega
 ·rw [if_neg h]
  by_cases e : i = k
  ·rw [if_pos e, if_pos rfl]; omega
  ·rw [if_neg e, if_neg h, if_neg e]
theorem sw_lt {c k i n : Nat} (hc : c < n) (hk : k < n) (hi : i < n) : sw c k i < n := by unfold sw; split; exact hk; split; exact hc; exact hi
theorem sw_c {c k : Nat} : sw c k c = k := if_pos rfl
theorem sw_same (c i : Nat) : sw c c i = i := by unfold sw; split; omega; rfl
theorem swapR_sw (A : Nat → Nat → Rat) (c k i : Nat) : swapR A c k i = A (sw c k i) := rfl
def pSw (P : Nat → Nat) (c k i : Nat) : Nat := P (sw c k i)
def rSw (ρ : Nat → Nat) (c k j : Nat) : Nat := sw c k (ρ j)
structure Bij (n : Nat) (P ρ : Nat → Nat) : Prop where
 lt : ∀ i, i < n → P i < n
 lt' : ∀ i, i < n → ρ i < n
 inv : ∀ i, ρ (P i) = i
 inv' : ∀ i, P (ρ i) = i
theorem Bij.id {n : Nat} : Bij n (fun i => i) (fun i => i) := ⟨fun _ h => h, fun _ h => h, fun _ => rfl, fun _ => rfl⟩
theorem Bij.sw {n c k : Nat} {P ρ : Nat → Nat} (H : Bij n P ρ) (hc : c < n) (hk : k < n) : Bij n (pSw P c k) (rSw ρ c k) :=
 ⟨fun i hi => H.lt _ (sw_lt hc hk hi), fun i hi => sw_lt hc hk (H.lt' i hi), fun i => by unfold pSw rSw; rw [H.inv, sw_sw], fun i => by unfold pSw rSw; rw [sw_sw, H.inv']⟩
theorem Bij.inj {n : Nat} {P ρ : Nat → Nat} (H : Bij n P ρ) {i j : Nat} (e : P i = P j) : i = j := by rw [← H.inv i, e, H.inv]
def lowQ (L U : Nat → Nat → Rat) (c h : Nat) : Nat → Nat → Rat := fun i j => if j = c ∧ c ≤ i ∧ i < h then (if i = c then 1 else U i c / U c c) else L i j
section
variable {L U : Nat → Nat → Rat} {c h i j : Nat}
theorem lowQ_corner : (1 : Rat) = lowQ L U c (c + 1) c c := by
 unfold lowQ; rw [if_pos ⟨rfl, Nat.le_refl c, Nat.lt_succ_self c⟩, if_pos rfl]
theorem lowQ_at (hc : c < h) : U h c / U c c = lowQ L U c (h + 1) h c := by
 unfold lowQ; rw [if_pos ⟨rfl, by omega, Nat.lt_succ_self h⟩, if_neg zo]
theorem lowQ_col (e : j ≠ c) : lowQ L U c h i j = L i j := if_neg fun k => e k.1
theorem lowQ_row (e : i ≠ h) : lowQ L U c (h + 1) i = lowQ L U c h i := by
 funext j
 unfold lowQ
 by_cases q : j = c ∧ c ≤ i ∧ i < h
 ·rw [if_pos q, if_pos ⟨q.1, q.2.1, by omega⟩]
 ·rw [if_neg q, if_neg fun k => q ⟨k.1, k.2.1, by omega⟩]
theorem lowQ_sames : lowQ L U c c = L := by funext i j; exact if_neg zo
end
abbrev LuS := (Nat → Nat → Rat) × (Nat → Nat → Rat) × (Nat → Nat) × (Nat → Nat) × Bool
def luK (n : Nat) (s : LuS) (c : Nat) : Nat := leadK s.1 c c (n - c)
def luStep (n : Nat) (s : LuS) (c : Nat) : LuS :=
 (elimQ (swapR s.1 c (luK n s c)) c n, lowQ (swapR s.2.1 c (luK n s c)) (swapR s.1 c (luK n s c)) c n, pSw s.2.2.1 c (luK n s c), rSw s.2.2.2.1 c (luK n s c), if luK n s c = c then s.2.2.2.2 else !s.2.2.2.2)
def luS (n : Nat) (A : Nat → Nat → Rat) : Nat → LuS
 | 0 => (A, fun _ _ => 0, fun i => i, fun i => i, false)
 | c + 1 => luStep n (luS n A c) c
def luOK (n : Nat) (A : Nat → Nat → Rat) (c : Nat) : Prop := ∀ k, k < c → luK n (luS n A k) k < n
theorem luK_ge {n c : Nat} {s : LuS} : c ≤ luK n s c := (leadK_le _ _).1
theorem lu_bij {n : Nat} {A : Nat → Nat → Rat} : ∀ c, c ≤ n → luOK n A c → Bij n (luS n A c).2.2.1 (luS n A c).2.2.2.1
 | 0, _, _ => Bij.id
 | c + 1, hc, h => (lu_bij c zo fun k hk => h k zo).sw hc (h c (Nat.lt_succ_self c))
theorem HtB.elim {n B c : Nat} {A : Nat → Nat → Rat} (hc : c < n) (h : HtB n n B A) (k : Nat) : HtB n n (4 * B) (elimQ A c k) := fun i hi j hj => by
 have h1 := h i hi j hj
 unfold elimQ
 split
 ·have h2 := h i hi c hc
  have h3 := h c hc c hc
  have h4 := h c hc j hj
  have h5 := ht_add (A i j) (-(A i c / A c c) * A c j)
  have h6 := ht_mul (-(A i c / A c c)) (A c j)
  have h7 := ht_div (A i c) (A c c)
  rw [ht_neg] at h6
  omega
 ·omega
theorem lu_ht {n s : Nat} {A : Nat → Nat → Rat} (h : HtB n n (s + 1) A) : ∀ c, c ≤ n → luOK n A c → HtB n n (hE s c) (luS n A c).1
 | 0, _, _ => by rw [hE_zero]; exact h
 | c + 1, hc, hk => by
  rw [hE_succ]
  exact HtB.elim zo ((lu_ht h c zo fun k hk2 => hk k zo).swap zo (hk c (Nat.lt_succ_self c))) n
structure LuInv (n : Nat) (A : Nat → Nat → Rat) (c : Nat) (s : LuS) : Prop where
 one : ∀ k, k < c → s.2.1 k k = 1
 above : ∀ i k, i < n → i < k → s.2.1 i k = 0
 left : ∀ i k, i < n → c ≤ k → s.2.1 i k = 0
 below : ∀ i k, i < n → k < c → k < i → s.1 i k = 0
 piv : ∀ k, k < c → s.1 k k ≠ 0
 eq : ∀ i, i < n → ∀ j, j < n → A (s.2.2.1 i) j = (if c ≤ i then s.1 i j else 0) + sumQ (fun k => s.2.1 i k * s.1 k j) c
theorem lu_inv {n : Nat} {A : Nat → Nat → Rat} : ∀ c, c ≤ n → luOK n A c → LuInv n A c (luS n A c)
 | 0, _, _ => ⟨fun _ h => absurd h (Nat.not_lt_zero _), fun _ _ _ _ => rfl, fun _ _ _ _ => rfl, fun _ _ _ h => absurd h (Nat.not_lt_zero _), fun _ h => absurd h (Nat.not_lt_zero _), fun i _ j _ => by
  rw [if_pos (Nat.zero_le i)]; show A i j = A i j + 0; grind⟩
 | c + 1, hc, hok => by
  have H := lu_inv c zo fun k hk => hok k zo
  have hK := hok c (Nat.lt_succ_self c)
  have hge := luK_ge (n := n) (s := luS n A c) (c := c)
  have hpv : (luS n A c).1 (luK n (luS n A c) c) c ≠ 0 := leadK_at _ _ (show leadK _ c c (n - c) < _ by have : luK n (luS n A c) c < n := hK; unfold luK at this; omega)
  show LuInv n A (c + 1) (luStep n (luS n A c) c)
  unfold luStep
  generalize luK n (luS n A c) c = K at hK hge hpv
  generalize luS n A c = s at H hpv
  obtain ⟨U, L, P, ρ, o⟩ := s
  have eU : ∀ i j, elimQ (swapR U c K) c n i j = if c < i ∧ i < n then U (sw c K i) j + -(U (sw c K i) c / U (sw c K c) c) * U (sw c K c) j else U (sw c K i) j := fun _ _ => rfl
  have eL : ∀ i j, lowQ (swapR L c K) (swapR U c K) c n i j = if j = c ∧ c ≤ i ∧ i < n then (if i = c then 1 else U (sw c K i) c / U (sw c K c) c) else L (sw c K i) j := fun _ _ => rfl
  have slt : ∀ i, i < n → sw c K i < n := fun i hi => sw_lt zo hK hi
  have stop : ∀ i, i < c → sw c K i = i := fun i hi => by unfold sw; rw [if_neg zo, if_neg zo]
  have sge : ∀ i, c ≤ i → c ≤ sw c K i := fun i hi => by unfold sw; split; exact hge; split; omega; exact hi
  have h1 := H.one; have h2 := H.above; have h3 := H.left; have h4 := H.below; have h5 := H.piv; have h6 := H.eq
  simp only at h1 h2 h3 h4 h5 h6 hpv
  refine ⟨fun k hk => ?_, fun i k hi hik => ?_, fun i k hi hk => ?_, fun i k hi hk hki => ?_, fun k hk => ?_, fun i hi j hj => ?_⟩ <;> (try dsimp only) <;> (try rw [eL]) <;> (try rw [eU])
  ·by_cases e : k = c
   ·rw [if_pos ⟨e, by omega, by omega⟩, if_pos e]
   ·rw [if_neg zo, stop k zo]; exact h1 k zo
  ·by_cases e : k = c ∧ c ≤ i ∧ i < n
   ·omega
   ·rw [if_neg e]
    by_cases q : c ≤ k
    ·exact h3 _ k (slt i hi) q
    ·rw [stop i zo]; exact h2 i k hi hik
  ·rw [if_neg zo]; exact h3 _ k (slt i hi) zo
  ·by_cases e : k = c
   ·subst e
    rw [if_pos ⟨hki, hi⟩, sw_c, Rat.neg_mul, Rat.div_mul_cancel hpv]; grind
   ·have hz : ∀ i, c ≤ i → i < n → U i k = 0 := fun i h7 h8 => h4 i k h8 zo zo
    split
    ·rename_i q
     rw [hz _ (sge i zo) (slt i hi), sw_c, hz K hge hK]; grind
    ·by_cases q : c ≤ i
     ·rw [hz _ (sge i q) (slt i hi)]
     ·rw [stop i zo]; exact h4 i k hi zo hki
  ·rw [if_neg zo]
   by_cases e : k = c
   ·rw [e, sw_c]; exact hpv
   ·rw [stop k zo]; exact h5 k zo
  ·show A (P (sw c K i)) j = (if c + 1 ≤ i then elimQ (swapR U c K) c n i j else 0) + (sumQ (fun k => lowQ (swapR L c K) (swapR U c K) c n i k * elimQ (swapR U c K) c n k j) c + lowQ (swapR L c K) (swapR U c K) c n i c * elimQ (swapR U c K) c n c j)
   have e1 : sumQ (fun k => lowQ (swapR L c K) (swapR U c K) c n i k * elimQ (swapR U c K) c n k j) c = sumQ (fun k => L (sw c K i) k * U k j) c := sumQ_congr c fun k hk => by
    rw [eL, eU, if_neg zo, if_neg zo, stop k hk]
   have e2 : elimQ (swapR U c K) c n c j = U K j := by rw [eU, if_neg zo, sw_c]
   rw [h6 _ (slt i hi) j hj, e1, e2]
   generalize sumQ (fun k => L (sw c K i) k * U k j) c = S
   by_cases q : i < c
   ·have e3 : lowQ (swapR L c K) (swapR U c K) c n i c = 0 := by rw [eL, if_neg zo, stop i q]; exact h3 i c hi (Nat.le_refl c)
    rw [if_neg (by have := stop i q; omega), if_neg zo, e3]; grind
   ·rw [if_pos (sge i zo)]
    by_cases e : i = c
    ·have e3 : lowQ (swapR L c K) (swapR U c K) c n i c = 1 := by rw [eL, if_pos ⟨rfl, by omega, hi⟩, if_pos e]
     rw [if_neg zo, e3, e, sw_c]; grind
    ·have e3 : lowQ (swapR L c K) (swapR U c K) c n i c = U (sw c K i) c / U K c := by rw [eL, if_pos ⟨rfl, by omega, hi⟩, if_neg e, sw_c]
     have e4 : elimQ (swapR U c K) c n i j = U (sw c K i) j + -(U (sw c K i) c / U K c) * U K j := by rw [eU, if_pos ⟨by omega, hi⟩, sw_c]
     rw [if_pos zo, e3, e4]; grind
theorem lu_prod {n : Nat} {A : Nat → Nat → Rat} (h : luOK n A n) {i j : Nat} (hi : i < n) (hj : j < n) : A ((luS n A n).2.2.1 i) j = sumQ (fun k => (luS n A n).2.1 i k * (luS n A n).1 k j) n := by
 have := (lu_inv (A := A) n (Nat.le_refl n) h).eq i hi j hj
 rw [if_neg zo] at this
 rw [this]; grind
open Go.RowKit
def setN (P : Nat → Nat) (c x i : Nat) : Nat := if i = c then x else P i
theorem setN_ne {P : Nat → Nat} {c x i : Nat} (h : i ≠ c) : setN P c x i = P i := if_neg h
theorem pSw_at {P : Nat → Nat} {c g : Nat} : P c = pSw P c g g := by
 unfold pSw sw
 by_cases e : g = c
 ·rw [if_pos e, e]
 ·rw [if_neg e, if_pos rfl]
theorem pSw_other {P : Nat → Nat} {c g t : Nat} (h : t ≠ g) : pSw P c g t = setN P c (P g) t := by
 unfold pSw sw setN
 by_cases e : t = c
 ·rw [if_pos e, if_pos e]
 ·rw [if_neg e, if_neg h, if_neg e]
theorem pSw_same {P : Nat → Nat} {c g t : Nat} (h : g = c) : pSw P c g t = P t := by unfold pSw; rw [h, sw_same]
theorem elimQ_zero0 {B : Nat → Nat → Rat} {c i j : Nat} : B i j = elimQ B c c i j := (if_neg zo).symm
theorem elimQ_from {B : Nat → Nat → Rat} {c i j : Nat} : elimQ B c c i j = elimQ B c (c + 1) i j := elimQ_zero0.symm.trans elimQ_zero
theorem low_conv {L U : Nat → Nat → Rat} {ρ : Nat → Nat} {c g j k : Nat} : L (ρ j) k = lowQ (swapR L c g) U c c (rSw ρ c g j) k := by
 rw [lowQ_sames, swapR_sw, rSw, sw_sw]
theorem lowQ_now2 {L B : Nat → Nat → Rat} {c h : Nat} (hc : c < h) : elimQ B c h h c / elimQ B c h c c = lowQ L B c (h + 1) h c := by
 rw [elimQ_end (Nat.le_refl h), elimQ_top (Nat.le_refl c), lowQ_at hc]
theorem rSw_ne {n c g t x : Nat} {P ρ : Nat → Nat} (H : Bij n (pSw P c g) (rSw ρ c g)) (h : t ≠ pSw P c g x) : rSw ρ c g t ≠ x := fun e => h (by rw [← e, H.inv'])
theorem step_yes {n g c : Nat} {U : Nat → Nat → Rat} (h : (bif decide ((g : Int) < (n : Int)) then decide (U g c = 0) else false) = true) : g < n ∧ U g c = 0 := by
 obtain ⟨h1, h2⟩ := bif_true h
 exact ⟨by omega, h2⟩
theorem step_no {n g c : Nat} {U : Nat → Nat → Rat} (hg : g ≤ n) (h : (bif decide ((g : Int) < (n : Int)) then decide (U g c = 0) else false) = false) : leadK U c g (n - g) = g := by
 have h2 := bif_false h
 refine leadK_eq _ _ _ (Nat.le_refl _) zo (fun i h3 h4 => by omega) fun h3 z => h2 ⟨by omega, z⟩
theorem step_K {n g c : Nat} {U L : Nat → Nat → Rat} {P ρ : Nat → Nat} {o : Bool} (h1 : leadK U c c (n - c) = leadK U c g (n - g)) (h2 : leadK U c g (n - g) = g) : luK n (U, L, P, ρ, o) c = g := h1.trans h2
theorem div_room {n c h B : Nat} {A : Nat → Nat → Rat} (H : HtB n n B A) (hc : c < n) (h2 : h < n) (hB : B ≤ 100000000 := by decide) : szq (elimQ A c h h c) + szq (elimQ A c h c c) + 1 ≤ 17179869184 := by
 rw [elimQ_end (Nat.le_refl h), elimQ_top (Nat.le_refl c)]
 have := H h h2 c hc
 have := H c hc c hc
 have := sz_ht (A h c)
 have := sz_ht (A c c)
 omega
theorem lu_room {n c h B : Nat} {A : Nat → Nat → Rat} (H : HtB n n B A) (hc : c < n) (h2 : h < n) (hB : B ≤ 100000000 := by decide) : ∀ j, j < n → szq (-(elimQ A c h h c / elimQ A c h c c)) + szq (elimQ A c h c j) ≤ 17179869184 ∧ szq (elimQ A c h h j) + szq (-(elimQ A c h h c / elimQ A c h c c) * elimQ A c h c j) ≤ 17179869184 := fun j hj => by
 rw [elimQ_end (Nat.le_refl h), elimQ_top (Nat.le_refl c)]
 have e1 := H h h2 c hc
 have e2 := H c hc c hc
 have e3 := H h h2 j hj
 have e4 := H c hc j hj
 have e5 := ht_div (A h c) (A c c)
 exact ht_room2 (S := 200000000) zo zo (by rw [ht_neg]; omega) (by decide)
section
variable {n g c : Nat} {U L : Nat → Nat → Rat} {P ρ : Nat → Nat} {o : Bool}
theorem lu_U (h : luK n (U, L, P, ρ, o) c = g) : (luStep n (U, L, P, ρ, o) c).1 = elimQ (swapR U c g) c n := by unfold luStep; rw [h]
theorem lu_L (h : luK n (U, L, P, ρ, o) c = g) : (luStep n (U, L, P, ρ, o) c).2.1 = lowQ (swapR L c g) (swapR U c g) c n := by unfold luStep; rw [h]
theorem lu_P (h : luK n (U, L, P, ρ, o) c = g) : (luStep n (U, L, P, ρ, o) c).2.2.1 = pSw P c g := by unfold luStep; rw [h]
theorem lu_R (h : luK n (U, L, P, ρ, o) c = g) : (luStep n (U, L, P, ρ, o) c).2.2.2.1 = rSw ρ c g := by unfold luStep; rw [h]
theorem lu_o (h : luK n (U, L, P, ρ, o) c = g) : (luStep n (U, L, P, ρ, o) c).2.2.2.2 = if g = c then o else !o := by unfold luStep; rw [h]
end
theorem sLuStep {U L : Nat → Nat → Rat} {P ρ : Nat → Nat} {o : Bool} {n c : Nat} (hn : n ≤ 68719476736) (hc : c < n) (hB : Bij n P ρ) (hH : HtB n n 100000000 U) (hk : luK n (U, L, P, ρ, o) c < n) : CallOKm Tryz.prog 81 [.one (.var 120 (.agg (.cn (.own 1 0) (.cn (.own 2 0) (.cn (.own 3 0) (.cn (.ex (.bool o)) (.nl))))))), .one (.row 69 1 (fun i0 => .own 4 (P i0)) n), .one (.row 69 1 (mE U n) n), .one (.row 3 1 (fun i0 => .ex (.int .i64 (P i0 : Int))) n), .fam n (fun i0 => .row 55 3 (fun i1 => .rat (L (ρ i0) i1)) n)] [.own 0 0, .ex (.int .i64 (c : Int))] (.ex (.bool true)) [.one (.var 120 (.agg (.cn (.own 5 0) (.cn (.own 6 0) (.cn (.own 7 0) (.cn (.ex (.bool ((luStep n (U, L, P, ρ, o) c).2.2.2.2))) (.nl))))))), .dead, .dead, .dead, .dead, .one (.row 69 1 (fun i0 => .own 8 ((luStep n (U, L, P, ρ, o) c).2.2.1 i0)) n), .one (.row 69 1 (mE ((luStep n (U, L, P, ρ, o) c).1) n) n), .one (.row 3 1 (fun i0 => .ex (.int .i64 (((luStep n (U, L, P, ρ, o) c).2.2.1 i0 : Nat) : Int))) n), .fam n (fun i0 => .row 55 3 (fun i1 => .rat ((luStep n (U, L, P, ρ, o) c).2.1 ((luStep n (U, L, P, ρ, o) c).2.2.2.1 i0) i1)) n)] := by
 exact callOKm_P (ch := fun B => [.loop 2 (Nat) (fun g => c ≤ g ∧ g ≤ n ∧ leadK U c c (n - c) = leadK U c g (n - g)) (fun g => n - g) (fun g => ⟨[(0, .own 0 0), (1, .ex (.int .i64 (c : Int))), (5, .ex (.int .i64 (g : Int)))], [(0, .one (.var 120 (.agg (.cn (.own 1 0) (.cn (.own 2 0) (.cn (.own 3 0) (.cn (.ex (.bool o)) (.nl)))))) (some (B 0)))), (1, .one (.row 69 1 (fun i0 => .own 4 (P i0)) n)), (2, .one (.row 69 1 (mE U n) n)), (3, .one (.row 3 1 (fun i0 => .ex (.int .i64 (P i0 : Int))) n)), (4, .fam n (fun i0 => .row 55 3 (fun i1 => .rat (L (ρ i0) i1)) n))], 5⟩) [(0, .id 0), (1, .id 1), (2, .id 2), (3, .id 3), (4, .id 4)] (fun _ => [(0, .id 0), (1, .id 1), (2, .id 2), (3, .id 3), (4, .id 4)]) (fun g => [.reg 2 [(13, .k g), (16, .k c), (18, .callS (.ex (.bool (decide (U g c = 0)))) [])], .reg 3 [(1, .z ((g + 1 : Nat) : Int))], .dec 38 false, .reg 7 [(15, .k g), (22, .k c), (24, .k c), (25, .row 0 (mE (setR U c (U g)) n)), (26, .k g), (27, .row 0 (mE (swapR U c g) n))], .reg 8 [(15, .k g), (22, .k c), (24, .k c), (25, .row 0 (fun i0 => .own 4 (setN P c (P g) i0))), (26, .k g), (27, .row 0 (fun i0 => .own 4 (pSw P c g i0)))], .reg 9 [(15, .k g), (22, .k c), (24, .k c), (25, .row 0 (fun i0 => .ex (.int .i64 (setN P c (P g) i0 : Int)))), (26, .k g), (27, .row 0 (fun i0 => .ex (.int .i64 (pSw P c g i0 : Int))))], .conv 11 [(0, .id 0), (1, .id 1), (2, .id 2), (3, .id 3), (4, .id 4)] ⟨[(0, .own 0 0), (1, .ex (.int .i64 (c : Int))), (5, .ex (.int .i64 (g : Int)))], [(0, .one (.var 120 (.agg (.cn (.own 1 0) (.cn (.own 2 0) (.cn (.own 3 0) (.cn (.ex (.bool (if g = c then o else !o))) (.nl)))))) (some (B 0)))), (1, .one (.row 69 1 (fun i0 => .own 4 (pSw P c g i0)) n)), (2, .one (.row 69 1 (mE (elimQ (swapR U c g) c c) n) n)), (3, .one (.row 3 1 (fun i0 => .ex (.int .i64 (pSw P c g i0 : Int))) n)), (4, .fam n (fun i0 => .row 55 3 (fun i1 => .rat ((lowQ (swapR L c g) (swapR U c g) c c) (rSw ρ c g i0) i1)) n))], 5⟩, .reg 11 [(5, .k c), (8, .callS (.rat ((1 : Int) : Rat)) []), (9, .k c), (10, .rowF (fun i0 => .rat ((lowQ (swapR L c g) (swapR U c g) c (c + 1)) c i0)) (fun i0 => .row 55 3 (fun i1 => .rat ((lowQ (swapR L c g) (swapR U c g) c (c + 1)) (rSw ρ c g i0) i1)) n))], .reg 12 [(1, .z ((c + 1 : Nat) : Int))], .loop 13 (Nat) (fun h => c + 1 ≤ h ∧ h ≤ n) (fun h => n - h) (fun h => ⟨[(0, .own 0 0), (1, .ex (.int .i64 (c : Int))), (5, .ex (.int .i64 (g : Int))), (6, .ex (.int .i64 (h : Int)))], [(0, .one (.var 120 (.agg (.cn (.own 1 0) (.cn (.own 2 0) (.cn (.own 3 0) (.cn (.ex (.bool (if g = c then o else !o))) (.nl)))))) (some (B 0)))), (1, .one (.row 69 1 (fun i0 => .own 4 (pSw P c g i0)) n)), (2, .one (.row 69 1 (mE (elimQ (swapR U c g) c h) n) n)), (3, .one (.row 3 1 (fun i0 => .ex (.int .i64 (pSw P c g i0 : Int))) n)), (4, .fam n (fun i0 => .row 55 3 (fun i1 => .rat ((lowQ (swapR L c g) (swapR U c g) c h) (rSw ρ c g i0) i1)) n))], 5⟩) [(0, .id 0), (1, .id 1), (2, .id 2), (3, .id 3), (4, .id 4)] (fun _ => [(0, .id 0), (1, .id 1), (2, .id 2), (3, .id 3), (4, .id 4)]) (fun h => [.reg 15 [(5, .k h), (8, .k c), (15, .k c), (18, .k c), (20, .callS (.cn (.rat (((elimQ (swapR U c g) c h) h c) / ((elimQ (swapR U c g) c h) c c))) (.cn (.ex (.bool (!decide (((elimQ (swapR U c g) c h) c c) = 0)))) (.nl))) [])], .reg 16 [(5, .k h), (9, .k c), (10, .rowF (fun i0 => .rat ((lowQ (swapR L c g) (swapR U c g) c (h + 1)) h i0)) (fun i0 => .row 55 3 (fun i1 => .rat ((lowQ (swapR L c g) (swapR U c g) c (h + 1)) (rSw ρ c g i0) i1)) n))], .reg 17 [(10, .k h), (13, .callS (.rat (-(((elimQ (swapR U c g) c h) h c) / ((elimQ (swapR U c g) c h) c c)))) []), (19, .k c), (21, .callS (.cn (.sl 3 (fun i0 => .rat (((elimQ (swapR U c g) c h) h i0) + (-(((elimQ (swapR U c g) c h) h c) / ((elimQ (swapR U c g) c h) c c))) * ((elimQ (swapR U c g) c h) c i0))) n) (.cn (.ex (.bool true)) (.nl))) []), (25, .k h), (26, .row 0 (mE (elimQ (swapR U c g) c (h + 1)) n))], .reg 14 [(1, .z ((h + 1 : Nat) : Int))], .ret 18 [(0, .id 0), (5, .id 1), (6, .id 2), (7, .id 3), (8, .id 4)]]), .conv 11 [(0, .id 0), (1, .id 1), (2, .id 2), (3, .id 3), (4, .id 4)] ⟨[(0, .own 0 0), (1, .ex (.int .i64 (c : Int))), (5, .ex (.int .i64 (g : Int)))], [(0, .one (.var 120 (.agg (.cn (.own 1 0) (.cn (.own 2 0) (.cn (.own 3 0) (.cn (.ex (.bool (if g = c then o else !o))) (.nl)))))) (some (B 0)))), (1, .one (.row 69 1 (fun i0 => .own 4 (pSw P c g i0)) n)), (2, .one (.row 69 1 (mE (elimQ (swapR U c g) c c) n) n)), (3, .one (.row 3 1 (fun i0 => .ex (.int .i64 (pSw P c g i0 : Int))) n)), (4, .fam n (fun i0 => .row 55 3 (fun i1 => .rat ((lowQ (swapR L c g) (swapR U c g) c c) (rSw ρ c g i0) i1)) n))], 5⟩, .reg 11 [(5, .k c), (8, .callS (.rat ((1 : Int) : Rat)) []), (9, .k c), (10, .rowF (fun i0 => .rat ((lowQ (swapR L c g) (swapR U c g) c (c + 1)) c i0)) (fun i0 => .row 55 3 (fun i1 => .rat ((lowQ (swapR L c g) (swapR U c g) c (c + 1)) (rSw ρ c g i0) i1)) n))], .reg 12 [(1, .z ((c + 1 : Nat) : Int))], .loop 13 (Nat) (fun h => c + 1 ≤ h ∧ h ≤ n) (fun h => n - h) (fun h => ⟨[(0, .own 0 0), (1, .ex (.int .i64 (c : Int))), (5, .ex (.int .i64 (g : Int))), (6, .ex (.int .i64 (h : Int)))], [(0, .one (.var 120 (.agg (.cn (.own 1 0) (.cn (.own 2 0) (.cn (.own 3 0) (.cn (.ex (.bool (if g = c then o else !o))) (.nl)))))) (some (B 0)))), (1, .one (.row 69 1 (fun i0 => .own 4 (pSw P c g i0)) n)), (2, .one (.row 69 1 (mE (elimQ (swapR U c g) c h) n) n)), (3, .one (.row 3 1 (fun i0 => .ex (.int .i64 (pSw P c g i0 : Int))) n)), (4, .fam n (fun i0 => .row 55 3 (fun i1 => .rat ((lowQ (swapR L c g) (swapR U c g) c h) (rSw ρ c g i0) i1)) n))], 5⟩) [(0, .id 0), (1, .id 1), (2, .id 2), (3, .id 3), (4, .id 4)] (fun _ => [(0, .id 0), (1, .id 1), (2, .id 2), (3, .id 3), (4, .id 4)]) (fun h => [.reg 15 [(5, .k h), (8, .k c), (15, .k c), (18, .k c), (20, .callS (.cn (.rat (((elimQ (swapR U c g) c h) h c) / ((elimQ (swapR U c g) c h) c c))) (.cn (.ex (.bool (!decide (((elimQ (swapR U c g) c h) c c) = 0)))) (.nl))) [])], .reg 16 [(5, .k h), (9, .k c), (10, .rowF (fun i0 => .rat ((lowQ (swapR L c g) (swapR U c g) c (h + 1)) h i0)) (fun i0 => .row 55 3 (fun i1 => .rat ((lowQ (swapR L c g) (swapR U c g) c (h + 1)) (rSw ρ c g i0) i1)) n))], .reg 17 [(10, .k h), (13, .callS (.rat (-(((elimQ (swapR U c g) c h) h c) / ((elimQ (swapR U c g) c h) c c)))) []), (19, .k c), (21, .callS (.cn (.sl 3 (fun i0 => .rat (((elimQ (swapR U c g) c h) h i0) + (-(((elimQ (swapR U c g) c h) h c) / ((elimQ (swapR U c g) c h) c c))) * ((elimQ (swapR U c g) c h) c i0))) n) (.cn (.ex (.bool true)) (.nl))) []), (25, .k h), (26, .row 0 (mE (elimQ (swapR U c g) c (h + 1)) n))], .reg 14 [(1, .z ((h + 1 : Nat) : Int))], .ret 18 [(0, .id 0), (5, .id 1), (6, .id 2), (7, .id 3), (8, .id 4)]])])]) hMix Tryz.func81 rfl (by kernel_rfl) (by kernel_rfl) (by kernel_rfl) (fun B => (((fun X1 X2 X3 X4 X5 X6 X7 X8 X9 X10 X11 X12 X13 : Prop => ∃ g0 : Nat, X1 ∧ X2 ∧ ((c : Int) = (g0 : Int)) ∧ X3 ∧ X4 ∧ X5 ∧ X6 ∧ X7 ∧ X8 ∧ (∀ j0, j0 < n → ((P j0 : Nat) = (P j0))) ∧ X9 ∧ X10 ∧ X11 ∧ X12 ∧ X13 ∧ (∀ j0, j0 < n → ((n : Nat) = n) ∧ (∀ j1, j1 < n → ((L (ρ j0) j1 : Rat) = (L (ρ j0) j1)))) ∧ (c ≤ g0 ∧ g0 ≤ n ∧ leadK U c c (n - c) = leadK U c g0 (n - g0))) _ _ _ _ _ _ _ _ _ _ _ _ _) ∧ ∀ g : Nat, (c ≤ g ∧ g ≤ n ∧ leadK U c c (n - c) = leadK U c g (n - g)) → (((decide ((g : Int) < (n : Int))) == true) = true → ((decide ((g : Int) < (n : Int))) == true) = true) ∧ (((decide ((g : Int) < (n : Int))) == true) = true → ((decide ((g : Int) < (n : Int))) == true) = true) ∧ (((decide ((g : Int) < (n : Int))) == true) = true → ((decide ((g : Int) < (n : Int))) == true) = true) ∧ (((decide ((g : Int) < (n : Int))) == true) = true → ((decide ((g : Int) < (n : Int))) == true) = true) ∧ (((decide ((g : Int) < (n : Int))) == true) = true → ((decide ((g : Int) < (n : Int))) == true) = true) ∧ (((decide ((g : Int) < (n : Int))) == true) = true → _) ∧ (((decide ((g : Int) < (n : Int))) == true) = true → g < n) ∧ (((decide ((g : Int) < (n : Int))) == true) = true → ((decide ((g : Int) < (n : Int))) == true) = true) ∧ (((decide ((g : Int) < (n : Int))) == true) = true → g < n) ∧ (((decide ((g : Int) < (n : Int))) == true) = true → ((decide ((g : Int) < (n : Int))) == true) = true) ∧ (((decide ((g : Int) < (n : Int))) == true) = true → ((decide ((g : Int) < (n : Int))) == true) = true) ∧ (((decide ((g : Int) < (n : Int))) == true) = true → _) ∧ (((decide ((g : Int) < (n : Int))) == true) = true → c < n) ∧ (((decide ((g : Int) < (n : Int))) == true) = true → ((decide ((g : Int) < (n : Int))) == true) = true) ∧ (((decide ((g : Int) < (n : Int))) == true) = true → ((decide ((g : Int) < (n : Int))) == true) = true) ∧ (((decide ((g : Int) < (n : Int))) == true) = true → _) ∧ ((decide ((g : Int) < (n : Int))) = true → ((decide ((g : Int) < (n : Int))) == true) = true) ∧ (((bif (decide ((g : Int) < (n : Int))) then (decide (U g c = 0)) else false) = true → (IntKind.wrap .i64 ((g : Int) + 1) = (((g + 1 : Nat) : Int))) ∧ ((fun X1 X2 X3 X4 X5 X6 X7 X8 X9 X10 X11 X12 X13 : Prop => ∃ g1 : Nat, X1 ∧ X2 ∧ (((g + 1 : Nat) : Int) = (g1 : Int)) ∧ X3 ∧ X4 ∧ X5 ∧ X6 ∧ X7 ∧ X8 ∧ (∀ j0, j0 < n → ((P j0 : Nat) = (P j0))) ∧ X9 ∧ X10 ∧ X11 ∧ X12 ∧ X13 ∧ (∀ j0, j0 < n → ((n : Nat) = n) ∧ (∀ j1, j1 < n → ((L (ρ j0) j1 : Rat) = (L (ρ j0) j1)))) ∧ (c ≤ g1 ∧ g1 ≤ n ∧ leadK U c c (n - c) = leadK U c g1 (n - g1)) ∧ (n - g1 < n - g)) _ _ _ _ _ _ _ _ _ _ _ _ _)) ∧ ((bif (decide ((g : Int) < (n : Int))) then (decide (U g c = 0)) else false) = false → ((decide ((g : Int) = (n : Int))) = false) ∧ (((!decide ((g : Int) = (c : Int))) = true → _ ∧ (g < n) ∧ (g < n) ∧ _ ∧ (c < n) ∧ (c < n) ∧ _ ∧ (c < n) ∧ (c < n) ∧ (((n : Nat) = n) ∧ (∀ j0, j0 < n → ((U g j0 : Rat) = ((setR U c (U g)) c j0)))) ∧ (∀ t, t < n → t ≠ c → (.sl 3 (fun i0 => .rat ((setR U c (U g)) t i0)) n : SV) = .sl 3 (fun i0 => .rat (U t i0)) n) ∧ _ ∧ (g < n) ∧ (g < n) ∧ (((n : Nat) = n) ∧ (∀ j0, j0 < n → ((U c j0 : Rat) = ((swapR U c g) g j0)))) ∧ (∀ t, t < n → t ≠ g → (.sl 3 (fun i0 => .rat ((swapR U c g) t i0)) n : SV) = .sl 3 (fun i0 => .rat ((setR U c (U g)) t i0)) n) ∧ _ ∧ (g < n) ∧ (g < n) ∧ _ ∧ (c < n) ∧ (c < n) ∧ _ ∧ (c < n) ∧ (c < n) ∧ (((4 : Nat) = 4) ∧ ((P g : Nat) = (setN P c (P g) c))) ∧ (∀ t, t < n → t ≠ c → (.own 4 (setN P c (P g) t) : SV) = .own 4 (P t)) ∧ _ ∧ (g < n) ∧ (g < n) ∧ (((4 : Nat) = 4) ∧ ((P c : Nat) = (pSw P c g g))) ∧ (∀ t, t < n → t ≠ g → (.own 4 (pSw P c g t) : SV) = .own 4 (setN P c (P g) t)) ∧ _ ∧ (g < n) ∧ (g < n) ∧ _ ∧ (c < n) ∧ (c < n) ∧ _ ∧ (c < n) ∧ (c < n) ∧ (((P g : Int) = (setN P c (P g) c : Int))) ∧ (∀ t, t < n → t ≠ c → (.ex (.int .i64 (setN P c (P g) t : Int)) : SV) = .ex (.int .i64 (P t : Int))) ∧ _ ∧ (g < n) ∧ (g < n) ∧ (((P c : Int) = (pSw P c g g : Int))) ∧ (∀ t, t < n → t ≠ g → (.ex (.int .i64 (pSw P c g t : Int)) : SV) = .ex (.int .i64 (setN P c (P g) t : Int))) ∧ _ ∧ _ ∧ _ ∧ _ ∧ _ ∧ _ ∧ _ ∧ ((!o : Bool) = (if g = c then o else !o)) ∧ _ ∧ (∀ j0, j0 < n → ((pSw P c g j0 : Nat) = (pSw P c g j0))) ∧ _ ∧ (∀ j0, j0 < n → ((n : Nat) = n) ∧ (∀ j1, j1 < n → (((swapR U c g) j0 j1 : Rat) = ((elimQ (swapR U c g) c c) j0 j1)))) ∧ _ ∧ _ ∧ _ ∧ (∀ j0, j0 < n → ((n : Nat) = n) ∧ (∀ j1, j1 < n → ((L (ρ j0) j1 : Rat) = ((lowQ (swapR L c g) (swapR U c g) c c) (rSw ρ c g j0) j1)))) ∧ _ ∧ (c < n) ∧ (c < n) ∧ _ ∧ _ ∧ (c < n) ∧ ((pSw P c g c) < n) ∧ (c < n) ∧ (((((1 : Int) : Rat) : Rat) = ((lowQ (swapR L c g) (swapR U c g) c (c + 1)) c c))) ∧ (∀ t, t < n → t ≠ c → (.rat ((lowQ (swapR L c g) (swapR U c g) c (c + 1)) c t) : SV) = .rat ((lowQ (swapR L c g) (swapR U c g) c c) (rSw ρ c g (pSw P c g c)) t)) ∧ ((pSw P c g c) < n) ∧ ((.row 55 3 (fun i0 => .rat ((lowQ (swapR L c g) (swapR U c g) c (c + 1)) (rSw ρ c g (pSw P c g c)) i0)) n : OB) = .row 55 3 (fun i0 => .rat ((lowQ (swapR L c g) (swapR U c g) c (c + 1)) c i0)) n) ∧ (∀ t, t < n → t ≠ (pSw P c g c) → (.row 55 3 (fun i0 => .rat ((lowQ (swapR L c g) (swapR U c g) c (c + 1)) (rSw ρ c g t) i0)) n : OB) = .row 55 3 (fun i0 => .rat ((lowQ (swapR L c g) (swapR U c g) c c) (rSw ρ c g t) i0)) n) ∧ _ ∧ (((fun X1 X2 X3 X4 X5 X6 X7 X8 X9 X10 X11 X12 X13 : Prop => ∃ h0 : Nat, X1 ∧ X2 ∧ X3 ∧ (((c + 1 : Nat) : Int) = (h0 : Int)) ∧ X4 ∧ X5 ∧ X6 ∧ X7 ∧ X8 ∧ X9 ∧ (∀ j0, j0 < n → ((pSw P c g j0 : Nat) = (pSw P c g j0))) ∧ X10 ∧ (∀ j0, j0 < n → ((n : Nat) = n) ∧ (∀ j1, j1 < n → (((elimQ (swapR U c g) c c) j0 j1 : Rat) = ((elimQ (swapR U c g) c h0) j0 j1)))) ∧ X11 ∧ X12 ∧ X13 ∧ (∀ j0, j0 < n → ((n : Nat) = n) ∧ (∀ j1, j1 < n → (((lowQ (swapR L c g) (swapR U c g) c (c + 1)) (rSw ρ c g j0) j1 : Rat) = ((lowQ (swapR L c g) (swapR U c g) c h0) (rSw ρ c g j0) j1)))) ∧ (c + 1 ≤ h0 ∧ h0 ≤ n)) _ _ _ _ _ _ _ _ _ _ _ _ _) ∧ ∀ h : Nat, (c + 1 ≤ h ∧ h ≤ n) → (((decide ((h : Int) < (n : Int))) = true → _ ∧ (h < n) ∧ (h < n) ∧ _ ∧ (c < n) ∧ _ ∧ (c < n) ∧ (c < n) ∧ _ ∧ (c < n) ∧ _ ∧ _ ∧ (h < n) ∧ (h < n) ∧ _ ∧ (c < n) ∧ ((pSw P c g h) < n) ∧ (c < n) ∧ (((((elimQ (swapR U c g) c h) h c) / ((elimQ (swapR U c g) c h) c c) : Rat) = ((lowQ (swapR L c g) (swapR U c g) c (h + 1)) h c))) ∧ (∀ t, t < n → t ≠ c → (.rat ((lowQ (swapR L c g) (swapR U c g) c (h + 1)) h t) : SV) = .rat ((lowQ (swapR L c g) (swapR U c g) c h) (rSw ρ c g (pSw P c g h)) t)) ∧ ((pSw P c g h) < n) ∧ ((.row 55 3 (fun i0 => .rat ((lowQ (swapR L c g) (swapR U c g) c (h + 1)) (rSw ρ c g (pSw P c g h)) i0)) n : OB) = .row 55 3 (fun i0 => .rat ((lowQ (swapR L c g) (swapR U c g) c (h + 1)) h i0)) n) ∧ (∀ t, t < n → t ≠ (pSw P c g h) → (.row 55 3 (fun i0 => .rat ((lowQ (swapR L c g) (swapR U c g) c (h + 1)) (rSw ρ c g t) i0)) n : OB) = .row 55 3 (fun i0 => .rat ((lowQ (swapR L c g) (swapR U c g) c h) (rSw ρ c g t) i0)) n) ∧ _ ∧ (h < n) ∧ (h < n) ∧ _ ∧ _ ∧ (c < n) ∧ (c < n) ∧ _ ∧ _ ∧ (h < n) ∧ (h < n) ∧ (((n : Nat) = n) ∧ (∀ j0, j0 < n → ((((elimQ (swapR U c g) c h) h j0) + (-(((elimQ (swapR U c g) c h) h c) / ((elimQ (swapR U c g) c h) c c))) * ((elimQ (swapR U c g) c h) c j0) : Rat) = ((elimQ (swapR U c g) c (h + 1)) h j0)))) ∧ (∀ t, t < n → t ≠ h → (.sl 3 (fun i0 => .rat ((elimQ (swapR U c g) c (h + 1)) t i0)) n : SV) = .sl 3 (fun i0 => .rat ((elimQ (swapR U c g) c h) t i0)) n) ∧ _ ∧ ((fun X1 X2 X3 X4 X5 X6 X7 X8 X9 X10 X11 X12 X13 : Prop => ∃ h1 : Nat, X1 ∧ X2 ∧ X3 ∧ (((h + 1 : Nat) : Int) = (h1 : Int)) ∧ X4 ∧ X5 ∧ X6 ∧ X7 ∧ X8 ∧ X9 ∧ (∀ j0, j0 < n → ((pSw P c g j0 : Nat) = (pSw P c g j0))) ∧ X10 ∧ (∀ j0, j0 < n → ((n : Nat) = n) ∧ (∀ j1, j1 < n → (((elimQ (swapR U c g) c (h + 1)) j0 j1 : Rat) = ((elimQ (swapR U c g) c h1) j0 j1)))) ∧ X11 ∧ X12 ∧ X13 ∧ (∀ j0, j0 < n → ((n : Nat) = n) ∧ (∀ j1, j1 < n → (((lowQ (swapR L c g) (swapR U c g) c (h + 1)) (rSw ρ c g j0) j1 : Rat) = ((lowQ (swapR L c g) (swapR U c g) c h1) (rSw ρ c g j0) j1)))) ∧ (c + 1 ≤ h1 ∧ h1 ≤ n) ∧ (n - h1 < n - h)) _ _ _ _ _ _ _ _ _ _ _ _ _)) ∧ ((decide ((h : Int) < (n : Int))) = false → (_ ∧ _ ∧ _ ∧ _ ∧ _ ∧ ((if g = c then o else !o : Bool) = ((luStep n (U, L, P, ρ, o) c).2.2.2.2)) ∧ _ ∧ (∀ j0, j0 < n → ((pSw P c g j0 : Nat) = ((luStep n (U, L, P, ρ, o) c).2.2.1 j0))) ∧ _ ∧ (∀ j0, j0 < n → ((n : Nat) = n) ∧ (∀ j1, j1 < n → (((elimQ (swapR U c g) c h) j0 j1 : Rat) = (((luStep n (U, L, P, ρ, o) c).1) j0 j1)))) ∧ _ ∧ (∀ j0, j0 < n → (((pSw P c g j0 : Nat) : Int) = (((luStep n (U, L, P, ρ, o) c).2.2.1 j0 : Nat) : Int))) ∧ _ ∧ (∀ j0, j0 < n → ((n : Nat) = n) ∧ (∀ j1, j1 < n → (((lowQ (swapR L c g) (swapR U c g) c h) (rSw ρ c g j0) j1 : Rat) = ((luStep n (U, L, P, ρ, o) c).2.1 ((luStep n (U, L, P, ρ, o) c).2.2.2.1 j0) j1))))))))) ∧ ((!decide ((g : Int) = (c : Int))) = false → _ ∧ _ ∧ _ ∧ _ ∧ _ ∧ _ ∧ _ ∧ ((o : Bool) = (if g = c then o else !o)) ∧ _ ∧ (∀ j0, j0 < n → ((P j0 : Nat) = (pSw P c g j0))) ∧ _ ∧ (∀ j0, j0 < n → ((n : Nat) = n) ∧ (∀ j1, j1 < n → ((U j0 j1 : Rat) = ((elimQ (swapR U c g) c c) j0 j1)))) ∧ _ ∧ (∀ j0, j0 < n → (((P j0 : Nat) : Int) = (pSw P c g j0 : Int))) ∧ _ ∧ (∀ j0, j0 < n → ((n : Nat) = n) ∧ (∀ j1, j1 < n → ((L (ρ j0) j1 : Rat) = ((lowQ (swapR L c g) (swapR U c g) c c) (rSw ρ c g j0) j1)))) ∧ _ ∧ (c < n) ∧ (c < n) ∧ _ ∧ _ ∧ (c < n) ∧ ((pSw P c g c) < n) ∧ (c < n) ∧ (((((1 : Int) : Rat) : Rat) = ((lowQ (swapR L c g) (swapR U c g) c (c + 1)) c c))) ∧ (∀ t, t < n → t ≠ c → (.rat ((lowQ (swapR L c g) (swapR U c g) c (c + 1)) c t) : SV) = .rat ((lowQ (swapR L c g) (swapR U c g) c c) (rSw ρ c g (pSw P c g c)) t)) ∧ ((pSw P c g c) < n) ∧ ((.row 55 3 (fun i0 => .rat ((lowQ (swapR L c g) (swapR U c g) c (c + 1)) (rSw ρ c g (pSw P c g c)) i0)) n : OB) = .row 55 3 (fun i0 => .rat ((lowQ (swapR L c g) (swapR U c g) c (c + 1)) c i0)) n) ∧ (∀ t, t < n → t ≠ (pSw P c g c) → (.row 55 3 (fun i0 => .rat ((lowQ (swapR L c g) (swapR U c g) c (c + 1)) (rSw ρ c g t) i0)) n : OB) = .row 55 3 (fun i0 => .rat ((lowQ (swapR L c g) (swapR U c g) c c) (rSw ρ c g t) i0)) n) ∧ _ ∧ (((fun X1 X2 X3 X4 X5 X6 X7 X8 X9 X10 X11 X12 X13 : Prop => ∃ h0 : Nat, X1 ∧ X2 ∧ X3 ∧ (((c + 1 : Nat) : Int) = (h0 : Int)) ∧ X4 ∧ X5 ∧ X6 ∧ X7 ∧ X8 ∧ X9 ∧ (∀ j0, j0 < n → ((pSw P c g j0 : Nat) = (pSw P c g j0))) ∧ X10 ∧ (∀ j0, j0 < n → ((n : Nat) = n) ∧ (∀ j1, j1 < n → (((elimQ (swapR U c g) c c) j0 j1 : Rat) = ((elimQ (swapR U c g) c h0) j0 j1)))) ∧ X11 ∧ X12 ∧ X13 ∧ (∀ j0, j0 < n → ((n : Nat) = n) ∧ (∀ j1, j1 < n → (((lowQ (swapR L c g) (swapR U c g) c (c + 1)) (rSw ρ c g j0) j1 : Rat) = ((lowQ (swapR L c g) (swapR U c g) c h0) (rSw ρ c g j0) j1)))) ∧ (c + 1 ≤ h0 ∧ h0 ≤ n)) _ _ _ _ _ _ _ _ _ _ _ _ _) ∧ ∀ h : Nat, (c + 1 ≤ h ∧ h ≤ n) → (((decide ((h : Int) < (n : Int))) = true → _ ∧ (h < n) ∧ (h < n) ∧ _ ∧ (c < n) ∧ _ ∧ (c < n) ∧ (c < n) ∧ _ ∧ (c < n) ∧ _ ∧ _ ∧ (h < n) ∧ (h < n) ∧ _ ∧ (c < n) ∧ ((pSw P c g h) < n) ∧ (c < n) ∧ (((((elimQ (swapR U c g) c h) h c) / ((elimQ (swapR U c g) c h) c c) : Rat) = ((lowQ (swapR L c g) (swapR U c g) c (h + 1)) h c))) ∧ (∀ t, t < n → t ≠ c → (.rat ((lowQ (swapR L c g) (swapR U c g) c (h + 1)) h t) : SV) = .rat ((lowQ (swapR L c g) (swapR U c g) c h) (rSw ρ c g (pSw P c g h)) t)) ∧ ((pSw P c g h) < n) ∧ ((.row 55 3 (fun i0 => .rat ((lowQ (swapR L c g) (swapR U c g) c (h + 1)) (rSw ρ c g (pSw P c g h)) i0)) n : OB) = .row 55 3 (fun i0 => .rat ((lowQ (swapR L c g) (swapR U c g) c (h + 1)) h i0)) n) ∧ (∀ t, t < n → t ≠ (pSw P c g h) → (.row 55 3 (fun i0 => .rat ((lowQ (swapR L c g) (swapR U c g) c (h + 1)) (rSw ρ c g t) i0)) n : OB) = .row 55 3 (fun i0 => .rat ((lowQ (swapR L c g) (swapR U c g) c h) (rSw ρ c g t) i0)) n) ∧ _ ∧ (h < n) ∧ (h < n) ∧ _ ∧ _ ∧ (c < n) ∧ (c < n) ∧ _ ∧ _ ∧ (h < n) ∧ (h < n) ∧ (((n : Nat) = n) ∧ (∀ j0, j0 < n → ((((elimQ (swapR U c g) c h) h j0) + (-(((elimQ (swapR U c g) c h) h c) / ((elimQ (swapR U c g) c h) c c))) * ((elimQ (swapR U c g) c h) c j0) : Rat) = ((elimQ (swapR U c g) c (h + 1)) h j0)))) ∧ (∀ t, t < n → t ≠ h → (.sl 3 (fun i0 => .rat ((elimQ (swapR U c g) c (h + 1)) t i0)) n : SV) = .sl 3 (fun i0 => .rat ((elimQ (swapR U c g) c h) t i0)) n) ∧ _ ∧ ((fun X1 X2 X3 X4 X5 X6 X7 X8 X9 X10 X11 X12 X13 : Prop => ∃ h1 : Nat, X1 ∧ X2 ∧ X3 ∧ (((h + 1 : Nat) : Int) = (h1 : Int)) ∧ X4 ∧ X5 ∧ X6 ∧ X7 ∧ X8 ∧ X9 ∧ (∀ j0, j0 < n → ((pSw P c g j0 : Nat) = (pSw P c g j0))) ∧ X10 ∧ (∀ j0, j0 < n → ((n : Nat) = n) ∧ (∀ j1, j1 < n → (((elimQ (swapR U c g) c (h + 1)) j0 j1 : Rat) = ((elimQ (swapR U c g) c h1) j0 j1)))) ∧ X11 ∧ X12 ∧ X13 ∧ (∀ j0, j0 < n → ((n : Nat) = n) ∧ (∀ j1, j1 < n → (((lowQ (swapR L c g) (swapR U c g) c (h + 1)) (rSw ρ c g j0) j1 : Rat) = ((lowQ (swapR L c g) (swapR U c g) c h1) (rSw ρ c g j0) j1)))) ∧ (c + 1 ≤ h1 ∧ h1 ≤ n) ∧ (n - h1 < n - h)) _ _ _ _ _ _ _ _ _ _ _ _ _)) ∧ ((decide ((h : Int) < (n : Int))) = false → (_ ∧ _ ∧ _ ∧ _ ∧ _ ∧ ((if g = c then o else !o : Bool) = ((luStep n (U, L, P, ρ, o) c).2.2.2.2)) ∧ _ ∧ (∀ j0, j0 < n → ((pSw P c g j0 : Nat) = ((luStep n (U, L, P, ρ, o) c).2.2.1 j0))) ∧ _ ∧ (∀ j0, j0 < n → ((n : Nat) = n) ∧ (∀ j1, j1 < n → (((elimQ (swapR U c g) c h) j0 j1 : Rat) = (((luStep n (U, L, P, ρ, o) c).1) j0 j1)))) ∧ _ ∧ (∀ j0, j0 < n → (((pSw P c g j0 : Nat) : Int) = (((luStep n (U, L, P, ρ, o) c).2.2.1 j0 : Nat) : Int))) ∧ _ ∧ (∀ j0, j0 < n → ((n : Nat) = n) ∧ (∀ j1, j1 < n → (((lowQ (swapR L c g) (swapR U c g) c h) (rSw ρ c g j0) j1 : Rat) = ((luStep n (U, L, P, ρ, o) c).2.1 ((luStep n (U, L, P, ρ, o) c).2.2.2.1 j0) j1)))))))))))))) (fun B => by kernel_rfl)
  (fun B => ⟨⟨c, (rf 0), (rf (c : Int)), zo, (rf (some (B 0))), (rf 0), (rf 0), (rf 0), (rf (o : Bool)), (rf n), (fun j0 hj0 => rfl), (rf n), (leS (mE U n) n), (rf n), (leS (fun i0 => .ex (.int .i64 (P i0 : Int))) n), (rf n), (fun j0 hj0 => ⟨rfl, (fun j1 hj1 => rfl)⟩), Nat.le_refl _, by omega, rfl⟩, fun g hg0 => have hg1 := hg0.1; have hg2 := hg0.2.1; ⟨id, id, id, id, id, (fun hg => (rf (g : Int))), (fun hg => (by have hg2 := of_guard hg; omega)), id, (fun hg => (by have hg2 := of_guard hg; omega)), id, id, (fun hg => (rf (c : Int))), (fun hg => zo), id, id, (fun hg => sRatZero (q := U g c)), (by simp), fun hc29 => have hz := step_yes hc29; ⟨(by rw [IntKind.wrap_i64]; omega), g + 1, (rf 0), (rf (c : Int)), zo, (rf (some (B 0))), (rf 0), (rf 0), (rf 0), (rf (o : Bool)), (rf n), (fun j0 hj0 => rfl), (rf n), (leS (mE U n) n), (rf n), (leS (fun i0 => .ex (.int .i64 (P i0 : Int))) n), (rf n), (fun j0 hj0 => ⟨rfl, (fun j1 hj1 => rfl)⟩), ⟨by omega, by omega, hg0.2.2.trans (leadK_step hz.1 hz.2)⟩, zo⟩, fun hc29 => have hz := step_no hg2 hc29; have hK := step_K hg0.2.2 hz; have hgn : g < n := (by rw [← hK]; exact hk); have hB1 := hB.sw hc hgn; have hP1 := hB1.lt c hc; have H4 := hH.swap hc hgn; have hne0 := fun {t : Nat} (k : t ≠ pSw P c g c) => rSw_ne hB1 k; ⟨(by simp; omega), fun hc41 => have hk3 : g ≠ c := (by simp at hc41; omega); ⟨(rf (g : Int)), zo, zo, (rf (c : Int)), zo, zo, (rf (c : Int)), zo, zo, ⟨rfl, (fun j0 hj0 => (if_pos rfl).symm)⟩, (fun t ht hne => by simp only [setR_ne hne]), (rf (g : Int)), zo, zo, ⟨rfl, (fun j0 hj0 => (swap_at))⟩, (fun t ht hne => by simp only [swap_other hne]), (rf (g : Int)), zo, zo, (rf (c : Int)), zo, zo, (rf (c : Int)), zo, zo, ⟨rfl, (if_pos rfl).symm⟩, (fun t ht hne => by rw [setN_ne hne]), (rf (g : Int)), zo, zo, ⟨rfl, (pSw_at)⟩, (fun t ht hne => by rw [pSw_other hne]), (rf (g : Int)), zo, zo, (rf (c : Int)), zo, zo, (rf (c : Int)), zo, zo, (congrArg (fun x : Nat => (x : Int)) (if_pos rfl).symm), (fun t ht hne => by rw [setN_ne hne]), (rf (g : Int)), zo, zo, (congrArg (fun x : Nat => (x : Int)) pSw_at), (fun t ht hne => by rw [pSw_other hne]), (rf 0), (rf (c : Int)), (rf (g : Int)), (rf (some (B 0))), (rf 0), (rf 0), (rf 0), (by first | exact (if_neg hk3).symm | exact (if_pos hk3).symm), (rf n), (fun j0 hj0 => rfl), (rf n), (fun j0 hj0 => ⟨rfl, (fun j1 hj1 => (by first | exact elimQ_zero0 | exact (swap_same hk3).symm.trans elimQ_zero0))⟩), (rf n), (leS (fun i0 => .ex (.int .i64 (pSw P c g i0 : Int))) n), (rf n), (fun j0 hj0 => ⟨rfl, (fun j1 hj1 => (low_conv))⟩), (rf (c : Int)), zo, zo, sRatInt (x := 1) zo zo, (rf (c : Int)), zo, zo, zo, (lowQ_corner), (fun t ht hne => by rw [lowQ_col hne, hB1.inv, lowQ_col hne]), zo, (by rw [hB1.inv]), (fun t ht hne => by rw [lowQ_row (hne0 hne)]), (wI (g := c) zo), ⟨c + 1, (rf 0), (rf (c : Int)), (rf (g : Int)), zo, (rf (some (B 0))), (rf 0), (rf 0), (rf 0), (rf (if g = c then o else !o : Bool)), (rf n), (fun j0 hj0 => rfl), (rf n), (fun j0 hj0 => ⟨rfl, (fun j1 hj1 => elimQ_from)⟩), (rf n), (leS (fun i0 => .ex (.int .i64 (pSw P c g i0 : Int))) n), (rf n), (fun j0 hj0 => ⟨rfl, (fun j1 hj1 => rfl)⟩), Nat.le_refl _, by omega⟩, fun h hh0 => have hh1 := hh0.1; have hh2 := hh0.2; have hne0 := fun {t : Nat} (k : t ≠ pSw P c g h) => rSw_ne hB1 k; ⟨fun hc146 => have hc146 := dT hc146; have hh : c < h ∧ h < n := ⟨by omega, by omega⟩; have hP2 := hB1.lt h hh.2; ⟨(rf (h : Int)), zo, zo, (rf (c : Int)), zo, (rf (c : Int)), zo, zo, (rf (c : Int)), zo, sRatDiv (p := (elimQ (swapR U c g) c h) h c) (q := (elimQ (swapR U c g) c h) c c) (div_room H4 zo hh.2), (rf (h : Int)), zo, zo, (rf (c : Int)), zo, zo, zo, (lowQ_now2 zo), (fun t ht hne => by rw [lowQ_col hne, hB1.inv, lowQ_col hne]), zo, (by rw [hB1.inv]), (fun t ht hne => by rw [lowQ_row (hne0 hne)]), (rf (h : Int)), zo, zo, sRatNeg (q := ((elimQ (swapR U c g) c h) h c) / ((elimQ (swapR U c g) c h) c c)), (rf (c : Int)), zo, zo, (sVecAddTimes (a := (elimQ (swapR U c g) c h) h) (b := (elimQ (swapR U c g) c h) c) (n := n) (r := - (((elimQ (swapR U c g) c h) h c) / ((elimQ (swapR U c g) c h) c c))) zo (lu_room H4 zo hh.2)).frzV2, (rf (h : Int)), zo, zo, ⟨rfl, (fun j0 hj0 => (elim_now zo))⟩, (fun t ht hne => by simp only [elimQ_ne hne]), (wI (g := h) zo), h + 1, (rf 0), (rf (c : Int)), (rf (g : Int)), zo, (rf (some (B 0))), (rf 0), (rf 0), (rf 0), (rf (if g = c then o else !o : Bool)), (rf n), (fun j0 hj0 => rfl), (rf n), (fun j0 hj0 => ⟨rfl, (fun j1 hj1 => rfl)⟩), (rf n), (leS (fun i0 => .ex (.int .i64 (pSw P c g i0 : Int))) n), (rf n), (fun j0 hj0 => ⟨rfl, (fun j1 hj1 => rfl)⟩), ⟨by omega, by omega⟩, zo⟩, fun hc146 => have hc146 := dF hc146; have hi3 : h = n := zo; ⟨(rf (true : Bool)), (rf (some (B 0))), (rf 0), (rf 0), (rf 0), (by rw [lu_o hK]), (rf n), (fun j0 hj0 => (by rw [lu_P hK])), (rf n), (fun j0 hj0 => ⟨rfl, (fun j1 hj1 => (by rw [lu_U hK, hi3]))⟩), (rf n), (fun j0 hj0 => (by rw [lu_P hK])), (rf n), (fun j0 hj0 => ⟨rfl, (fun j1 hj1 => (by rw [lu_L hK, lu_R hK, hi3]))⟩)⟩⟩⟩, fun hc41 => have hk3 : g = c := (by simp at hc41; omega); ⟨(rf 0), (rf (c : Int)), (rf (g : Int)), (rf (some (B 0))), (rf 0), (rf 0), (rf 0), (by first | exact (if_neg hk3).symm | exact (if_pos hk3).symm), (rf n), (fun j0 hj0 => (by first | rfl | exact (pSw_same hk3).symm)), (rf n), (fun j0 hj0 => ⟨rfl, (fun j1 hj1 => (by first | exact elimQ_zero0 | exact (swap_same hk3).symm.trans elimQ_zero0))⟩), (rf n), (fun j0 hj0 => (by first | rfl | exact congrArg (fun x : Nat => (x : Int)) (pSw_same hk3).symm)), (rf n), (fun j0 hj0 => ⟨rfl, (fun j1 hj1 => (low_conv))⟩), (rf (c : Int)), zo, zo, sRatInt (x := 1) zo zo, (rf (c : Int)), zo, zo, zo, (lowQ_corner), (fun t ht hne => by rw [lowQ_col hne, hB1.inv, lowQ_col hne]), zo, (by rw [hB1.inv]), (fun t ht hne => by rw [lowQ_row (hne0 hne)]), (wI (g := c) zo), ⟨c + 1, (rf 0), (rf (c : Int)), (rf (g : Int)), zo, (rf (some (B 0))), (rf 0), (rf 0), (rf 0), (rf (if g = c then o else !o : Bool)), (rf n), (fun j0 hj0 => rfl), (rf n), (fun j0 hj0 => ⟨rfl, (fun j1 hj1 => elimQ_from)⟩), (rf n), (leS (fun i0 => .ex (.int .i64 (pSw P c g i0 : Int))) n), (rf n), (fun j0 hj0 => ⟨rfl, (fun j1 hj1 => rfl)⟩), Nat.le_refl _, by omega⟩, fun h hh0 => have hh1 := hh0.1; have hh2 := hh0.2; have hne0 := fun {t : Nat} (k : t ≠ pSw P c g h) => rSw_ne hB1 k; ⟨fun hc146 => have hc146 := dT hc146; have hh : c < h ∧ h < n := ⟨by omega, by omega⟩; have hP2 := hB1.lt h hh.2; ⟨(rf (h : Int)), zo, zo, (rf (c : Int)), zo, (rf (c : Int)), zo, zo, (rf (c : Int)), zo, sRatDiv (p := (elimQ (swapR U c g) c h) h c) (q := (elimQ (swapR U c g) c h) c c) (div_room H4 zo hh.2), (rf (h : Int)), zo, zo, (rf (c : Int)), zo, zo, zo, (lowQ_now2 zo), (fun t ht hne => by rw [lowQ_col hne, hB1.inv, lowQ_col hne]), zo, (by rw [hB1.inv]), (fun t ht hne => by rw [lowQ_row (hne0 hne)]), (rf (h : Int)), zo, zo, sRatNeg (q := ((elimQ (swapR U c g) c h) h c) / ((elimQ (swapR U c g) c h) c c)), (rf (c : Int)), zo, zo, (sVecAddTimes (a := (elimQ (swapR U c g) c h) h) (b := (elimQ (swapR U c g) c h) c) (n := n) (r := - (((elimQ (swapR U c g) c h) h c) / ((elimQ (swapR U c g) c h) c c))) zo (lu_room H4 zo hh.2)).frzV2, (rf (h : Int)), zo, zo, ⟨rfl, (fun j0 hj0 => (elim_now zo))⟩, (fun t ht hne => by simp only [elimQ_ne hne]), (wI (g := h) zo), h + 1, (rf 0), (rf (c : Int)), (rf (g : Int)), zo, (rf (some (B 0))), (rf 0), (rf 0), (rf 0), (rf (if g = c then o else !o : Bool)), (rf n), (fun j0 hj0 => rfl), (rf n), (fun j0 hj0 => ⟨rfl, (fun j1 hj1 => rfl)⟩), (rf n), (leS (fun i0 => .ex (.int .i64 (pSw P c g i0 : Int))) n), (rf n), (fun j0 hj0 => ⟨rfl, (fun j1 hj1 => rfl)⟩), ⟨by omega, by omega⟩, zo⟩, fun hc146 => have hc146 := dF hc146; have hi3 : h = n := zo; ⟨(rf (true : Bool)), (rf (some (B 0))), (rf 0), (rf 0), (rf 0), (by rw [lu_o hK]), (rf n), (fun j0 hj0 => (by rw [lu_P hK])), (rf n), (fun j0 hj0 => ⟨rfl, (fun j1 hj1 => (by rw [lu_U hK, hi3]))⟩), (rf n), (fun j0 hj0 => (by rw [lu_P hK])), (rf n), (fun j0 hj0 => ⟨rfl, (fun j1 hj1 => (by rw [lu_L hK, lu_R hK, hi3]))⟩)⟩⟩⟩⟩⟩⟩)
def parS (L : Nat → Nat → Rat) (x : Nat → Rat) (t : Rat) (k : Nat) : Nat → Rat
 | 0 => t
 | h + 1 => parS L x t k h - L k h * x h
def fwS (L : Nat → Nat → Rat) (d : Nat → Rat) (f : Nat → Rat → Rat) (base : Nat → Rat) : Nat → Nat → Rat
 | 0, j => base j
 | k + 1, j => if j = k then f k (parS L (fwS L d f base k) (d k) k k) else fwS L d f base k j
def fwI (L : Nat → Nat → Rat) (d : Nat → Rat) (f : Nat → Rat → Rat) (base : Nat → Rat) (k h j : Nat) : Rat := if j = k then parS L (fwS L d f base k) (d k) k h else fwS L d f base k j
def bwP (U : Nat → Nat → Rat) (y : Nat → Rat) (t : Rat) (k : Nat) : Nat → Rat
 | 0 => t
 | h + 1 => bwP U y t k h - U k (k + 1 + h) * y (k + 1 + h)
def bwS (U : Nat → Nat → Rat) (z : Nat → Rat) (f : Nat → Rat → Rat) (n : Nat) : Nat → Nat → Rat
 | 0, j => z j
 | g + 1, j => if j = n - 1 - g then f (n - 1 - g) (bwP U (bwS U z f n g) (z (n - 1 - g)) (n - 1 - g) g) else bwS U z f n g j
def bwI (U : Nat → Nat → Rat) (z : Nat → Rat) (f : Nat → Rat → Rat) (n g h j : Nat) : Rat := if j = n - 1 - g then bwP U (bwS U z f n g) (z (n - 1 - g)) (n - 1 - g) h else bwS U z f n g j
section
variable {L U : Nat → Nat → Rat} {d base z : Nat → Rat} {f : Nat → Rat → Rat} {k h j n g : Nat}
theorem fwI_self : fwI L d f base k h k = parS L (fwS L d f base k) (d k) k h := if_pos rfl
theorem fwI_other (e : j ≠ k) : fwI L d f base k h j = fwS L d f base k j := if_neg e
theorem fwI_at (e : h < k) : fwI L d f base k h k - L k h * fwI L d f base k h h = fwI L d f base k (h + 1) k := by
 rw [fwI_self, fwI_self, fwI_other zo]; rfl
theorem fwI_ne (e : j ≠ k) : fwI L d f base k (h + 1) j = fwI L d f base k h j := by rw [fwI_other e, fwI_other e]
theorem fwI_zero (e : j ≠ k) : fwI L d f base k 0 j = fwS L d f base k j := fwI_other e
theorem fwI_put : d k = fwI L d f base k 0 k := by rw [fwI_self]; rfl
theorem fwS_at : f k (fwI L d f base k k k) = fwS L d f base (k + 1) k := by rw [fwI_self]; exact (if_pos rfl).symm
theorem fwS_ne (e : j ≠ k) : fwS L d f base (k + 1) j = fwI L d f base k k j := by rw [fwI_other e]; exact if_neg e
theorem fwS_late (e : k ≤ j) : fwS L d f base k j = base j := by
 induction k with
 | zero => rfl
 | succ k ih => show (if j = k then _ else _) = _; rw [if_neg zo]; exact ih zo
theorem fwI_start (hd : d = base) : fwS L d f base k j = fwI L d f base k 0 j := by
 by_cases e : j = k
 ·subst e; rw [fwI_self, fwS_late (Nat.le_refl j)]; show base j = d j; rw [hd]
 ·exact (fwI_other e).symm
theorem fwI_all (hf : ∀ x, f k x = x) : fwI L d f base k k j = fwS L d f base (k + 1) j := by
 by_cases e : j = k
 ·subst e; rw [← fwS_at, hf]
 ·exact (fwS_ne e).symm
theorem bwI_self : bwI U z f n g h (n - 1 - g) = bwP U (bwS U z f n g) (z (n - 1 - g)) (n - 1 - g) h := if_pos rfl
theorem bwI_other (e : j ≠ n - 1 - g) : bwI U z f n g h j = bwS U z f n g j := if_neg e
theorem bwI_at : bwI U z f n g h (n - 1 - g) - U (n - 1 - g) (n - 1 - g + 1 + h) * bwI U z f n g h (n - 1 - g + 1 + h) = bwI U z f n g (h + 1) (n - 1 - g) := by
 rw [bwI_self, bwI_self, bwI_other zo]; rfl
theorem bwI_ne (e : j ≠ n - 1 - g) : bwI U z f n g (h + 1) j = bwI U z f n g h j := by rw [bwI_other e, bwI_other e]
theorem bwS_at : f (n - 1 - g) (bwI U z f n g g (n - 1 - g)) = bwS U z f n (g + 1) (n - 1 - g) := by rw [bwI_self]; exact (if_pos rfl).symm
theorem bwS_ne (e : j ≠ n - 1 - g) : bwS U z f n (g + 1) j = bwI U z f n g g j := by rw [bwI_other e]; exact if_neg e
theorem bwS_early (hg : g ≤ n) (e : j < n - g) : bwS U z f n g j = z j := by
 induction g with
 | zero => rfl
 | succ g ih => show (if j = n - 1 - g then _ else _) = _; rw [if_neg zo]; exact ih zo zo
theorem bwI_start (hg : g < n) : bwS U z f n g j = bwI U z f n g 0 j := by
 by_cases e : j = n - 1 - g
 ·subst e; rw [bwI_self, bwS_early zo zo]; rfl
 ·exact (bwI_other e).symm
theorem bwI_all (hf : ∀ x, f (n - 1 - g) x = x) : bwI U z f n g g j = bwS U z f n (g + 1) j := by
 by_cases e : j = n - 1 - g
 ·subst e; rw [← bwS_at, hf]
 ·exact (bwS_ne e).symm
theorem fwS_stay (e : j < k) : ∀ m, fwS L d f base (k + m) j = fwS L d f base k j
 | 0 => rfl
 | m + 1 => by show (if j = k + m then _ else _) = _; rw [if_neg zo]; exact fwS_stay e m
theorem fwS_final (e : j < k) (h : k ≤ n) : fwS L d f base n j = fwS L d f base k j := by
 have := fwS_stay (L := L) (d := d) (f := f) (base := base) e (n - k)
 rwa [show k + (n - k) = n by omega] at this
theorem parS_sum {x : Nat → Rat} {t : Rat} : ∀ h, parS L x t k h + sumQ (fun c => L k c * x c) h = t
 | 0 => by show t + 0 = t; grind
 | h + 1 => by
  have := parS_sum (x := x) (t := t) h
  show parS L x t k h - L k h * x h + (sumQ _ h + L k h * x h) = t
  rw [← this]; grind
theorem fw_eq (hk : k < n) : parS L (fwS L d f base n) (d k) k k = d k - sumQ (fun c => L k c * fwS L d f base n c) k ∧ fwS L d f base n k = f k (parS L (fwS L d f base n) (d k) k k) := by
 refine ⟨?_, ?_⟩
 ·have := parS_sum (L := L) (k := k) (x := fwS L d f base n) (t := d k) k
  rw [← this]; grind
 ·rw [fwS_final (k := k + 1) (Nat.lt_succ_self k) hk]
  show (if k = k then _ else _) = _
  rw [if_pos rfl]
  congr 1
  have key : ∀ h, h ≤ k → parS L (fwS L d f base k) (d k) k h = parS L (fwS L d f base n) (d k) k h := by
   intro h hh
   induction h with
   | zero => rfl
   | succ h ih => show parS L _ _ k h - _ = parS L _ _ k h - _; rw [ih zo, fwS_final (n := n) (k := k) zo zo]
  exact key k (Nat.le_refl k)
theorem bwS_stay (e : n - 1 - g ≤ j) (hg : g < n) : ∀ m, g + 1 + m ≤ n → bwS U z f n (g + 1 + m) j = bwS U z f n (g + 1) j
 | 0, _ => rfl
 | m + 1, h => by show (if j = n - 1 - (g + 1 + m) then _ else _) = _; rw [if_neg zo]; exact bwS_stay e hg m zo
theorem bwP_sum {x : Nat → Rat} {t : Rat} : ∀ h, bwP U x t k h + sumQ (fun c => U k (k + 1 + c) * x (k + 1 + c)) h = t
 | 0 => by show t + 0 = t; grind
 | h + 1 => by
  have := bwP_sum (x := x) (t := t) h
  show bwP U x t k h - U k (k + 1 + h) * x (k + 1 + h) + (sumQ _ h + U k (k + 1 + h) * x (k + 1 + h)) = t
  rw [← this]; grind
theorem bw_eq (hk : k < n) : bwS U z f n n k = f k (z k - sumQ (fun c => U k (k + 1 + c) * bwS U z f n n (k + 1 + c)) (n - 1 - k)) := by
 have e : n - 1 - (n - 1 - k) = k := by omega
 have h1 := bwS_stay (U := U) (z := z) (f := f) (n := n) (g := n - 1 - k) (j := k) zo zo (n - (n - 1 - k + 1)) zo
 rw [show n - 1 - k + 1 + (n - (n - 1 - k + 1)) = n by omega] at h1
 rw [h1]
 show (if k = n - 1 - (n - 1 - k) then f (n - 1 - (n - 1 - k)) _ else _) = _
 rw [if_pos e.symm, e]
 congr 1
 have h2 := bwP_sum (U := U) (k := k) (x := bwS U z f n (n - 1 - k)) (t := z k) (n - 1 - k)
 have h3 : sumQ (fun c => U k (k + 1 + c) * bwS U z f n (n - 1 - k) (k + 1 + c)) (n - 1 - k) = sumQ (fun c => U k (k + 1 + c) * bwS U z f n n (k + 1 + c)) (n - 1 - k) := sumQ_congr _ fun c hc => by
  have h4 := bwS_stay (U := U) (z := z) (f := f) (n := n) (g := n - 2 - k) (j := k + 1 + c) zo zo (n - (n - 2 - k + 1)) zo
  rw [show n - 2 - k + 1 + (n - (n - 2 - k + 1)) = n by omega, show n - 2 - k + 1 = n - 1 - k by omega] at h4
  rw [h4]
 rw [h3] at h2
 rw [← h2]; grind
theorem sumQ_split (F : Nat → Rat) (a : Nat) : ∀ m, sumQ F (a + m) = sumQ F a + sumQ (fun c => F (a + c)) m
 | 0 => by show sumQ F a = sumQ F a + 0; grind
 | m + 1 => by show sumQ F (a + m) + F (a + m) = _ + (_ + F (a + m)); rw [sumQ_split F a m]; grind
theorem fw_solves (hone : ∀ k, k < n → L k k = 1) (hup : ∀ i k, i < n → i < k → L i k = 0) (hf : ∀ k x, f k x = x) (hk : k < n) : sumQ (fun c => L k c * fwS L d f base n c) n = d k := by
 obtain ⟨h1, h2⟩ := fw_eq (L := L) (d := d) (f := f) (base := base) hk
 rw [hf, h1] at h2
 rw [show n = k + 1 + (n - k - 1) by omega, sumQ_split, sumQ_congr (n - k - 1) (g := fun _ => 0) fun c hc => by rw [hup k _ hk zo]; grind, sumQ_zero, show k + 1 + (n - k - 1) = n by omega]
 show sumQ _ k + L k k * _ + 0 = d k
 rw [hone k hk, h2]; grind
theorem bw_divides (hp : ∀ k, k < n → U k k ≠ 0) (hlow : ∀ i k, i < n → k < n → k < i → U i k = 0) (hf : ∀ k x, f k x = x / U k k) (hk : k < n) : sumQ (fun c => U k c * bwS U z f n n c) n = z k := by
 have h2 := bw_eq (U := U) (z := z) (f := f) hk
 rw [hf] at h2
 rw [show n = k + (1 + (n - 1 - k)) by omega, sumQ_split, sumQ_congr k (g := fun _ => 0) fun c hc => by rw [hlow k c hk zo hc]; grind, sumQ_zero, sumQ_split, show k + (1 + (n - 1 - k)) = n by omega]
 show 0 + (0 + U k (k + 0) * bwS U z f n n (k + 0) + sumQ (fun c => U k (k + (1 + c)) * bwS U z f n n (k + (1 + c))) (n - 1 - k)) = z k
 rw [sumQ_congr (n - 1 - k) (g := fun c => U k (k + 1 + c) * bwS U z f n n (k + 1 + c)) fun c _ => by rw [Nat.add_assoc], Nat.add_zero]
 have h3 := Rat.div_mul_cancel (a := z k - sumQ (fun c => U k (k + 1 + c) * bwS U z f n n (k + 1 + c)) (n - 1 - k)) (hp k hk)
 rw [← h2] at h3; grind
theorem par_ht {x : Nat → Rat} {t : Rat} {S D E : Nat} (hL : ∀ c, c < k → htq (L k c) ≤ S) (ht : htq t ≤ D) : ∀ h, h ≤ k → (∀ c, c < h → htq (x c) + S + 1 ≤ 2 ^ c * E) → htq (parS L x t k h) + E ≤ D + 2 ^ h * E
 | 0, _, _ => by show htq t + E ≤ D + 2 ^ 0 * E; omega
 | h + 1, hh, hx => by
  have ih := par_ht hL ht h zo fun c hc => hx c zo
  have h1 := ht_sub (parS L x t k h) (L k h * x h)
  have h2 := ht_mul (L k h) (x h)
  have h3 := hL h zo
  have h4 := hx h (Nat.lt_succ_self h)
  show htq (parS L x t k h - L k h * x h) + E ≤ _
  rw [Nat.pow_succ, show 2 ^ h * 2 * E = 2 ^ h * E + 2 ^ h * E by rw [Nat.mul_comm (2 ^ h) 2, Nat.mul_assoc, Nat.two_mul]]
  omega
theorem fw_ht {S D : Nat} (hL : ∀ k, k < n → ∀ c, c < k → htq (L k c) ≤ S) (hd : ∀ k, k < n → htq (d k) ≤ D) (hf : ∀ k x, k < n → htq (f k x) ≤ htq x + S) : ∀ k, k ≤ n → ∀ j, j < k → htq (fwS L d f base k j) + S + 1 ≤ 2 ^ j * (D + 2 * S + 1)
 | 0, _, j, hj => absurd hj (Nat.not_lt_zero j)
 | k + 1, hk, j, hj => by
  have ih := fw_ht hL hd hf k zo
  show htq (if j = k then _ else _) + S + 1 ≤ _
  split
  ·rename_i e
   have h1 := par_ht (L := L) (k := k) (x := fwS L d f base k) (t := d k) (E := D + 2 * S + 1) (hL k zo) (hd k zo) k (Nat.le_refl k) ih
   have h2 := hf k (parS L (fwS L d f base k) (d k) k k) zo
   rw [e]; omega
  ·exact ih j zo
theorem bwP_ht {x : Nat → Rat} {t : Rat} {S D E : Nat} (hU : ∀ c, c < n → htq (U k c) ≤ S) (ht : htq t ≤ D) (hg : k + 1 + g = n) : ∀ h, h ≤ g → (∀ c, c < h → htq (x (k + 1 + c)) + S + 1 ≤ 2 ^ (g - 1 - c) * E) → htq (bwP U x t k h) + 2 ^ (g - h) * E ≤ D + 2 ^ g * E
 | 0, _, _ => by show htq t + _ ≤ _; rw [Nat.sub_zero]; omega
 | h + 1, hh, hx => by
  have ih := bwP_ht hU ht hg h zo fun c hc => hx c zo
  have h1 := ht_sub (bwP U x t k h) (U k (k + 1 + h) * x (k + 1 + h))
  have h2 := ht_mul (U k (k + 1 + h)) (x (k + 1 + h))
  have h3 := hU (k + 1 + h) zo
  have h4 := hx h (Nat.lt_succ_self h)
  show htq (bwP U x t k h - U k (k + 1 + h) * x (k + 1 + h)) + 2 ^ (g - (h + 1)) * E ≤ _
  have e : 2 ^ (g - h) * E = 2 ^ (g - (h + 1)) * E + 2 ^ (g - (h + 1)) * E := by
   rw [show g - h = (g - (h + 1)) + 1 by omega, Nat.pow_succ, Nat.mul_comm _ 2, Nat.mul_assoc, Nat.two_mul]
  rw [show g - 1 - h = g - (h + 1) by omega] at h4
  omega
theorem bw_ht {S D : Nat} (hU : ∀ k, k < n → ∀ c, c < n → htq (U k c) ≤ S) (hz : ∀ k, k < n → htq (z k) ≤ D) (hf : ∀ k x, k < n → htq (f k x) ≤ htq x + S) : ∀ g, g ≤ n → ∀ i, i < g → htq (bwS U z f n g (n - 1 - i)) + S + 1 ≤ 2 ^ i * (D + 2 * S + 1)
 | 0, _, i, hi => absurd hi (Nat.not_lt_zero i)
 | g + 1, hg, i, hi => by
  have ih := bw_ht hU hz hf g zo
  show htq (if n - 1 - i = n - 1 - g then _ else _) + S + 1 ≤ _
  split
  ·rename_i e
   obtain rfl : i = g := by omega
   have h1 := bwP_ht (U := U) (n := n) (k := n - 1 - i) (g := i) (x := bwS U z f n i) (t := z (n - 1 - i)) (E := D + 2 * S + 1) (hU _ zo) (hz _ zo) zo i (Nat.le_refl i) fun c hc => by
    have := ih (i - 1 - c) zo
    rwa [show n - 1 - (i - 1 - c) = n - 1 - i + 1 + c by omega] at this
   rw [Nat.sub_self] at h1
   have h2 := hf (n - 1 - i) (bwP U (bwS U z f n i) (z (n - 1 - i)) (n - 1 - i) i) zo
   omega
  ·exact ih i zo
end
def luZ (n : Nat) (L : Nat → Nat → Rat) (d : Nat → Rat) : Nat → Rat := fwS L d (fun _ x => x) (fun _ => 0) n
def luX (n : Nat) (U L : Nat → Nat → Rat) (d : Nat → Rat) : Nat → Rat := bwS U (luZ n L d) (fun k x => x / U k k) n n
def luY (n : Nat) (U : Nat → Nat → Rat) (c : Nat → Rat) : Nat → Rat := fwS (trM U) c (fun k x => x / U k k) c n
def luW (n : Nat) (U L : Nat → Nat → Rat) (c : Nat → Rat) : Nat → Rat := bwS (trM L) (luY n U c) (fun _ x => x) n n
theorem sum_swap {n : Nat} {F : Nat → Nat → Rat} {x y : Nat → Rat} : sumQ (fun j => sumQ (fun k => x k * F k j) n * y j) n = sumQ (fun k => x k * sumQ (fun j => F k j * y j) n) n := by
 rw [sumQ_congr n (g := fun j => sumQ (fun k => x k * (F k j * y j)) n) fun j _ => by
  have : sumQ (fun k => x k * F k j) n * y j = y j * sumQ (fun k => x k * F k j) n := by grind
  rw [this, ← sumQ_mul]; exact sumQ_congr n fun k _ => by grind, sumQ_comm (fun j k => x k * (F k j * y j)) n n]
 exact sumQ_congr n fun k _ => sumQ_mul _ _ _
theorem lu_solves {n : Nat} {A : Nat → Nat → Rat} {b : Nat → Rat} (h : luOK n A n) {r : Nat} (hr : r < n) : sumQ (fun j => A r j * luX n (luS n A n).1 (luS n A n).2.1 (fun i => b ((luS n A n).2.2.1 i)) j) n = b r := by
 have hB := lu_bij (n := n) (A := A) n (Nat.le_refl n) h
 have I := lu_inv (n := n) (A := A) n (Nat.le_refl n) h
 have hp : ∀ j, j < n → A r j = sumQ (fun k => (luS n A n).2.1 ((luS n A n).2.2.2.1 r) k * (luS n A n).1 k j) n := fun j hj => by
  rw [← lu_prod h (hB.lt' r hr) hj, hB.inv']
 rw [sumQ_congr n fun j hj => by rw [hp j hj], sum_swap]
 rw [sumQ_congr n (g := fun k => (luS n A n).2.1 ((luS n A n).2.2.2.1 r) k * luZ n (luS n A n).2.1 (fun i => b ((luS n A n).2.2.1 i)) k) fun k hk => by
  rw [show sumQ (fun j => (luS n A n).1 k j * luX n (luS n A n).1 (luS n A n).2.1 (fun i => b ((luS n A n).2.2.1 i)) j) n = _ from bw_divides I.piv (fun i k hi hk hki => I.below i k hi hk hki) (fun _ _ => rfl) hk]]
 have := fw_solves (base := fun _ => 0) (d := fun i => b ((luS n A n).2.2.1 i)) (f := fun _ x => x) I.one (fun i k hi hik => I.above i k hi hik) (fun _ _ => rfl) (hB.lt' r hr)
 rw [hB.inv'] at this
 exact this
open Go.RowKit
theorem CallOK.frzI {P : Program} {f : FuncId} {As : List SV} {T : TypeId} {n : Nat} {a : Nat → Int} (h : CallOK P f As (.own 0 0) [.one (.row T 1 (fun i => .ex (.int .i64 (a i))) n)]) : CallOK P f As (.sl 1 (fun i => .ex (.int .i64 (a i))) n) [] :=
 h.told [] (Eq.mp (α := n = n ∧ ∀ j, j < n → a j = a j) (by kernel_rfl) ⟨rfl, fun _ _ => rfl⟩)
theorem sCloneNil {a : Nat → Int}  : CallOK Tryz.prog 118 [.ex (.slice none 0 0)] (.own 0 0) [.one (.row 3 1 (fun i0 => .ex (.int .i64 (a i0))) 0)] := by
 exact kP (ch := [.dec 4 true, .ret 2 [(0, .nil)]]) Tryz.func118 ((true = true) ∧ (_ ∧ _))
  ⟨rfl, (rf 0), (rf 0)⟩
theorem sCloneSome {a : Nat → Int} {n : Nat} (h0 : 0 < n) (hn : n ≤ 68719476736) : CallOK Tryz.prog 118 [.sl 1 (fun i0 => .ex (.int .i64 (a i0))) n] (.own 0 0) [.one (.row 3 1 (fun i0 => .ex (.int .i64 (a i0))) n)] := by
 exact kP (ch := [.dec 4 false, .reg 3 [(2, .row 0 (fun i0 => .ex (.int .i64 (a i0))))], .ret 3 [(0, .id 1)]]) Tryz.func118 ((∀ j0, j0 < n → True) ∧ (0 < n) ∧ (false = false) ∧ (0 + n ≤ 68719476736) ∧ (∀ j0, j0 < 0 → (.ex (.int .i64 (a j0)) : SV) = .any) ∧ (∀ j0, j0 < n → ((a j0 : Int) = (a (0 + j0)))) ∧ (_ ∧ ((0 + n : Nat) = n) ∧ _))
  ⟨(fun _ _ => trivial), zo, rfl, zo, (fun j0 hj0 => absurd hj0 (Nat.not_lt_zero j0)), (fun j0 hj0 => by rw [Nat.zero_add]), (rf 0), zo, (leS (fun i0 => .ex (.int .i64 (a i0))) (0 + n))⟩
theorem sCloneZero {a : Nat → Int} {ad : Addr} {c : Nat}  : CallOK Tryz.prog 118 [.ex (.slice (some ad) 0 c)] (.own 0 0) [.one (.row 3 1 (fun i0 => .ex (.int .i64 (a i0))) 0)] := by
 exact kP (ch := [.dec 4 false, .reg 3 [(2, .row 0 (fun i0 => .ex (.int .i64 (a i0))))], .ret 3 [(0, .id 1)]]) Tryz.func118 ((false = false) ∧ (0 + 0 ≤ 68719476736) ∧ (∀ j0, j0 < 0 → (.ex (.int .i64 (a j0)) : SV) = .any) ∧ (∀ j0, j0 < 0 → (False)) ∧ (_ ∧ ((0 + 0 : Nat) = 0) ∧ _))
  ⟨rfl, zo, (fun j0 hj0 => absurd hj0 (Nat.not_lt_zero j0)), (fun j0 hj0 => absurd hj0 (Nat.not_lt_zero j0)), (rf 0), rfl, (leS (fun i0 => .ex (.int .i64 (a i0))) (0 + 0))⟩
theorem sClone {a : Nat → Int} {n : Nat} (hn : n ≤ 68719476736) : CallOK Tryz.prog 118 [.sl 1 (fun i => .ex (.int .i64 (a i))) n] (.own 0 0) [.one (.row 3 1 (fun i => .ex (.int .i64 (a i))) n)] := by
 by_cases h : 0 < n
 ·exact sCloneSome h hn
 ·obtain rfl : n = 0 := by omega
  refine ⟨(sCloneNil (a := a)).cal, fun η0 F w vals hF hA => ?_⟩
  match vals, hA with
  | [v], hA =>
   obtain ⟨A0, c, rfl, hz, _⟩ := hA.1
   cases A0 with
   | none =>
    obtain ⟨_, rfl⟩ := hz rfl
    exact (sCloneNil (a := a)).run η0 F w _ hF ⟨rfl, trivial⟩
   | some ad => exact (sCloneZero (a := a) (ad := ad) (c := c)).run η0 F w _ hF ⟨rfl, trivial⟩
  | [], hA => exact hA.elim
  | _ :: _ :: _, hA => exact hA.2.elim
open Go.RowKit
theorem not_dec {P : Prop} [Decidable P] (h : (!decide P) = false) : P := by simpa using h
theorem ok_next {n g : Nat} {q : Nat → Nat → Rat} (h : luOK n q g) (hk : luK n (luS n q g) g < n) : luOK n q (g + 1) := fun k hk2 => by
 by_cases e : k = g
 ·rw [e]; exact hk
 ·exact h k zo
def prodD (U : Nat → Nat → Rat) : Nat → Rat
 | 0 => 1
 | k + 1 => prodD U k * U k k
theorem prod_ht {n : Nat} {U : Nat → Nat → Rat} (hU : ∀ k, k < n → htq (U k k) ≤ 30000) : ∀ k, k ≤ n → htq (prodD U k) ≤ 1 + k * 30000
 | 0, _ => by show htq 1 ≤ _; rw [ht_one]; omega
 | k + 1, h => by
  have ih := prod_ht hU k zo
  have h1 := ht_mul (prodD U k) (U k k)
  have h2 := hU k zo
  show htq (prodD U k * U k k) ≤ _
  omega
theorem prod_room {n g : Nat} {U : Nat → Nat → Rat} (hU : ∀ k, k < n → htq (U k k) ≤ 30000) (hg : g < n) (hn : n ≤ 64) : szq (prodD U g) + szq (U g g) ≤ 17179869184 := by
 have h1 := prod_ht hU g zo
 have h2 := hU g hg
 exact ht_room (S := 4000000) zo zo (by decide)
section
variable {L U : Nat → Nat → Rat} {d base z : Nat → Rat} {f : Nat → Rat → Rat} {n g h : Nat}
theorem pow_le6 {k E T : Nat} (hk : k ≤ 6) (h : 64 * E ≤ T) : 2 ^ k * E ≤ T := Nat.le_trans (Nat.mul_le_mul_right _ (Nat.pow_le_pow_right (by decide) hk)) h
theorem fw_top (hL : ∀ k, k < n → ∀ c, c < n → htq (L k c) ≤ 30000) (hd : ∀ k, k < n → htq (d k) ≤ 100) (hf : ∀ k x, k < n → htq (f k x) ≤ htq x + 30000) (hn : n ≤ 6) : ∀ j, j < n → htq (fwS L d f base n j) ≤ 3900000 := fun j hj => by
 have h1 := fw_ht (base := base) (fun k hk c hc => hL k hk c zo) hd hf n (Nat.le_refl n) j hj
 have h2 := pow_le6 (k := j) (E := 100 + 2 * 30000 + 1) (T := 3900000) zo (by decide)
 omega
theorem fwI_ht (hL : ∀ k, k < n → ∀ c, c < n → htq (L k c) ≤ 30000) (hd : ∀ k, k < n → htq (d k) ≤ 100) (hf : ∀ k x, k < n → htq (f k x) ≤ htq x + 30000) (hn : n ≤ 6) (hg : g < n) (hh : h ≤ g) {j : Nat} (hj : j ≤ g) : htq (fwI L d f base g h j) ≤ 3900100 := by
 have h0 := fw_ht (base := base) (fun k hk c hc => hL k hk c zo) hd hf g zo
 unfold fwI
 split
 ·have h1 := par_ht (fun c hc => hL g hg c zo) (hd g hg) h hh fun c hc => h0 c zo
  have h2 := pow_le6 (k := h) (E := 100 + 2 * 30000 + 1) (T := 3900000) zo (by decide)
  omega
 ·have h1 := h0 j zo
  have h2 := pow_le6 (k := j) (E := 100 + 2 * 30000 + 1) (T := 3900000) zo (by decide)
  omega
theorem room_ms {a b r : Rat} {S : Nat} (ha : htq a ≤ S) (hb : htq b ≤ S) (hr : htq r ≤ S) (hS : S ≤ 1073741824) : szq r + szq b ≤ 17179869184 ∧ szq a + szq (r * b) ≤ 17179869184 := ht_room2 ha hb hr hS
theorem fw_room (hL : ∀ k, k < n → ∀ c, c < n → htq (L k c) ≤ 30000) (hd : ∀ k, k < n → htq (d k) ≤ 100) (hf : ∀ k x, k < n → htq (f k x) ≤ htq x + 30000) (hn : n ≤ 6) (hg : g < n) (hh : h < g) : szq (L g h) + szq (fwI L d f base g h h) ≤ 17179869184 ∧ szq (fwI L d f base g h g) + szq (L g h * fwI L d f base g h h) ≤ 17179869184 :=
 room_ms (S := 3900100) (fwI_ht hL hd hf hn hg zo (Nat.le_refl g)) (fwI_ht hL hd hf hn hg zo zo) (Nat.le_trans (hL g hg h zo) (by decide)) (by decide)
theorem fw_div (hL : ∀ k, k < n → ∀ c, c < n → htq (L k c) ≤ 30000) (hd : ∀ k, k < n → htq (d k) ≤ 100) (hf : ∀ k x, k < n → htq (f k x) ≤ htq x + 30000) (hn : n ≤ 6) (hg : g < n) (hh : h ≤ g) {u : Rat} (hu : htq u ≤ 30000) : szq (fwI L d f base g h g) + szq u + 1 ≤ 17179869184 := by
 have h1 := fwI_ht (base := base) hL hd hf hn hg hh (Nat.le_refl g)
 have := sz_ht (fwI L d f base g h g)
 have := sz_ht u
 omega
theorem bwI_ht (hU : ∀ k, k < n → ∀ c, c < n → htq (U k c) ≤ 30000) (hz : ∀ j, j < n → htq (z j) ≤ 3900000) (hf : ∀ k x, k < n → htq (f k x) ≤ htq x + 30000) (hn : n ≤ 6) (hg : g < n) (hh : h ≤ g) {j : Nat} (hj : j < n) (hj2 : n - 1 - g ≤ j) : htq (bwI U z f n g h j) ≤ 260000000 := by
 have h0 := bw_ht hU hz hf g zo
 unfold bwI
 split
 ·have h1 := bwP_ht (U := U) (n := n) (k := n - 1 - g) (g := g) (x := bwS U z f n g) (t := z (n - 1 - g)) (E := 3900000 + 2 * 30000 + 1) (hU _ zo) (hz _ zo) zo h hh fun c hc => by
   have := h0 (g - 1 - c) zo
   rwa [show n - 1 - (g - 1 - c) = n - 1 - g + 1 + c by omega] at this
  have h2 := pow_le6 (k := g) (E := 3900000 + 2 * 30000 + 1) (T := 255000000) zo (by decide)
  omega
 ·have h1 := h0 (n - 1 - j) zo
  rw [show n - 1 - (n - 1 - j) = j by omega] at h1
  have h2 := pow_le6 (k := n - 1 - j) (E := 3900000 + 2 * 30000 + 1) (T := 255000000) zo (by decide)
  omega
theorem bw_room (hU : ∀ k, k < n → ∀ c, c < n → htq (U k c) ≤ 30000) (hz : ∀ j, j < n → htq (z j) ≤ 3900000) (hf : ∀ k x, k < n → htq (f k x) ≤ htq x + 30000) (hn : n ≤ 6) (hg : g < n) (hh : h < g) : szq (U (n - 1 - g) (n - 1 - g + 1 + h)) + szq (bwI U z f n g h (n - 1 - g + 1 + h)) ≤ 17179869184 ∧ szq (bwI U z f n g h (n - 1 - g)) + szq (U (n - 1 - g) (n - 1 - g + 1 + h) * bwI U z f n g h (n - 1 - g + 1 + h)) ≤ 17179869184 :=
 room_ms (S := 260000000) (bwI_ht hU hz hf hn hg zo zo (Nat.le_refl _)) (bwI_ht hU hz hf hn hg zo zo zo) (Nat.le_trans (hU _ zo _ zo) (by decide)) (by decide)
theorem bw_div (hU : ∀ k, k < n → ∀ c, c < n → htq (U k c) ≤ 30000) (hz : ∀ j, j < n → htq (z j) ≤ 3900000) (hf : ∀ k x, k < n → htq (f k x) ≤ htq x + 30000) (hn : n ≤ 6) (hg : g < n) (hh : h ≤ g) : szq (bwI U z f n g h (n - 1 - g)) + szq (U (n - 1 - g) (n - 1 - g)) + 1 ≤ 17179869184 := by
 have h1 := bwI_ht hU hz hf hn hg hh (j := n - 1 - g) zo (Nat.le_refl _)
 have h2 := hU (n - 1 - g) zo (n - 1 - g) zo
 have := sz_ht (bwI U z f n g h (n - 1 - g))
 have := sz_ht (U (n - 1 - g) (n - 1 - g))
 omega
end
def yP (ρ : Nat → Nat) (w : Nat → Rat) (g j : Nat) : Rat := if ρ j < g then w (ρ j) else 0
theorem yP_zero {ρ : Nat → Nat} {w : Nat → Rat} {j : Nat} : yP ρ w 0 j = 0 := if_neg (Nat.not_lt_zero _)
theorem yP_all {ρ : Nat → Nat} {w : Nat → Rat} {n j : Nat} (h : ρ j < n) : yP ρ w n j = w (ρ j) := if_pos h
theorem yP_at {n g : Nat} {P ρ : Nat → Nat} {w : Nat → Rat} (H : Bij n P ρ) : w g = yP ρ w (g + 1) (P g) := by
 unfold yP; rw [H.inv, if_pos (Nat.lt_succ_self g)]
theorem yP_ne {n g j : Nat} {P ρ : Nat → Nat} {w : Nat → Rat} (H : Bij n P ρ) (h : j ≠ P g) : yP ρ w (g + 1) j = yP ρ w g j := by
 have : ρ j ≠ g := fun e => h (by rw [← e, H.inv'])
 unfold yP
 by_cases k : ρ j < g
 ·rw [if_pos k, if_pos zo]
 ·rw [if_neg k, if_neg zo]
theorem sLuStepNo {U L : Nat → Nat → Rat} {P ρ : Nat → Nat} {o : Bool} {n c : Nat} (hn : n ≤ 68719476736) (hc : c < n) (hk : ¬ luK n (U, L, P, ρ, o) c < n) : CallOKm Tryz.prog 81 [.one (.var 120 (.agg (.cn (.own 1 0) (.cn (.own 2 0) (.cn (.own 3 0) (.cn (.ex (.bool o)) (.nl))))))), .one (.row 69 1 (fun i0 => .own 4 (P i0)) n), .one (.row 69 1 (mE U n) n), .one (.row 3 1 (fun i0 => .ex (.int .i64 (P i0 : Int))) n), .fam n (fun i0 => .row 55 3 (fun i1 => .rat (L (ρ i0) i1)) n)] [.own 0 0, .ex (.int .i64 (c : Int))] (.ex (.bool false)) [.one (.var 120 (.agg (.cn (.own 5 0) (.cn (.own 6 0) (.cn (.own 7 0) (.cn (.ex (.bool o)) (.nl))))))), .dead, .dead, .dead, .dead, .one (.row 69 1 (fun i0 => .own 8 (P i0)) n), .one (.row 69 1 (mE U n) n), .one (.row 3 1 (fun i0 => .ex (.int .i64 (P i0 : Int))) n), .fam n (fun i0 => .row 55 3 (fun i1 => .rat (L (ρ i0) i1)) n)] := by
 exact callOKm_P (ch := fun B => [.loop 2 (Nat) (fun g => c ≤ g ∧ g ≤ n ∧ leadK U c c (n - c) = leadK U c g (n - g)) (fun g => n - g) (fun g => ⟨[(0, .own 0 0), (1, .ex (.int .i64 (c : Int))), (5, .ex (.int .i64 (g : Int)))], [(0, .one (.var 120 (.agg (.cn (.own 1 0) (.cn (.own 2 0) (.cn (.own 3 0) (.cn (.ex (.bool o)) (.nl)))))) (some (B 0)))), (1, .one (.row 69 1 (fun i0 => .own 4 (P i0)) n)), (2, .one (.row 69 1 (mE U n) n)), (3, .one (.row 3 1 (fun i0 => .ex (.int .i64 (P i0 : Int))) n)), (4, .fam n (fun i0 => .row 55 3 (fun i1 => .rat (L (ρ i0) i1)) n))], 5⟩) [(0, .id 0), (1, .id 1), (2, .id 2), (3, .id 3), (4, .id 4)] (fun _ => [(0, .id 0), (1, .id 1), (2, .id 2), (3, .id 3), (4, .id 4)]) (fun g => [.reg 2 [(13, .k g), (16, .k c), (18, .callS (.ex (.bool (decide (U g c = 0)))) [])], .reg 3 [(1, .z ((g + 1 : Nat) : Int))], .dec 38 true, .ret 5 [(0, .id 0), (5, .id 1), (6, .id 2), (7, .id 3), (8, .id 4)]])]) hMix Tryz.func81 rfl (by kernel_rfl) (by kernel_rfl) (by kernel_rfl) (fun B => (((fun X1 X2 X3 X4 X5 X6 X7 X8 X9 X10 X11 X12 X13 : Prop => ∃ g0 : Nat, X1 ∧ X2 ∧ ((c : Int) = (g0 : Int)) ∧ X3 ∧ X4 ∧ X5 ∧ X6 ∧ X7 ∧ X8 ∧ (∀ j0, j0 < n → ((P j0 : Nat) = (P j0))) ∧ X9 ∧ X10 ∧ X11 ∧ X12 ∧ X13 ∧ (∀ j0, j0 < n → ((n : Nat) = n) ∧ (∀ j1, j1 < n → ((L (ρ j0) j1 : Rat) = (L (ρ j0) j1)))) ∧ (c ≤ g0 ∧ g0 ≤ n ∧ leadK U c c (n - c) = leadK U c g0 (n - g0))) _ _ _ _ _ _ _ _ _ _ _ _ _) ∧ ∀ g : Nat, (c ≤ g ∧ g ≤ n ∧ leadK U c c (n - c) = leadK U c g (n - g)) → (((decide ((g : Int) < (n : Int))) == true) = true → ((decide ((g : Int) < (n : Int))) == true) = true) ∧ (((decide ((g : Int) < (n : Int))) == true) = true → ((decide ((g : Int) < (n : Int))) == true) = true) ∧ (((decide ((g : Int) < (n : Int))) == true) = true → ((decide ((g : Int) < (n : Int))) == true) = true) ∧ (((decide ((g : Int) < (n : Int))) == true) = true → ((decide ((g : Int) < (n : Int))) == true) = true) ∧ (((decide ((g : Int) < (n : Int))) == true) = true → ((decide ((g : Int) < (n : Int))) == true) = true) ∧ (((decide ((g : Int) < (n : Int))) == true) = true → _) ∧ (((decide ((g : Int) < (n : Int))) == true) = true → g < n) ∧ (((decide ((g : Int) < (n : Int))) == true) = true → ((decide ((g : Int) < (n : Int))) == true) = true) ∧ (((decide ((g : Int) < (n : Int))) == true) = true → g < n) ∧ (((decide ((g : Int) < (n : Int))) == true) = true → ((decide ((g : Int) < (n : Int))) == true) = true) ∧ (((decide ((g : Int) < (n : Int))) == true) = true → ((decide ((g : Int) < (n : Int))) == true) = true) ∧ (((decide ((g : Int) < (n : Int))) == true) = true → _) ∧ (((decide ((g : Int) < (n : Int))) == true) = true → c < n) ∧ (((decide ((g : Int) < (n : Int))) == true) = true → ((decide ((g : Int) < (n : Int))) == true) = true) ∧ (((decide ((g : Int) < (n : Int))) == true) = true → ((decide ((g : Int) < (n : Int))) == true) = true) ∧ (((decide ((g : Int) < (n : Int))) == true) = true → _) ∧ ((decide ((g : Int) < (n : Int))) = true → ((decide ((g : Int) < (n : Int))) == true) = true) ∧ (((bif (decide ((g : Int) < (n : Int))) then (decide (U g c = 0)) else false) = true → (IntKind.wrap .i64 ((g : Int) + 1) = (((g + 1 : Nat) : Int))) ∧ ((fun X1 X2 X3 X4 X5 X6 X7 X8 X9 X10 X11 X12 X13 : Prop => ∃ g1 : Nat, X1 ∧ X2 ∧ (((g + 1 : Nat) : Int) = (g1 : Int)) ∧ X3 ∧ X4 ∧ X5 ∧ X6 ∧ X7 ∧ X8 ∧ (∀ j0, j0 < n → ((P j0 : Nat) = (P j0))) ∧ X9 ∧ X10 ∧ X11 ∧ X12 ∧ X13 ∧ (∀ j0, j0 < n → ((n : Nat) = n) ∧ (∀ j1, j1 < n → ((L (ρ j0) j1 : Rat) = (L (ρ j0) j1)))) ∧ (c ≤ g1 ∧ g1 ≤ n ∧ leadK U c c (n - c) = leadK U c g1 (n - g1)) ∧ (n - g1 < n - g)) _ _ _ _ _ _ _ _ _ _ _ _ _)) ∧ ((bif (decide ((g : Int) < (n : Int))) then (decide (U g c = 0)) else false) = false → ((decide ((g : Int) = (n : Int))) = true) ∧ (_ ∧ _ ∧ _ ∧ _ ∧ _ ∧ _ ∧ _ ∧ (∀ j0, j0 < n → ((P j0 : Nat) = (P j0))) ∧ _ ∧ _ ∧ _ ∧ _ ∧ _ ∧ (∀ j0, j0 < n → ((n : Nat) = n) ∧ (∀ j1, j1 < n → ((L (ρ j0) j1 : Rat) = (L (ρ j0) j1))))))))) (fun B => by kernel_rfl)
  (fun B => ⟨⟨c, (rf 0), (rf (c : Int)), zo, (rf (some (B 0))), (rf 0), (rf 0), (rf 0), (rf (o : Bool)), (rf n), (fun j0 hj0 => rfl), (rf n), (leS (mE U n) n), (rf n), (leS (fun i0 => .ex (.int .i64 (P i0 : Int))) n), (rf n), (fun j0 hj0 => ⟨rfl, (fun j1 hj1 => rfl)⟩), Nat.le_refl _, by omega, rfl⟩, fun g hg0 => have hg1 := hg0.1; have hg2 := hg0.2.1; ⟨id, id, id, id, id, (fun hg => (rf (g : Int))), (fun hg => (by have hg2 := of_guard hg; omega)), id, (fun hg => (by have hg2 := of_guard hg; omega)), id, id, (fun hg => (rf (c : Int))), (fun hg => zo), id, id, (fun hg => sRatZero (q := U g c)), (by simp), fun hc29 => have hz := step_yes hc29; ⟨(by rw [IntKind.wrap_i64]; omega), g + 1, (rf 0), (rf (c : Int)), zo, (rf (some (B 0))), (rf 0), (rf 0), (rf 0), (rf (o : Bool)), (rf n), (fun j0 hj0 => rfl), (rf n), (leS (mE U n) n), (rf n), (leS (fun i0 => .ex (.int .i64 (P i0 : Int))) n), (rf n), (fun j0 hj0 => ⟨rfl, (fun j1 hj1 => rfl)⟩), ⟨by omega, by omega, hg0.2.2.trans (leadK_step hz.1 hz.2)⟩, zo⟩, fun hc29 => have hz := step_no hg2 hc29; have hK : luK n (U, L, P, ρ, o) c = g := step_K hg0.2.2 hz; have hgn : ¬ g < n := (by rw [← hK]; exact hk); ⟨(by simp; omega), (rf (false : Bool)), (rf (some (B 0))), (rf 0), (rf 0), (rf 0), (rf (o : Bool)), (rf n), (fun j0 hj0 => rfl), (rf n), (leS (mE U n) n), (rf n), (leS (fun i0 => .ex (.int .i64 (P i0 : Int))) n), (rf n), (fun j0 hj0 => ⟨rfl, (fun j1 hj1 => rfl)⟩)⟩⟩⟩)
def luT (n : Nat) (s : LuS) (c : Nat) : LuS := if luK n s c < n then luStep n s c else s
theorem luT_yes {n : Nat} {s : LuS} {c : Nat} (h : luK n s c < n) : luT n s c = luStep n s c := if_pos h
theorem sLuStepT {U L : Nat → Nat → Rat} {P ρ : Nat → Nat} {o : Bool} {n c : Nat} (hn : n ≤ 68719476736) (hc : c < n) (hB : Bij n P ρ) (hH : HtB n n 100000000 U) : CallOKm Tryz.prog 81 [.one (.var 120 (.agg (.cn (.own 1 0) (.cn (.own 2 0) (.cn (.own 3 0) (.cn (.ex (.bool o)) (.nl))))))), .one (.row 69 1 (fun i0 => .own 4 (P i0)) n), .one (.row 69 1 (mE U n) n), .one (.row 3 1 (fun i0 => .ex (.int .i64 (P i0 : Int))) n), .fam n (fun i0 => .row 55 3 (fun i1 => .rat (L (ρ i0) i1)) n)] [.own 0 0, .ex (.int .i64 (c : Int))] (.ex (.bool (decide (luK n (U, L, P, ρ, o) c < n)))) [.one (.var 120 (.agg (.cn (.own 5 0) (.cn (.own 6 0) (.cn (.own 7 0) (.cn (.ex (.bool ((luT n (U, L, P, ρ, o) c).2.2.2.2))) (.nl))))))), .dead, .dead, .dead, .dead, .one (.row 69 1 (fun i0 => .own 8 ((luT n (U, L, P, ρ, o) c).2.2.1 i0)) n), .one (.row 69 1 (mE ((luT n (U, L, P, ρ, o) c).1) n) n), .one (.row 3 1 (fun i0 => .ex (.int .i64 (((luT n (U, L, P, ρ, o) c).2.2.1 i0 : Nat) : Int))) n), .fam n (fun i0 => .row 55 3 (fun i1 => .rat ((luT n (U, L, P, ρ, o) c).2.1 ((luT n (U, L, P, ρ, o) c).2.2.2.1 i0) i1)) n)] := by
 by_cases h : luK n (U, L, P, ρ, o) c < n
 ·rw [decide_eq_true h, luT_yes h]
  exact sLuStep hn hc hB hH h
 ·rw [decide_eq_false h, show luT n (U, L, P, ρ, o) c = (U, L, P, ρ, o) from if_neg h]
  exact sLuStepNo hn hc h
theorem sLuFactor {q : Nat → Nat → Rat} {n : Nat} (hn : n ≤ 64) (hH : ∀ c, c ≤ n → luOK n q c → HtB n n 100000000 (luS n q c).1) (hok : luOK n q n) : CallOK Tryz.prog 30 [.agg (.cn (.sl 1 (mE q n) n) (.cn (.ex (.int .i64 (n : Int))) (.nl)))] (.cn (.ep (.agg (.cn (.sl 1 (mE (luS n q n).2.1 n) n) (.cn (.sl 1 (mE ((luS n q n).1) n) n) (.cn (.sl 1 (fun i0 => .ex (.int .i64 (((luS n q n).2.2.1 i0 : Nat) : Int))) n) (.cn (.ex (.bool ((luS n q n).2.2.2.2))) (.nl))))))) (.cn (.ex (.bool true)) (.nl))) [] := by
 exact kP (ch := [.reg 1 [(1, .callS (.ex (.int .i64 (n : Int))) [])], .reg 2 [(2, .callS (.ex (.int .i64 (n : Int))) [])], .dec 15 false, .loop 6 (Nat) (fun g => g ≤ n) (fun g => n - g) (fun g => ⟨[(1, .own 0 0), (4, .ex (.int .i64 (n : Int))), (5, .own 1 0), (18, .ex (.int .i64 (n : Int))), (19, .ex (.int .i64 (g : Int)))], [(0, .one (.var 32 (.agg (.cn (.sl 1 (mE q n) n) (.cn (.ex (.int .i64 (n : Int))) (.nl)))))), (1, .one (.var 120 (.agg (.cn (.own 2 0) (.cn (.own 3 0) (.cn (.own 4 0) (.cn (.ex (.bool false)) (.nl)))))))), (2, .one (.row 69 1 (fun i0 => .own 5 i0) g)), (3, .one (.row 69 1 (mE q n) g)), (4, .one (.row 3 1 (fun i0 => .ex (.int .i64 (i0 : Int))) g)), (5, .fam g (fun _ => .row 55 3 (fun _ => .rat 0) n))], 6⟩) [(0, .id 0), (1, .id 1), (2, .nil), (3, .nil), (4, .nil), (5, .emp)] (fun g => [(0, .id 0), (1, .id 1), (2, .id 8), (3, .id 6), (4, .id 9), (5, .put 5 g 7)]) (fun g => [.reg 8 [(2, .callS (.cn (.sl 3 (fun i0 => .rat (q g i0)) n) (.cn (.ex (.bool true)) (.nl))) [])], .reg 9 [(7, .row 0 (mE q n))], .reg 10 [(6, .row n (fun _ => .rat 0)), (8, .row 0 (fun i0 => .own (if i0 < g then 5 else 7) (if i0 < g then i0 else 0)))], .reg 11 [(7, .row 0 (fun i0 => .ex (.int .i64 (i0 : Int))))], .reg 12 [(0, .z ((g + 1 : Nat) : Int))], .loop 14 (Nat) (fun g => g ≤ n) (fun g => n - g) (fun g => ⟨[(5, .own 1 0), (60, .ex (.int .i64 (n : Int))), (61, .ex (.int .i64 (g : Int)))], [(0, .one (.var 32 (.agg (.cn (.sl 1 (mE q n) n) (.cn (.ex (.int .i64 (n : Int))) (.nl)))))), (1, .one (.var 120 (.agg (.cn (.own 2 0) (.cn (.own 3 0) (.cn (.own 4 0) (.cn (.ex (.bool ((luS n q g).2.2.2.2))) (.nl)))))))), (2, .one (.row 69 1 (fun i0 => .own 5 ((luS n q g).2.2.1 i0)) n)), (3, .one (.row 69 1 (mE ((luS n q g).1) n) n)), (4, .one (.row 3 1 (fun i0 => .ex (.int .i64 (((luS n q g).2.2.1 i0 : Nat) : Int))) n)), (5, .fam n (fun i0 => .row 55 3 (fun i1 => .rat ((luS n q g).2.1 ((luS n q g).2.2.2.1 i0) i1)) n))], 6⟩) [(0, .id 0), (1, .id 1), (2, .id 2), (3, .id 3), (4, .id 4), (5, .id 5)] (fun _ => [(0, .id 0), (1, .id 1), (2, .id 6), (3, .id 7), (4, .id 8), (5, .id 9)]) (fun g => [.reg 16 [(2, .callM [1, 2, 3, 4, 5] [.one (.var 120 (.agg (.cn (.own 1 0) (.cn (.own 2 0) (.cn (.own 3 0) (.cn (.ex (.bool ((luS n q g).2.2.2.2))) (.nl))))))), .one (.row 69 1 (fun i0 => .own 4 ((luS n q g).2.2.1 i0)) n), .one (.row 69 1 (mE ((luS n q g).1) n) n), .one (.row 3 1 (fun i0 => .ex (.int .i64 (((luS n q g).2.2.1 i0 : Nat) : Int))) n), .fam n (fun i0 => .row 55 3 (fun i1 => .rat ((luS n q g).2.1 ((luS n q g).2.2.2.1 i0) i1)) n)] [.own 0 0, .ex (.int .i64 (g : Int))] (.ex (.bool true)) [.one (.var 120 (.agg (.cn (.own 5 0) (.cn (.own 6 0) (.cn (.own 7 0) (.cn (.ex (.bool ((luStep n ((luS n q g).1, (luS n q g).2.1, (luS n q g).2.2.1, (luS n q g).2.2.2.1, (luS n q g).2.2.2.2) g).2.2.2.2))) (.nl))))))), .dead, .dead, .dead, .dead, .one (.row 69 1 (fun i0 => .own 8 ((luStep n ((luS n q g).1, (luS n q g).2.1, (luS n q g).2.2.1, (luS n q g).2.2.2.1, (luS n q g).2.2.2.2) g).2.2.1 i0)) n), .one (.row 69 1 (mE ((luStep n ((luS n q g).1, (luS n q g).2.1, (luS n q g).2.2.1, (luS n q g).2.2.2.1, (luS n q g).2.2.2.2) g).1) n) n), .one (.row 3 1 (fun i0 => .ex (.int .i64 (((luStep n ((luS n q g).1, (luS n q g).2.1, (luS n q g).2.2.1, (luS n q g).2.2.2.1, (luS n q g).2.2.2.2) g).2.2.1 i0 : Nat) : Int))) n), .fam n (fun i0 => .row 55 3 (fun i1 => .rat ((luStep n ((luS n q g).1, (luS n q g).2.1, (luS n q g).2.2.1, (luS n q g).2.2.2.1, (luS n q g).2.2.2.2) g).2.1 ((luStep n ((luS n q g).1, (luS n q g).2.1, (luS n q g).2.2.1, (luS n q g).2.2.2.1, (luS n q g).2.2.2.2) g).2.2.2.1 i0) i1)) n)])], .dec 67 false, .reg 18 [(0, .z ((g + 1 : Nat) : Int))], .conv 19 [(1, .id 1)] ⟨[(5, .own 1 0)], [(1, .one (.var 120 (.agg (.cn (.sl 1 (mE (luS n q g).2.1 n) n) (.cn (.sl 1 (mE ((luS n q g).1) n) n) (.cn (.sl 1 (fun i0 => .ex (.int .i64 (((luS n q g).2.2.1 i0 : Nat) : Int))) n) (.cn (.ex (.bool ((luS n q g).2.2.2.2))) (.nl))))))))], 2⟩])])]) Tryz.func30 ((∀ j0, j0 < n → (∀ j1, j1 < n → True)) ∧ _ ∧ _ ∧ ((!decide ((n : Int) = (n : Int))) = false) ∧ (((fun X1 X2 X3 X4 X5 X6 X7 X8 X9 X10 X11 : Prop => ∃ g0 : Nat, X1 ∧ X2 ∧ X3 ∧ X4 ∧ ((0 : Int) = (g0 : Int)) ∧ X5 ∧ X6 ∧ X7 ∧ X8 ∧ X9 ∧ X10 ∧ X11 ∧ ((g0 : Nat) = 0) ∧ ((g0 : Nat) = 0) ∧ ((g0 : Nat) = 0) ∧ ((g0 : Nat) = 0) ∧ (g0 ≤ n)) _ _ _ _ _ _ _ _ _ _ _) ∧ ∀ g : Nat, (g ≤ n) → (((decide ((g : Int) < (n : Int))) = true → _ ∧ (g + 1 ≤ 68719476736) ∧ _ ∧ _ ∧ _ ∧ _ ∧ (n ≤ 68719476736) ∧ (∀ j0, j0 < n → ((0 : Rat) = 0)) ∧ (g + 1 ≤ 68719476736) ∧ (∀ j0, j0 < g → (.own (if j0 < g then 5 else 7) (if j0 < g then j0 else 0) : SV) = .own 5 j0) ∧ (∀ j0, j0 < 1 → ((7 : Nat) = (if g + j0 < g then 5 else 7)) ∧ ((0 : Nat) = (if g + j0 < g then g + j0 else 0))) ∧ (g + 1 ≤ 68719476736) ∧ _ ∧ _ ∧ _ ∧ ((fun X1 X2 X3 X4 X5 X6 X7 X8 X9 X10 X11 X12 X13 X14 : Prop => ∃ g1 : Nat, X1 ∧ X2 ∧ X3 ∧ X4 ∧ (((g + 1 : Nat) : Int) = (g1 : Int)) ∧ X5 ∧ X6 ∧ X7 ∧ X8 ∧ X9 ∧ X10 ∧ X11 ∧ ((g + 1 : Nat) = g1) ∧ (∀ j0, j0 < (g + 1) → (((if j0 < g then 5 else 7 : Nat) = 7 ∧ (if j0 < g then j0 else 0 : Nat) = 0 ∧ (j0 : Nat) = g) ∨ ((if j0 < g then 5 else 7 : Nat) = 5 ∧ (if j0 < g then j0 else 0 : Nat) = j0 ∧ (j0 : Nat) ≠ g))) ∧ ((g + 1 : Nat) = g1) ∧ X12 ∧ ((g + 1 : Nat) = g1) ∧ X13 ∧ ((g1 : Nat) = g + 1) ∧ X14 ∧ (((n : Nat) = n) ∧ (∀ j1, j1 < n → ((0 : Rat) = 0))) ∧ (∀ j0, j0 < g → ((n : Nat) = n) ∧ (∀ j1, j1 < n → ((0 : Rat) = 0))) ∧ (g1 ≤ n) ∧ (n - g1 < n - g)) _ _ _ _ _ _ _ _ _ _ _ _ _ _)) ∧ ((decide ((g : Int) < (n : Int))) = false → (((fun X1 X2 X3 X4 X5 X6 X7 X8 : Prop => ∃ g0 : Nat, X1 ∧ X2 ∧ ((0 : Int) = (g0 : Int)) ∧ X3 ∧ X4 ∧ X5 ∧ X6 ∧ X7 ∧ X8 ∧ ((false : Bool) = ((luS n q g0).2.2.2.2)) ∧ ((g : Nat) = n) ∧ (∀ j0, j0 < g → ((j0 : Nat) = ((luS n q g0).2.2.1 j0))) ∧ ((g : Nat) = n) ∧ (∀ j0, j0 < g → ((n : Nat) = n) ∧ (∀ j1, j1 < n → ((q j0 j1 : Rat) = (((luS n q g0).1) j0 j1)))) ∧ ((g : Nat) = n) ∧ (∀ j0, j0 < g → ((j0 : Int) = (((luS n q g0).2.2.1 j0 : Nat) : Int))) ∧ ((g : Nat) = n) ∧ (∀ j0, j0 < g → ((n : Nat) = n) ∧ (∀ j1, j1 < n → ((0 : Rat) = ((luS n q g0).2.1 ((luS n q g0).2.2.2.1 j0) j1)))) ∧ (g0 ≤ n)) _ _ _ _ _ _ _ _) ∧ ∀ g : Nat, (g ≤ n) → (((decide ((g : Int) < (n : Int))) = true → (CallOKm Tryz.prog 81 [.one (.var 120 (.agg (.cn (.own 1 0) (.cn (.own 2 0) (.cn (.own 3 0) (.cn (.ex (.bool ((luS n q g).2.2.2.2))) (.nl))))))), .one (.row 69 1 (fun i0 => .own 4 ((luS n q g).2.2.1 i0)) n), .one (.row 69 1 (mE ((luS n q g).1) n) n), .one (.row 3 1 (fun i0 => .ex (.int .i64 (((luS n q g).2.2.1 i0 : Nat) : Int))) n), .fam n (fun i0 => .row 55 3 (fun i1 => .rat ((luS n q g).2.1 ((luS n q g).2.2.2.1 i0) i1)) n)] [.own 0 0, .ex (.int .i64 (g : Int))] (.ex (.bool true)) [.one (.var 120 (.agg (.cn (.own 5 0) (.cn (.own 6 0) (.cn (.own 7 0) (.cn (.ex (.bool ((luStep n ((luS n q g).1, (luS n q g).2.1, (luS n q g).2.2.1, (luS n q g).2.2.2.1, (luS n q g).2.2.2.2) g).2.2.2.2))) (.nl))))))), .dead, .dead, .dead, .dead, .one (.row 69 1 (fun i0 => .own 8 ((luStep n ((luS n q g).1, (luS n q g).2.1, (luS n q g).2.2.1, (luS n q g).2.2.2.1, (luS n q g).2.2.2.2) g).2.2.1 i0)) n), .one (.row 69 1 (mE ((luStep n ((luS n q g).1, (luS n q g).2.1, (luS n q g).2.2.1, (luS n q g).2.2.2.1, (luS n q g).2.2.2.2) g).1) n) n), .one (.row 3 1 (fun i0 => .ex (.int .i64 (((luStep n ((luS n q g).1, (luS n q g).2.1, (luS n q g).2.2.1, (luS n q g).2.2.2.1, (luS n q g).2.2.2.2) g).2.2.1 i0 : Nat) : Int))) n), .fam n (fun i0 => .row 55 3 (fun i1 => .rat ((luStep n ((luS n q g).1, (luS n q g).2.1, (luS n q g).2.2.1, (luS n q g).2.2.2.1, (luS n q g).2.2.2.2) g).2.1 ((luStep n ((luS n q g).1, (luS n q g).2.1, (luS n q g).2.2.1, (luS n q g).2.2.2.1, (luS n q g).2.2.2.2) g).2.2.2.1 i0) i1)) n)]) ∧ _ ∧ _ ∧ _ ∧ _ ∧ _ ∧ _ ∧ _ ∧ _ ∧ ((!true) = false) ∧ _ ∧ ((fun X1 X2 X3 X4 X5 X6 X7 X8 X9 X10 X11 X12 : Prop => ∃ g1 : Nat, X1 ∧ X2 ∧ (((g + 1 : Nat) : Int) = (g1 : Int)) ∧ X3 ∧ X4 ∧ X5 ∧ X6 ∧ X7 ∧ X8 ∧ (((luStep n ((luS n q g).1, (luS n q g).2.1, (luS n q g).2.2.1, (luS n q g).2.2.2.1, (luS n q g).2.2.2.2) g).2.2.2.2 : Bool) = ((luS n q g1).2.2.2.2)) ∧ X9 ∧ (∀ j0, j0 < n → (((luStep n ((luS n q g).1, (luS n q g).2.1, (luS n q g).2.2.1, (luS n q g).2.2.2.1, (luS n q g).2.2.2.2) g).2.2.1 j0 : Nat) = ((luS n q g1).2.2.1 j0))) ∧ X10 ∧ (∀ j0, j0 < n → ((n : Nat) = n) ∧ (∀ j1, j1 < n → ((((luStep n ((luS n q g).1, (luS n q g).2.1, (luS n q g).2.2.1, (luS n q g).2.2.2.1, (luS n q g).2.2.2.2) g).1) j0 j1 : Rat) = (((luS n q g1).1) j0 j1)))) ∧ X11 ∧ (∀ j0, j0 < n → ((((luStep n ((luS n q g).1, (luS n q g).2.1, (luS n q g).2.2.1, (luS n q g).2.2.2.1, (luS n q g).2.2.2.2) g).2.2.1 j0 : Nat) : Int) = (((luS n q g1).2.2.1 j0 : Nat) : Int))) ∧ X12 ∧ (∀ j0, j0 < n → ((n : Nat) = n) ∧ (∀ j1, j1 < n → (((luStep n ((luS n q g).1, (luS n q g).2.1, (luS n q g).2.2.1, (luS n q g).2.2.2.1, (luS n q g).2.2.2.2) g).2.1 ((luStep n ((luS n q g).1, (luS n q g).2.1, (luS n q g).2.2.1, (luS n q g).2.2.2.1, (luS n q g).2.2.2.2) g).2.2.2.1 j0) j1 : Rat) = ((luS n q g1).2.1 ((luS n q g1).2.2.2.1 j0) j1)))) ∧ (g1 ≤ n) ∧ (n - g1 < n - g)) _ _ _ _ _ _ _ _ _ _ _ _)) ∧ ((decide ((g : Int) < (n : Int))) = false → _ ∧ _ ∧ (∀ j0, j0 < n → ((n : Nat) = n) ∧ (∀ j1, j1 < n → (((luS n q g).2.1 ((luS n q g).2.2.2.1 ((luS n q g).2.2.1 j0)) j1 : Rat) = ((luS n q g).2.1 j0 j1))) ∧ (((luS n q g).2.2.1 j0) < n)) ∧ _ ∧ _ ∧ _ ∧ _ ∧ _ ∧ (_ ∧ (∀ j0, j0 < n → ((n : Nat) = n) ∧ (∀ j1, j1 < n → (((luS n q g).2.1 j0 j1 : Rat) = ((luS n q n).2.1 j0 j1)))) ∧ _ ∧ (∀ j0, j0 < n → ((n : Nat) = n) ∧ (∀ j1, j1 < n → ((((luS n q g).1) j0 j1 : Rat) = (((luS n q n).1) j0 j1)))) ∧ _ ∧ (∀ j0, j0 < n → ((((luS n q g).2.2.1 j0 : Nat) : Int) = (((luS n q n).2.2.1 j0 : Nat) : Int))) ∧ (((luS n q g).2.2.2.2 : Bool) = ((luS n q n).2.2.2.2)) ∧ _))))))))
  ⟨(fun _ _ => (fun _ _ => trivial)), sMatRows (m := n) (n := n) (q := q), sMatCols (m := n) (n := n) (q := q), (by simp), ⟨0, (rf 0), (rf (n : Int)), (rf 0), (rf (n : Int)), zo, (rf n), (leS (mE q n) n), (rf (n : Int)), (rf 0), (rf 0), (rf 0), (rf (false : Bool)), zo, zo, zo, zo, zo⟩, fun g hg => ⟨fun hc20 => have hc20 := dT hc20; ⟨sMatRow (m := n) (n := n) (r := g) (q := q) zo zo, zo, (oldS (mE q n) g), (newS (mE q n) g), (rf (n : Int)), (rf (n : Int)), zo, (fun j0 hj0 => rfl), zo, (fun j0 hj0 => by rw [if_pos hj0, if_pos hj0]), (fun j0 hj0 => ⟨(by rw [if_neg zo]), (by rw [if_neg zo])⟩), zo, (oldS (fun i0 => .ex (.int .i64 (i0 : Int))) g), (newS (fun i0 => .ex (.int .i64 (i0 : Int))) g), (wI (g := g) zo), g + 1, (rf 0), (rf (n : Int)), (rf 0), (rf (n : Int)), zo, (rf n), (leS (mE q n) n), (rf (n : Int)), (rf 0), (rf 0), (rf 0), (rf (false : Bool)), zo, (fun j0 hj0 => (by first | omega | (split <;> omega))), zo, (leS (mE q n) (g + 1)), zo, (leS (fun i0 => .ex (.int .i64 (i0 : Int))) (g + 1)), zo, (rf g), ⟨rfl, (fun j1 hj1 => rfl)⟩, (fun j0 hj0 => ⟨rfl, (fun j1 hj1 => rfl)⟩), zo, zo⟩, fun hc20 => have hc20 := dF hc20; have hi2 : g = n := zo; ⟨⟨0, (rf 0), (rf (n : Int)), zo, (rf n), (leS (mE q n) n), (rf (n : Int)), (rf 0), (rf 0), (rf 0), rfl, hi2, (fun j0 hj0 => rfl), hi2, (fun j0 hj0 => ⟨rfl, (fun j1 hj1 => rfl)⟩), hi2, (fun j0 hj0 => rfl), hi2, (fun j0 hj0 => ⟨rfl, (fun j1 hj1 => rfl)⟩), zo⟩, fun g hg0 => have hg1 := hg0; ⟨fun hc62 => have hc62 := dT hc62; ⟨sLuStep (U := (luS n q g).1) (L := (luS n q g).2.1) (P := (luS n q g).2.2.1) (ρ := (luS n q g).2.2.2.1) (o := (luS n q g).2.2.2.2) zo zo (lu_bij g zo (fun k hk => hok k zo)) (hH g zo (fun k hk => hok k zo)) (hok g zo), (rf (.one (.var 120 (.agg (.cn (.own 2 0) (.cn (.own 3 0) (.cn (.own 4 0) (.cn (.ex (.bool ((luS n q g).2.2.2.2))) (.nl))))))) : Hl)), (rf (.one (.row 69 1 (fun i0 => .own 5 ((luS n q g).2.2.1 i0)) n) : Hl)), (rf (.one (.row 69 1 (mE ((luS n q g).1) n) n) : Hl)), (rf (.one (.row 3 1 (fun i0 => .ex (.int .i64 (((luS n q g).2.2.1 i0 : Nat) : Int))) n) : Hl)), (rf (.fam n (fun i0 => .row 55 3 (fun i1 => .rat ((luS n q g).2.1 ((luS n q g).2.2.2.1 i0) i1)) n) : Hl)), (rf 1), (rf 0), (rf (g : Int)), rfl, (wI (g := g) zo), g + 1, (rf 0), (rf (n : Int)), zo, (rf n), (leS (mE q n) n), (rf (n : Int)), (rf 0), (rf 0), (rf 0), rfl, (rf n), (fun j0 hj0 => rfl), (rf n), (fun j0 hj0 => ⟨rfl, (fun j1 hj1 => rfl)⟩), (rf n), (fun j0 hj0 => rfl), (rf n), (fun j0 hj0 => ⟨rfl, (fun j1 hj1 => rfl)⟩), zo, zo⟩, fun hc62 => have hc62 := dF hc62; have hi3 : g = n := zo; ⟨(rf 0), (rf n), (fun j0 hj0 => ⟨rfl, (fun j1 hj1 => (by rw [(lu_bij g zo (fun k hk => hok k zo)).inv])), ((lu_bij g zo (fun k hk => hok k zo)).lt j0 hj0)⟩), (rf n), (leS (mE ((luS n q g).1) n) n), (rf n), (leS (fun i0 => .ex (.int .i64 (((luS n q g).2.2.1 i0 : Nat) : Int))) n), (rf ((luS n q g).2.2.2.2 : Bool)), (rf n), (fun j0 hj0 => ⟨rfl, (fun j1 hj1 => (by rw [hi3]))⟩), (rf n), (fun j0 hj0 => ⟨rfl, (fun j1 hj1 => (by rw [hi3]))⟩), (rf n), (fun j0 hj0 => (by rw [hi3])), (by rw [hi3]), (rf (true : Bool))⟩⟩⟩⟩⟩
theorem sLuFactorSing {q : Nat → Nat → Rat} {n : Nat} (hn : n ≤ 64) (hH : ∀ c, c ≤ n → luOK n q c → HtB n n 100000000 (luS n q c).1) (hno : ¬ luOK n q n) : CallOK Tryz.prog 30 [.agg (.cn (.sl 1 (mE q n) n) (.cn (.ex (.int .i64 (n : Int))) (.nl)))] (.cn (.ex (.pointer none)) (.cn (.ex (.bool false)) (.nl))) [] := by
 exact kP (ch := [.reg 1 [(1, .callS (.ex (.int .i64 (n : Int))) [])], .reg 2 [(2, .callS (.ex (.int .i64 (n : Int))) [])], .dec 15 false, .loop 6 (Nat) (fun g => g ≤ n) (fun g => n - g) (fun g => ⟨[(1, .own 0 0), (4, .ex (.int .i64 (n : Int))), (5, .own 1 0), (18, .ex (.int .i64 (n : Int))), (19, .ex (.int .i64 (g : Int)))], [(0, .one (.var 32 (.agg (.cn (.sl 1 (mE q n) n) (.cn (.ex (.int .i64 (n : Int))) (.nl)))))), (1, .one (.var 120 (.agg (.cn (.own 2 0) (.cn (.own 3 0) (.cn (.own 4 0) (.cn (.ex (.bool false)) (.nl)))))))), (2, .one (.row 69 1 (fun i0 => .own 5 i0) g)), (3, .one (.row 69 1 (mE q n) g)), (4, .one (.row 3 1 (fun i0 => .ex (.int .i64 (i0 : Int))) g)), (5, .fam g (fun _ => .row 55 3 (fun _ => .rat 0) n))], 6⟩) [(0, .id 0), (1, .id 1), (2, .nil), (3, .nil), (4, .nil), (5, .emp)] (fun g => [(0, .id 0), (1, .id 1), (2, .id 8), (3, .id 6), (4, .id 9), (5, .put 5 g 7)]) (fun g => [.reg 8 [(2, .callS (.cn (.sl 3 (fun i0 => .rat (q g i0)) n) (.cn (.ex (.bool true)) (.nl))) [])], .reg 9 [(7, .row 0 (mE q n))], .reg 10 [(6, .row n (fun _ => .rat 0)), (8, .row 0 (fun i0 => .own (if i0 < g then 5 else 7) (if i0 < g then i0 else 0)))], .reg 11 [(7, .row 0 (fun i0 => .ex (.int .i64 (i0 : Int))))], .reg 12 [(0, .z ((g + 1 : Nat) : Int))], .loop 14 (Nat) (fun g => g ≤ n ∧ luOK n q g) (fun g => n - g) (fun g => ⟨[(5, .own 1 0), (60, .ex (.int .i64 (n : Int))), (61, .ex (.int .i64 (g : Int)))], [(0, .one (.var 32 (.agg (.cn (.sl 1 (mE q n) n) (.cn (.ex (.int .i64 (n : Int))) (.nl)))))), (1, .one (.var 120 (.agg (.cn (.own 2 0) (.cn (.own 3 0) (.cn (.own 4 0) (.cn (.ex (.bool ((luS n q g).2.2.2.2))) (.nl)))))))), (2, .one (.row 69 1 (fun i0 => .own 5 ((luS n q g).2.2.1 i0)) n)), (3, .one (.row 69 1 (mE ((luS n q g).1) n) n)), (4, .one (.row 3 1 (fun i0 => .ex (.int .i64 (((luS n q g).2.2.1 i0 : Nat) : Int))) n)), (5, .fam n (fun i0 => .row 55 3 (fun i1 => .rat ((luS n q g).2.1 ((luS n q g).2.2.2.1 i0) i1)) n))], 6⟩) [(0, .id 0), (1, .id 1), (2, .id 2), (3, .id 3), (4, .id 4), (5, .id 5)] (fun _ => [(0, .id 0), (1, .id 1), (2, .id 6), (3, .id 7), (4, .id 8), (5, .id 9)]) (fun g => [.reg 16 [(2, .callM [1, 2, 3, 4, 5] [.one (.var 120 (.agg (.cn (.own 1 0) (.cn (.own 2 0) (.cn (.own 3 0) (.cn (.ex (.bool ((luS n q g).2.2.2.2))) (.nl))))))), .one (.row 69 1 (fun i0 => .own 4 ((luS n q g).2.2.1 i0)) n), .one (.row 69 1 (mE ((luS n q g).1) n) n), .one (.row 3 1 (fun i0 => .ex (.int .i64 (((luS n q g).2.2.1 i0 : Nat) : Int))) n), .fam n (fun i0 => .row 55 3 (fun i1 => .rat ((luS n q g).2.1 ((luS n q g).2.2.2.1 i0) i1)) n)] [.own 0 0, .ex (.int .i64 (g : Int))] (.ex (.bool (decide (luK n ((luS n q g).1, (luS n q g).2.1, (luS n q g).2.2.1, (luS n q g).2.2.2.1, (luS n q g).2.2.2.2) g < n)))) [.one (.var 120 (.agg (.cn (.own 5 0) (.cn (.own 6 0) (.cn (.own 7 0) (.cn (.ex (.bool ((luT n ((luS n q g).1, (luS n q g).2.1, (luS n q g).2.2.1, (luS n q g).2.2.2.1, (luS n q g).2.2.2.2) g).2.2.2.2))) (.nl))))))), .dead, .dead, .dead, .dead, .one (.row 69 1 (fun i0 => .own 8 ((luT n ((luS n q g).1, (luS n q g).2.1, (luS n q g).2.2.1, (luS n q g).2.2.2.1, (luS n q g).2.2.2.2) g).2.2.1 i0)) n), .one (.row 69 1 (mE ((luT n ((luS n q g).1, (luS n q g).2.1, (luS n q g).2.2.1, (luS n q g).2.2.2.1, (luS n q g).2.2.2.2) g).1) n) n), .one (.row 3 1 (fun i0 => .ex (.int .i64 (((luT n ((luS n q g).1, (luS n q g).2.1, (luS n q g).2.2.1, (luS n q g).2.2.2.1, (luS n q g).2.2.2.2) g).2.2.1 i0 : Nat) : Int))) n), .fam n (fun i0 => .row 55 3 (fun i1 => .rat ((luT n ((luS n q g).1, (luS n q g).2.1, (luS n q g).2.2.1, (luS n q g).2.2.2.1, (luS n q g).2.2.2.2) g).2.1 ((luT n ((luS n q g).1, (luS n q g).2.1, (luS n q g).2.2.1, (luS n q g).2.2.2.1, (luS n q g).2.2.2.2) g).2.2.2.1 i0) i1)) n)])], .reg 18 [(0, .z ((g + 1 : Nat) : Int))]])])]) Tryz.func30 ((∀ j0, j0 < n → (∀ j1, j1 < n → True)) ∧ _ ∧ _ ∧ ((!decide ((n : Int) = (n : Int))) = false) ∧ (((fun X1 X2 X3 X4 X5 X6 X7 X8 X9 X10 X11 : Prop => ∃ g0 : Nat, X1 ∧ X2 ∧ X3 ∧ X4 ∧ ((0 : Int) = (g0 : Int)) ∧ X5 ∧ X6 ∧ X7 ∧ X8 ∧ X9 ∧ X10 ∧ X11 ∧ ((g0 : Nat) = 0) ∧ ((g0 : Nat) = 0) ∧ ((g0 : Nat) = 0) ∧ ((g0 : Nat) = 0) ∧ (g0 ≤ n)) _ _ _ _ _ _ _ _ _ _ _) ∧ ∀ g : Nat, (g ≤ n) → (((decide ((g : Int) < (n : Int))) = true → _ ∧ (g + 1 ≤ 68719476736) ∧ _ ∧ _ ∧ _ ∧ _ ∧ (n ≤ 68719476736) ∧ (∀ j0, j0 < n → ((0 : Rat) = 0)) ∧ (g + 1 ≤ 68719476736) ∧ (∀ j0, j0 < g → (.own (if j0 < g then 5 else 7) (if j0 < g then j0 else 0) : SV) = .own 5 j0) ∧ (∀ j0, j0 < 1 → ((7 : Nat) = (if g + j0 < g then 5 else 7)) ∧ ((0 : Nat) = (if g + j0 < g then g + j0 else 0))) ∧ (g + 1 ≤ 68719476736) ∧ _ ∧ _ ∧ _ ∧ ((fun X1 X2 X3 X4 X5 X6 X7 X8 X9 X10 X11 X12 X13 X14 : Prop => ∃ g1 : Nat, X1 ∧ X2 ∧ X3 ∧ X4 ∧ (((g + 1 : Nat) : Int) = (g1 : Int)) ∧ X5 ∧ X6 ∧ X7 ∧ X8 ∧ X9 ∧ X10 ∧ X11 ∧ ((g + 1 : Nat) = g1) ∧ (∀ j0, j0 < (g + 1) → (((if j0 < g then 5 else 7 : Nat) = 7 ∧ (if j0 < g then j0 else 0 : Nat) = 0 ∧ (j0 : Nat) = g) ∨ ((if j0 < g then 5 else 7 : Nat) = 5 ∧ (if j0 < g then j0 else 0 : Nat) = j0 ∧ (j0 : Nat) ≠ g))) ∧ ((g + 1 : Nat) = g1) ∧ X12 ∧ ((g + 1 : Nat) = g1) ∧ X13 ∧ ((g1 : Nat) = g + 1) ∧ X14 ∧ (((n : Nat) = n) ∧ (∀ j1, j1 < n → ((0 : Rat) = 0))) ∧ (∀ j0, j0 < g → ((n : Nat) = n) ∧ (∀ j1, j1 < n → ((0 : Rat) = 0))) ∧ (g1 ≤ n) ∧ (n - g1 < n - g)) _ _ _ _ _ _ _ _ _ _ _ _ _ _)) ∧ ((decide ((g : Int) < (n : Int))) = false → (((fun X1 X2 X3 X4 X5 X6 X7 X8 : Prop => ∃ g0 : Nat, X1 ∧ X2 ∧ ((0 : Int) = (g0 : Int)) ∧ X3 ∧ X4 ∧ X5 ∧ X6 ∧ X7 ∧ X8 ∧ ((false : Bool) = ((luS n q g0).2.2.2.2)) ∧ ((g : Nat) = n) ∧ (∀ j0, j0 < g → ((j0 : Nat) = ((luS n q g0).2.2.1 j0))) ∧ ((g : Nat) = n) ∧ (∀ j0, j0 < g → ((n : Nat) = n) ∧ (∀ j1, j1 < n → ((q j0 j1 : Rat) = (((luS n q g0).1) j0 j1)))) ∧ ((g : Nat) = n) ∧ (∀ j0, j0 < g → ((j0 : Int) = (((luS n q g0).2.2.1 j0 : Nat) : Int))) ∧ ((g : Nat) = n) ∧ (∀ j0, j0 < g → ((n : Nat) = n) ∧ (∀ j1, j1 < n → ((0 : Rat) = ((luS n q g0).2.1 ((luS n q g0).2.2.2.1 j0) j1)))) ∧ (g0 ≤ n ∧ luOK n q g0)) _ _ _ _ _ _ _ _) ∧ ∀ g : Nat, (g ≤ n ∧ luOK n q g) → (((decide ((g : Int) < (n : Int))) = true → (CallOKm Tryz.prog 81 [.one (.var 120 (.agg (.cn (.own 1 0) (.cn (.own 2 0) (.cn (.own 3 0) (.cn (.ex (.bool ((luS n q g).2.2.2.2))) (.nl))))))), .one (.row 69 1 (fun i0 => .own 4 ((luS n q g).2.2.1 i0)) n), .one (.row 69 1 (mE ((luS n q g).1) n) n), .one (.row 3 1 (fun i0 => .ex (.int .i64 (((luS n q g).2.2.1 i0 : Nat) : Int))) n), .fam n (fun i0 => .row 55 3 (fun i1 => .rat ((luS n q g).2.1 ((luS n q g).2.2.2.1 i0) i1)) n)] [.own 0 0, .ex (.int .i64 (g : Int))] (.ex (.bool (decide (luK n ((luS n q g).1, (luS n q g).2.1, (luS n q g).2.2.1, (luS n q g).2.2.2.1, (luS n q g).2.2.2.2) g < n)))) [.one (.var 120 (.agg (.cn (.own 5 0) (.cn (.own 6 0) (.cn (.own 7 0) (.cn (.ex (.bool ((luT n ((luS n q g).1, (luS n q g).2.1, (luS n q g).2.2.1, (luS n q g).2.2.2.1, (luS n q g).2.2.2.2) g).2.2.2.2))) (.nl))))))), .dead, .dead, .dead, .dead, .one (.row 69 1 (fun i0 => .own 8 ((luT n ((luS n q g).1, (luS n q g).2.1, (luS n q g).2.2.1, (luS n q g).2.2.2.1, (luS n q g).2.2.2.2) g).2.2.1 i0)) n), .one (.row 69 1 (mE ((luT n ((luS n q g).1, (luS n q g).2.1, (luS n q g).2.2.1, (luS n q g).2.2.2.1, (luS n q g).2.2.2.2) g).1) n) n), .one (.row 3 1 (fun i0 => .ex (.int .i64 (((luT n ((luS n q g).1, (luS n q g).2.1, (luS n q g).2.2.1, (luS n q g).2.2.2.1, (luS n q g).2.2.2.2) g).2.2.1 i0 : Nat) : Int))) n), .fam n (fun i0 => .row 55 3 (fun i1 => .rat ((luT n ((luS n q g).1, (luS n q g).2.1, (luS n q g).2.2.1, (luS n q g).2.2.2.1, (luS n q g).2.2.2.2) g).2.1 ((luT n ((luS n q g).1, (luS n q g).2.1, (luS n q g).2.2.1, (luS n q g).2.2.2.1, (luS n q g).2.2.2.2) g).2.2.2.1 i0) i1)) n)]) ∧ _ ∧ _ ∧ _ ∧ _ ∧ _ ∧ _ ∧ _ ∧ _ ∧ (((!(decide (luK n ((luS n q g).1, (luS n q g).2.1, (luS n q g).2.2.1, (luS n q g).2.2.2.1, (luS n q g).2.2.2.2) g < n))) = true → (((.pointer none : Value) = .pointer none) ∧ _)) ∧ ((!(decide (luK n ((luS n q g).1, (luS n q g).2.1, (luS n q g).2.2.1, (luS n q g).2.2.2.1, (luS n q g).2.2.2.2) g < n))) = false → _ ∧ ((fun X1 X2 X3 X4 X5 X6 X7 X8 X9 X10 X11 X12 : Prop => ∃ g1 : Nat, X1 ∧ X2 ∧ (((g + 1 : Nat) : Int) = (g1 : Int)) ∧ X3 ∧ X4 ∧ X5 ∧ X6 ∧ X7 ∧ X8 ∧ (((luT n ((luS n q g).1, (luS n q g).2.1, (luS n q g).2.2.1, (luS n q g).2.2.2.1, (luS n q g).2.2.2.2) g).2.2.2.2 : Bool) = ((luS n q g1).2.2.2.2)) ∧ X9 ∧ (∀ j0, j0 < n → (((luT n ((luS n q g).1, (luS n q g).2.1, (luS n q g).2.2.1, (luS n q g).2.2.2.1, (luS n q g).2.2.2.2) g).2.2.1 j0 : Nat) = ((luS n q g1).2.2.1 j0))) ∧ X10 ∧ (∀ j0, j0 < n → ((n : Nat) = n) ∧ (∀ j1, j1 < n → ((((luT n ((luS n q g).1, (luS n q g).2.1, (luS n q g).2.2.1, (luS n q g).2.2.2.1, (luS n q g).2.2.2.2) g).1) j0 j1 : Rat) = (((luS n q g1).1) j0 j1)))) ∧ X11 ∧ (∀ j0, j0 < n → ((((luT n ((luS n q g).1, (luS n q g).2.1, (luS n q g).2.2.1, (luS n q g).2.2.2.1, (luS n q g).2.2.2.2) g).2.2.1 j0 : Nat) : Int) = (((luS n q g1).2.2.1 j0 : Nat) : Int))) ∧ X12 ∧ (∀ j0, j0 < n → ((n : Nat) = n) ∧ (∀ j1, j1 < n → (((luT n ((luS n q g).1, (luS n q g).2.1, (luS n q g).2.2.1, (luS n q g).2.2.2.1, (luS n q g).2.2.2.2) g).2.1 ((luT n ((luS n q g).1, (luS n q g).2.1, (luS n q g).2.2.1, (luS n q g).2.2.2.1, (luS n q g).2.2.2.2) g).2.2.2.1 j0) j1 : Rat) = ((luS n q g1).2.1 ((luS n q g1).2.2.2.1 j0) j1)))) ∧ (g1 ≤ n ∧ luOK n q g1) ∧ (n - g1 < n - g)) _ _ _ _ _ _ _ _ _ _ _ _)))) ∧ ((decide ((g : Int) < (n : Int))) = false → ((False) ∧ ((true : Bool) = false)))))))))
  ⟨(fun _ _ => (fun _ _ => trivial)), sMatRows (m := n) (n := n) (q := q), sMatCols (m := n) (n := n) (q := q), (by simp), ⟨0, (rf 0), (rf (n : Int)), (rf 0), (rf (n : Int)), zo, (rf n), (leS (mE q n) n), (rf (n : Int)), (rf 0), (rf 0), (rf 0), (rf (false : Bool)), zo, zo, zo, zo, zo⟩, fun g hg => ⟨fun hc20 => have hc20 := dT hc20; ⟨sMatRow (m := n) (n := n) (r := g) (q := q) zo zo, zo, (oldS (mE q n) g), (newS (mE q n) g), (rf (n : Int)), (rf (n : Int)), zo, (fun j0 hj0 => rfl), zo, (fun j0 hj0 => by rw [if_pos hj0, if_pos hj0]), (fun j0 hj0 => ⟨(by rw [if_neg zo]), (by rw [if_neg zo])⟩), zo, (oldS (fun i0 => .ex (.int .i64 (i0 : Int))) g), (newS (fun i0 => .ex (.int .i64 (i0 : Int))) g), (wI (g := g) zo), g + 1, (rf 0), (rf (n : Int)), (rf 0), (rf (n : Int)), zo, (rf n), (leS (mE q n) n), (rf (n : Int)), (rf 0), (rf 0), (rf 0), (rf (false : Bool)), zo, (fun j0 hj0 => (by first | omega | (split <;> omega))), zo, (leS (mE q n) (g + 1)), zo, (leS (fun i0 => .ex (.int .i64 (i0 : Int))) (g + 1)), zo, (rf g), ⟨rfl, (fun j1 hj1 => rfl)⟩, (fun j0 hj0 => ⟨rfl, (fun j1 hj1 => rfl)⟩), zo, zo⟩, fun hc20 => have hc20 := dF hc20; have hi2 : g = n := zo; ⟨⟨0, (rf 0), (rf (n : Int)), zo, (rf n), (leS (mE q n) n), (rf (n : Int)), (rf 0), (rf 0), (rf 0), rfl, hi2, (fun j0 hj0 => rfl), hi2, (fun j0 hj0 => ⟨rfl, (fun j1 hj1 => rfl)⟩), hi2, (fun j0 hj0 => rfl), hi2, (fun j0 hj0 => ⟨rfl, (fun j1 hj1 => rfl)⟩), Nat.zero_le _, fun k hk => absurd hk (Nat.not_lt_zero k)⟩, fun g hg0 => have hg1 := hg0.1; ⟨fun hc62 => have hc62 := dT hc62; ⟨sLuStepT (U := (luS n q g).1) (L := (luS n q g).2.1) (P := (luS n q g).2.2.1) (ρ := (luS n q g).2.2.2.1) (o := (luS n q g).2.2.2.2) zo zo (lu_bij g zo hg0.2) (hH g zo hg0.2), (rf (.one (.var 120 (.agg (.cn (.own 2 0) (.cn (.own 3 0) (.cn (.own 4 0) (.cn (.ex (.bool ((luS n q g).2.2.2.2))) (.nl))))))) : Hl)), (rf (.one (.row 69 1 (fun i0 => .own 5 ((luS n q g).2.2.1 i0)) n) : Hl)), (rf (.one (.row 69 1 (mE ((luS n q g).1) n) n) : Hl)), (rf (.one (.row 3 1 (fun i0 => .ex (.int .i64 (((luS n q g).2.2.1 i0 : Nat) : Int))) n) : Hl)), (rf (.fam n (fun i0 => .row 55 3 (fun i1 => .rat ((luS n q g).2.1 ((luS n q g).2.2.2.1 i0) i1)) n) : Hl)), (rf 1), (rf 0), (rf (g : Int)), fun hc67 => have hk0 := hc67; ⟨rfl, (rf (false : Bool))⟩, fun hc67 => have hk : luK n (luS n q g) g < n := (not_dec hc67); ⟨(wI (g := g) zo), g + 1, (rf 0), (rf (n : Int)), zo, (rf n), (leS (mE q n) n), (rf (n : Int)), (rf 0), (rf 0), (rf 0), (by rw [luT_yes hk]; rfl), (rf n), (fun j0 hj0 => (by rw [luT_yes hk]; rfl)), (rf n), (fun j0 hj0 => ⟨rfl, (fun j1 hj1 => (by rw [luT_yes hk]; rfl))⟩), (rf n), (fun j0 hj0 => (by rw [luT_yes hk]; rfl)), (rf n), (fun j0 hj0 => ⟨rfl, (fun j1 hj1 => (by rw [luT_yes hk]; rfl))⟩), ⟨by omega, ok_next hg0.2 hk⟩, zo⟩⟩, fun hc62 => have hc62 := dF hc62; have hi3 : g = n := zo; have hx : False := hno (by have := hg0.2; rwa [hi3] at this); ⟨hx.elim, hx.elim⟩⟩⟩⟩⟩
theorem sLuFactorNo {q : Nat → Nat → Rat} {m n : Nat} (h : m ≠ n) : CallOK Tryz.prog 30 [.agg (.cn (.sl 1 (mE q n) m) (.cn (.ex (.int .i64 (n : Int))) (.nl)))] (.cn (.ex (.pointer none)) (.cn (.ex (.bool false)) (.nl))) [] := by
 exact kP (ch := [.reg 1 [(1, .callS (.ex (.int .i64 (m : Int))) [])], .reg 2 [(2, .callS (.ex (.int .i64 (n : Int))) [])], .dec 15 true]) Tryz.func30 ((∀ j0, j0 < m → (∀ j1, j1 < n → True)) ∧ _ ∧ _ ∧ ((!decide ((m : Int) = (n : Int))) = true) ∧ (((.pointer none : Value) = .pointer none) ∧ _))
  ⟨(fun _ _ => (fun _ _ => trivial)), sMatRows (m := m) (n := n) (q := q), sMatCols (m := m) (n := n) (q := q), (by simp; omega), rfl, (rf (false : Bool))⟩
theorem sLuLower {U L : Nat → Nat → Rat} {P : Nat → Nat} {o : Bool} {n : Nat} (hn : n ≤ 64) : CallOK Tryz.prog 80 [.ep (.agg (.cn (.sl 1 (mE L n) n) (.cn (.sl 1 (mE U n) n) (.cn (.sl 1 (fun i0 => .ex (.int .i64 (P i0 : Int))) n) (.cn (.ex (.bool o)) (.nl))))))] (.agg (.cn (.sl 1 (mE L n) n) (.cn (.ex (.int .i64 (n : Int))) (.nl)))) [] := by
 exact kP (ch := [.reg 1 [(9, .callS (.cn (.agg (.cn (.sl 1 (mE L n) n) (.cn (.ex (.int .i64 (n : Int))) (.nl)))) (.cn (.ex (.bool true)) (.nl))) [])]]) Tryz.func80 ((∀ j0, j0 < n → (∀ j1, j1 < n → True)) ∧ (∀ j0, j0 < n → (∀ j1, j1 < n → True)) ∧ (∀ j0, j0 < n → True) ∧ _ ∧ (_ ∧ _ ∧ _))
  ⟨(fun _ _ => (fun _ _ => trivial)), (fun _ _ => (fun _ _ => trivial)), (fun _ _ => trivial), (sMatOf (m := n) (n := n) (q := fun r c => L r c) zo zo), (rf n), (leS (mE L n) n), (rf (n : Int))⟩
theorem sLuUpper {U L : Nat → Nat → Rat} {P : Nat → Nat} {o : Bool} {n : Nat} (hn : n ≤ 64) : CallOK Tryz.prog 79 [.ep (.agg (.cn (.sl 1 (mE L n) n) (.cn (.sl 1 (mE U n) n) (.cn (.sl 1 (fun i0 => .ex (.int .i64 (P i0 : Int))) n) (.cn (.ex (.bool o)) (.nl))))))] (.agg (.cn (.sl 1 (mE U n) n) (.cn (.ex (.int .i64 (n : Int))) (.nl)))) [] := by
 exact kP (ch := [.reg 1 [(9, .callS (.cn (.agg (.cn (.sl 1 (mE U n) n) (.cn (.ex (.int .i64 (n : Int))) (.nl)))) (.cn (.ex (.bool true)) (.nl))) [])]]) Tryz.func79 ((∀ j0, j0 < n → (∀ j1, j1 < n → True)) ∧ (∀ j0, j0 < n → (∀ j1, j1 < n → True)) ∧ (∀ j0, j0 < n → True) ∧ _ ∧ (_ ∧ _ ∧ _))
  ⟨(fun _ _ => (fun _ _ => trivial)), (fun _ _ => (fun _ _ => trivial)), (fun _ _ => trivial), (sMatOf (m := n) (n := n) (q := fun r c => U r c) zo zo), (rf n), (leS (mE U n) n), (rf (n : Int))⟩
theorem sLuPerm {U L : Nat → Nat → Rat} {P : Nat → Nat} {o : Bool} {n : Nat} (hn : n ≤ 64) : CallOK Tryz.prog 77 [.ep (.agg (.cn (.sl 1 (mE L n) n) (.cn (.sl 1 (mE U n) n) (.cn (.sl 1 (fun i0 => .ex (.int .i64 (P i0 : Int))) n) (.cn (.ex (.bool o)) (.nl))))))] (.sl 1 (fun i0 => .ex (.int .i64 (P i0 : Int))) n) [] := by
 exact kP (ch := [.reg 1 [(4, .callS (.sl 1 (fun i0 => .ex (.int .i64 (P i0 : Int))) n) [])]]) Tryz.func77 ((∀ j0, j0 < n → (∀ j1, j1 < n → True)) ∧ (∀ j0, j0 < n → (∀ j1, j1 < n → True)) ∧ (∀ j0, j0 < n → True) ∧ (CallOK Tryz.prog 118 [.sl 1 (fun i0 => .ex (.int .i64 (P i0 : Int))) n] (.sl 1 (fun i0 => .ex (.int .i64 (P i0 : Int))) n) []) ∧ (_ ∧ _))
  ⟨(fun _ _ => (fun _ _ => trivial)), (fun _ _ => (fun _ _ => trivial)), (fun _ _ => trivial), (sClone (a := (fun i => (P i : Int))) zo).frzI, (rf n), (leS (fun i0 => .ex (.int .i64 (P i0 : Int))) n)⟩
theorem sLuDet {U L : Nat → Nat → Rat} {P : Nat → Nat} {o : Bool} {n : Nat} (hn : n ≤ 64) (hU : ∀ k, k < n → htq (U k k) ≤ 30000) : CallOK Tryz.prog 37 [.ep (.agg (.cn (.sl 1 (mE L n) n) (.cn (.sl 1 (mE U n) n) (.cn (.sl 1 (fun i0 => .ex (.int .i64 (P i0 : Int))) n) (.cn (.ex (.bool o)) (.nl))))))] (.rat (if o = true then -(prodD U n) else prodD U n)) [] := by
 exact kP (ch := [.reg 1 [(0, .callS (.rat ((1 : Int) : Rat)) [])], .loop 3 (Nat) (fun g => g ≤ n) (fun g => n - g) (fun g => ⟨[(0, .ep (.agg (.cn (.sl 1 (mE L n) n) (.cn (.sl 1 (mE U n) n) (.cn (.sl 1 (fun i0 => .ex (.int .i64 (P i0 : Int))) n) (.cn (.ex (.bool o)) (.nl))))))), (2, .own 0 0), (3, .own 1 0), (10, .ex (.int .i64 (n : Int))), (11, .ex (.int .i64 (g : Int)))], [(0, .one (.var 55 (.ex (.agg #[.bool false, .slice none 0 0, .slice none 0 0])))), (1, .one (.var 55 (.rat (prodD U g))))], 2⟩) [(0, .id 0), (1, .id 1)] (fun _ => [(0, .id 0), (1, .id 1)]) (fun g => [.reg 5 [(6, .k g), (9, .k g), (11, .callS (.rat ((prodD U g) * (U g g))) [])], .reg 6 [(0, .z ((g + 1 : Nat) : Int))], .reg 8 [(1, .callS (.rat (-(prodD U g))) [])]])]) Tryz.func37 ((∀ j0, j0 < n → (∀ j1, j1 < n → True)) ∧ (∀ j0, j0 < n → (∀ j1, j1 < n → True)) ∧ (∀ j0, j0 < n → True) ∧ _ ∧ (((fun X1 X2 X3 X4 X5 X6 X7 X8 X9 X10 : Prop => ∃ g0 : Nat, X1 ∧ X2 ∧ X3 ∧ X4 ∧ X5 ∧ X6 ∧ X7 ∧ X8 ∧ X9 ∧ X10 ∧ ((0 : Int) = (g0 : Int)) ∧ ((.agg #[.bool false, .slice none 0 0, .slice none 0 0] : Value) = .agg #[.bool false, .slice none 0 0, .slice none 0 0]) ∧ ((((1 : Int) : Rat) : Rat) = (prodD U g0)) ∧ (g0 ≤ n)) _ _ _ _ _ _ _ _ _ _) ∧ ∀ g : Nat, (g ≤ n) → (((decide ((g : Int) < (n : Int))) = true → _ ∧ (g < n) ∧ _ ∧ (g < n) ∧ _ ∧ _ ∧ ((fun X1 X2 X3 X4 X5 X6 X7 X8 X9 X10 : Prop => ∃ g1 : Nat, X1 ∧ X2 ∧ X3 ∧ X4 ∧ X5 ∧ X6 ∧ X7 ∧ X8 ∧ X9 ∧ X10 ∧ (((g + 1 : Nat) : Int) = (g1 : Int)) ∧ ((.agg #[.bool false, .slice none 0 0, .slice none 0 0] : Value) = .agg #[.bool false, .slice none 0 0, .slice none 0 0]) ∧ (((prodD U g) * (U g g) : Rat) = (prodD U g1)) ∧ (g1 ≤ n) ∧ (n - g1 < n - g)) _ _ _ _ _ _ _ _ _ _)) ∧ ((decide ((g : Int) < (n : Int))) = false → ((o = true → _ ∧ (((-(prodD U g) : Rat) = (if o = true then -(prodD U n) else prodD U n)))) ∧ (o = false → (((prodD U g : Rat) = (if o = true then -(prodD U n) else prodD U n)))))))))
  ⟨(fun _ _ => (fun _ _ => trivial)), (fun _ _ => (fun _ _ => trivial)), (fun _ _ => trivial), sRatInt (x := 1) zo zo, ⟨0, (rf n), (leS (mE L n) n), (rf n), (leS (mE U n) n), (rf n), (leS (fun i0 => .ex (.int .i64 (P i0 : Int))) n), (rf (o : Bool)), (rf 0), (rf 0), (rf (n : Int)), zo, rfl, rfl, zo⟩, fun g hg => ⟨fun hc12 => have hc12 := dT hc12; ⟨(rf (g : Int)), zo, (rf (g : Int)), zo, sRatMul (p := prodD U g) (q := U g g) (prod_room hU zo zo), (wI (g := g) zo), g + 1, (rf n), (leS (mE L n) n), (rf n), (leS (mE U n) n), (rf n), (leS (fun i0 => .ex (.int .i64 (P i0 : Int))) n), (rf (o : Bool)), (rf 0), (rf 0), (rf (n : Int)), zo, rfl, rfl, zo, zo⟩, fun hc12 => have hc12 := dF hc12; have hi2 : g = n := zo; ⟨fun hc30 => ⟨sRatNeg (q := prodD U g), (by rw [hi2, if_pos hc30])⟩, fun hc30 => (by rw [hi2, if_neg (by rw [hc30]; decide)])⟩⟩⟩
theorem sLuSolve {U L : Nat → Nat → Rat} {P : Nat → Nat} {o : Bool} {n : Nat} {b : Nat → Rat} (hn : n ≤ 6) (hP : ∀ i, i < n → P i < n) (hL : ∀ k, k < n → ∀ c, c < n → htq (L k c) ≤ 30000) (hU : ∀ k, k < n → ∀ c, c < n → htq (U k c) ≤ 30000) (hb : ∀ k, k < n → htq (b k) ≤ 100) : CallOK Tryz.prog 34 [.ep (.agg (.cn (.sl 1 (mE L n) n) (.cn (.sl 1 (mE U n) n) (.cn (.sl 1 (fun i0 => .ex (.int .i64 (P i0 : Int))) n) (.cn (.ex (.bool o)) (.nl)))))), .sl 3 (fun i0 => .rat (b i0)) n] (.cn (.own 0 0) (.cn (.ex (.bool true)) (.nl))) [.one (.row 55 3 (fun i0 => .rat (luX n U L (fun i => b (P i)) i0)) n)] := by
 have hZ : ∀ j, j < n → htq (luZ n L (fun i => b (P i)) j) ≤ 3900000 := fw_top hL (fun k hk => hb _ (hP k hk)) (fun _ x _ => Nat.le_add_right _ _) hn
 have hF : ∀ k x, k < n → htq ((fun k x => x / U k k) k x) ≤ htq x + 30000 := fun k x hk => Nat.le_trans (ht_div _ _) (Nat.add_le_add_left (hU k hk k hk) _)
 exact kP (ch := [.dec 20 false, .reg 4 [(1, .row n (fun i0 => .rat (fwS L (fun i => b (P i)) (fun _ x => x) (fun _ => 0) 0 i0)))], .loop 6 (Nat) (fun g => g ≤ n) (fun g => n - g) (fun g => ⟨[(0, .ep (.agg (.cn (.sl 1 (mE L n) n) (.cn (.sl 1 (mE U n) n) (.cn (.sl 1 (fun i0 => .ex (.int .i64 (P i0 : Int))) n) (.cn (.ex (.bool o)) (.nl))))))), (1, .sl 3 (fun i0 => .rat (b i0)) n), (6, .ex (.int .i64 (n : Int))), (7, .own 0 0), (23, .ex (.int .i64 (n : Int))), (24, .ex (.int .i64 (g : Int)))], [(0, .one (.row 55 3 (fun i0 => .rat (fwS L (fun i => b (P i)) (fun _ x => x) (fun _ => 0) g i0)) n))], 1⟩) [(0, .id 0)] (fun _ => [(0, .id 0)]) (fun g => [.reg 8 [(8, .k g), (10, .k (P g)), (12, .k g), (13, .row 0 (fun i0 => .rat (fwI L (fun i => b (P i)) (fun _ x => x) (fun _ => 0) g 0 i0)))], .loop 10 (Nat) (fun h => h ≤ g) (fun h => g - h) (fun h => ⟨[(0, .ep (.agg (.cn (.sl 1 (mE L n) n) (.cn (.sl 1 (mE U n) n) (.cn (.sl 1 (fun i0 => .ex (.int .i64 (P i0 : Int))) n) (.cn (.ex (.bool o)) (.nl))))))), (1, .sl 3 (fun i0 => .rat (b i0)) n), (6, .ex (.int .i64 (n : Int))), (7, .own 0 0), (8, .ex (.int .i64 (g : Int))), (23, .ex (.int .i64 (n : Int))), (24, .ex (.int .i64 (g : Int))), (40, .ex (.int .i64 (g : Int))), (41, .ex (.int .i64 (h : Int)))], [(0, .one (.row 55 3 (fun i0 => .rat (fwI L (fun i => b (P i)) (fun _ x => x) (fun _ => 0) g h i0)) n))], 1⟩) [(0, .id 0)] (fun _ => [(0, .id 0)]) (fun h => [.reg 12 [(4, .k g), (11, .k g), (14, .k h), (18, .k h), (20, .callS (.rat ((L g h) * (fwI L (fun i => b (P i)) (fun _ x => x) (fun _ => 0) g h h))) []), (21, .callS (.rat ((fwI L (fun i => b (P i)) (fun _ x => x) (fun _ => 0) g h g) - ((L g h) * (fwI L (fun i => b (P i)) (fun _ x => x) (fun _ => 0) g h h)))) []), (22, .k g), (23, .row 0 (fun i0 => .rat (fwI L (fun i => b (P i)) (fun _ x => x) (fun _ => 0) g (h + 1) i0)))], .reg 13 [(0, .z ((h + 1 : Nat) : Int))], .reg 14 [(0, .z ((g + 1 : Nat) : Int))]]), .reg 15 [(1, .z ((n : Int) - 1 - 0))], .loop 16 (Nat) (fun g => g ≤ n) (fun g => n - g) (fun g => ⟨[(0, .ep (.agg (.cn (.sl 1 (mE L n) n) (.cn (.sl 1 (mE U n) n) (.cn (.sl 1 (fun i0 => .ex (.int .i64 (P i0 : Int))) n) (.cn (.ex (.bool o)) (.nl))))))), (1, .sl 3 (fun i0 => .rat (b i0)) n), (6, .ex (.int .i64 (n : Int))), (7, .own 0 0), (10, .ex (.int .i64 ((n : Int) - 1 - (g : Int))))], [(0, .one (.row 55 3 (fun i0 => .rat (bwS U (luZ n L (fun i => b (P i))) (fun k x => x / U k k) n g i0)) n))], 1⟩) [(0, .id 0)] (fun _ => [(0, .id 0)]) (fun g => [.reg 18 [(1, .z (((n - 1 - g + 1 : Nat)) : Int))], .loop 19 (Nat) (fun h => h ≤ g) (fun h => g - h) (fun h => ⟨[(0, .ep (.agg (.cn (.sl 1 (mE L n) n) (.cn (.sl 1 (mE U n) n) (.cn (.sl 1 (fun i0 => .ex (.int .i64 (P i0 : Int))) n) (.cn (.ex (.bool o)) (.nl))))))), (1, .sl 3 (fun i0 => .rat (b i0)) n), (6, .ex (.int .i64 (n : Int))), (7, .own 0 0), (10, .ex (.int .i64 ((n : Int) - 1 - (g : Int)))), (11, .ex (.int .i64 ((n - 1 - g + 1 + h : Nat) : Int)))], [(0, .one (.row 55 3 (fun i0 => .rat (bwI U (luZ n L (fun i => b (P i))) (fun k x => x / U k k) n g h i0)) n))], 1⟩) [(0, .id 0)] (fun _ => [(0, .id 0)]) (fun h => [.reg 21 [(4, .k (n - 1 - g)), (11, .k (n - 1 - g)), (14, .k (n - 1 - g + 1 + h)), (18, .k (n - 1 - g + 1 + h)), (20, .callS (.rat ((U (n - 1 - g) (n - 1 - g + 1 + h)) * (bwI U (luZ n L (fun i => b (P i))) (fun k x => x / U k k) n g h (n - 1 - g + 1 + h)))) []), (21, .callS (.rat ((bwI U (luZ n L (fun i => b (P i))) (fun k x => x / U k k) n g h (n - 1 - g)) - ((U (n - 1 - g) (n - 1 - g + 1 + h)) * (bwI U (luZ n L (fun i => b (P i))) (fun k x => x / U k k) n g h (n - 1 - g + 1 + h))))) []), (22, .k (n - 1 - g)), (23, .row 0 (fun i0 => .rat (bwI U (luZ n L (fun i => b (P i))) (fun k x => x / U k k) n g (h + 1) i0)))], .reg 20 [(1, .z ((n - 1 - g + 1 + (h + 1) : Nat) : Int))], .reg 22 [(4, .k (n - 1 - g)), (11, .k (n - 1 - g)), (14, .k (n - 1 - g)), (16, .callS (.cn (.rat ((bwI U (luZ n L (fun i => b (P i))) (fun k x => x / U k k) n g h (n - 1 - g)) / (U (n - 1 - g) (n - 1 - g)))) (.cn (.ex (.bool (!decide ((U (n - 1 - g) (n - 1 - g)) = 0)))) (.nl))) []), (20, .k (n - 1 - g)), (21, .row 0 (fun i0 => .rat (bwS U (luZ n L (fun i => b (P i))) (fun k x => x / U k k) n (g + 1) i0)))], .reg 17 [(1, .z ((n : Int) - 1 - ((g + 1 : Nat) : Int)))]]), .ret 23 [(0, .id 0)]])])]) Tryz.func34 ((∀ j0, j0 < n → (∀ j1, j1 < n → True)) ∧ (∀ j0, j0 < n → (∀ j1, j1 < n → True)) ∧ (∀ j0, j0 < n → True) ∧ (∀ j0, j0 < n → True) ∧ ((!decide ((n : Int) = (n : Int))) = false) ∧ _ ∧ _ ∧ (n ≤ 68719476736) ∧ (∀ j0, j0 < n → ((fwS L (fun i => b (P i)) (fun _ x => x) (fun _ => 0) 0 j0 : Rat) = 0)) ∧ (((fun X1 X2 X3 X4 X5 X6 X7 X8 X9 X10 X11 X12 X13 : Prop => ∃ g0 : Nat, X1 ∧ X2 ∧ X3 ∧ X4 ∧ X5 ∧ X6 ∧ X7 ∧ X8 ∧ X9 ∧ X10 ∧ X11 ∧ X12 ∧ ((0 : Int) = (g0 : Int)) ∧ X13 ∧ (∀ j0, j0 < n → ((fwS L (fun i => b (P i)) (fun _ x => x) (fun _ => 0) 0 j0 : Rat) = (fwS L (fun i => b (P i)) (fun _ x => x) (fun _ => 0) g0 j0))) ∧ (g0 ≤ n)) _ _ _ _ _ _ _ _ _ _ _ _ _) ∧ ∀ g : Nat, (g ≤ n) → (((decide ((g : Int) < (n : Int))) = true → _ ∧ (g < n) ∧ _ ∧ ((P g) < n) ∧ _ ∧ (g < n) ∧ (g < n) ∧ (((b (P g) : Rat) = (fwI L (fun i => b (P i)) (fun _ x => x) (fun _ => 0) g 0 g))) ∧ (∀ t, t < n → t ≠ g → (.rat (fwI L (fun i => b (P i)) (fun _ x => x) (fun _ => 0) g 0 t) : SV) = .rat (fwS L (fun i => b (P i)) (fun _ x => x) (fun _ => 0) g t)) ∧ (((fun X1 X2 X3 X4 X5 X6 X7 X8 X9 X10 X11 X12 X13 X14 X15 X16 : Prop => ∃ h0 : Nat, X1 ∧ X2 ∧ X3 ∧ X4 ∧ X5 ∧ X6 ∧ X7 ∧ X8 ∧ X9 ∧ X10 ∧ X11 ∧ X12 ∧ X13 ∧ X14 ∧ X15 ∧ ((0 : Int) = (h0 : Int)) ∧ X16 ∧ (∀ j0, j0 < n → ((fwI L (fun i => b (P i)) (fun _ x => x) (fun _ => 0) g 0 j0 : Rat) = (fwI L (fun i => b (P i)) (fun _ x => x) (fun _ => 0) g h0 j0))) ∧ (h0 ≤ g)) _ _ _ _ _ _ _ _ _ _ _ _ _ _ _ _) ∧ ∀ h : Nat, (h ≤ g) → (((decide ((h : Int) < (g : Int))) = true → _ ∧ (g < n) ∧ (g < n) ∧ _ ∧ (g < n) ∧ _ ∧ (h < n) ∧ _ ∧ (h < n) ∧ (h < n) ∧ _ ∧ _ ∧ _ ∧ (g < n) ∧ (g < n) ∧ ((((fwI L (fun i => b (P i)) (fun _ x => x) (fun _ => 0) g h g) - ((L g h) * (fwI L (fun i => b (P i)) (fun _ x => x) (fun _ => 0) g h h)) : Rat) = (fwI L (fun i => b (P i)) (fun _ x => x) (fun _ => 0) g (h + 1) g))) ∧ (∀ t, t < n → t ≠ g → (.rat (fwI L (fun i => b (P i)) (fun _ x => x) (fun _ => 0) g (h + 1) t) : SV) = .rat (fwI L (fun i => b (P i)) (fun _ x => x) (fun _ => 0) g h t)) ∧ _ ∧ ((fun X1 X2 X3 X4 X5 X6 X7 X8 X9 X10 X11 X12 X13 X14 X15 X16 : Prop => ∃ h1 : Nat, X1 ∧ X2 ∧ X3 ∧ X4 ∧ X5 ∧ X6 ∧ X7 ∧ X8 ∧ X9 ∧ X10 ∧ X11 ∧ X12 ∧ X13 ∧ X14 ∧ X15 ∧ (((h + 1 : Nat) : Int) = (h1 : Int)) ∧ X16 ∧ (∀ j0, j0 < n → ((fwI L (fun i => b (P i)) (fun _ x => x) (fun _ => 0) g (h + 1) j0 : Rat) = (fwI L (fun i => b (P i)) (fun _ x => x) (fun _ => 0) g h1 j0))) ∧ (h1 ≤ g) ∧ (g - h1 < g - h)) _ _ _ _ _ _ _ _ _ _ _ _ _ _ _ _)) ∧ ((decide ((h : Int) < (g : Int))) = false → _ ∧ ((fun X1 X2 X3 X4 X5 X6 X7 X8 X9 X10 X11 X12 X13 : Prop => ∃ g1 : Nat, X1 ∧ X2 ∧ X3 ∧ X4 ∧ X5 ∧ X6 ∧ X7 ∧ X8 ∧ X9 ∧ X10 ∧ X11 ∧ X12 ∧ (((g + 1 : Nat) : Int) = (g1 : Int)) ∧ X13 ∧ (∀ j0, j0 < n → ((fwI L (fun i => b (P i)) (fun _ x => x) (fun _ => 0) g h j0 : Rat) = (fwS L (fun i => b (P i)) (fun _ x => x) (fun _ => 0) g1 j0))) ∧ (g1 ≤ n) ∧ (n - g1 < n - g)) _ _ _ _ _ _ _ _ _ _ _ _ _))))) ∧ ((decide ((g : Int) < (n : Int))) = false → (IntKind.wrap .i64 ((n : Int) - 1) = ((n : Int) - 1 - 0)) ∧ (((fun X1 X2 X3 X4 X5 X6 X7 X8 X9 X10 X11 X12 : Prop => ∃ g0 : Nat, X1 ∧ X2 ∧ X3 ∧ X4 ∧ X5 ∧ X6 ∧ X7 ∧ X8 ∧ X9 ∧ X10 ∧ X11 ∧ (((n : Int) - 1 - 0 : Int) = ((n : Int) - 1 - (g0 : Int))) ∧ X12 ∧ (∀ j0, j0 < n → ((fwS L (fun i => b (P i)) (fun _ x => x) (fun _ => 0) g j0 : Rat) = (bwS U (luZ n L (fun i => b (P i))) (fun k x => x / U k k) n g0 j0))) ∧ (g0 ≤ n)) _ _ _ _ _ _ _ _ _ _ _ _) ∧ ∀ g : Nat, (g ≤ n) → (((decide ((0 : Int) ≤ ((n : Int) - 1 - (g : Int)))) = true → (IntKind.wrap .i64 (((n : Int) - 1 - (g : Int) : Int) + 1) = ((((n - 1 - g + 1 : Nat)) : Int))) ∧ (((fun X1 X2 X3 X4 X5 X6 X7 X8 X9 X10 X11 X12 X13 : Prop => ∃ h0 : Nat, X1 ∧ X2 ∧ X3 ∧ X4 ∧ X5 ∧ X6 ∧ X7 ∧ X8 ∧ X9 ∧ X10 ∧ X11 ∧ X12 ∧ ((((n - 1 - g + 1 : Nat)) : Int) = ((n - 1 - g + 1 + h0 : Nat) : Int)) ∧ X13 ∧ (∀ j0, j0 < n → ((bwS U (luZ n L (fun i => b (P i))) (fun k x => x / U k k) n g j0 : Rat) = (bwI U (luZ n L (fun i => b (P i))) (fun k x => x / U k k) n g h0 j0))) ∧ (h0 ≤ g)) _ _ _ _ _ _ _ _ _ _ _ _ _) ∧ ∀ h : Nat, (h ≤ g) → (((decide (((n - 1 - g + 1 + h : Nat) : Int) < (n : Int))) = true → (((n : Int) - 1 - (g : Int) : Int) = ((n - 1 - g : Nat) : Int)) ∧ ((n - 1 - g) < n) ∧ ((n - 1 - g) < n) ∧ (((n : Int) - 1 - (g : Int) : Int) = ((n - 1 - g : Nat) : Int)) ∧ ((n - 1 - g) < n) ∧ _ ∧ ((n - 1 - g + 1 + h) < n) ∧ _ ∧ ((n - 1 - g + 1 + h) < n) ∧ ((n - 1 - g + 1 + h) < n) ∧ _ ∧ _ ∧ (((n : Int) - 1 - (g : Int) : Int) = ((n - 1 - g : Nat) : Int)) ∧ ((n - 1 - g) < n) ∧ ((n - 1 - g) < n) ∧ ((((bwI U (luZ n L (fun i => b (P i))) (fun k x => x / U k k) n g h (n - 1 - g)) - ((U (n - 1 - g) (n - 1 - g + 1 + h)) * (bwI U (luZ n L (fun i => b (P i))) (fun k x => x / U k k) n g h (n - 1 - g + 1 + h))) : Rat) = (bwI U (luZ n L (fun i => b (P i))) (fun k x => x / U k k) n g (h + 1) (n - 1 - g)))) ∧ (∀ t, t < n → t ≠ (n - 1 - g) → (.rat (bwI U (luZ n L (fun i => b (P i))) (fun k x => x / U k k) n g (h + 1) t) : SV) = .rat (bwI U (luZ n L (fun i => b (P i))) (fun k x => x / U k k) n g h t)) ∧ (IntKind.wrap .i64 (((n - 1 - g + 1 + h : Nat) : Int) + 1) = (((n - 1 - g + 1 + (h + 1) : Nat) : Int))) ∧ ((fun X1 X2 X3 X4 X5 X6 X7 X8 X9 X10 X11 X12 X13 : Prop => ∃ h1 : Nat, X1 ∧ X2 ∧ X3 ∧ X4 ∧ X5 ∧ X6 ∧ X7 ∧ X8 ∧ X9 ∧ X10 ∧ X11 ∧ X12 ∧ (((n - 1 - g + 1 + (h + 1) : Nat) : Int) = ((n - 1 - g + 1 + h1 : Nat) : Int)) ∧ X13 ∧ (∀ j0, j0 < n → ((bwI U (luZ n L (fun i => b (P i))) (fun k x => x / U k k) n g (h + 1) j0 : Rat) = (bwI U (luZ n L (fun i => b (P i))) (fun k x => x / U k k) n g h1 j0))) ∧ (h1 ≤ g) ∧ (g - h1 < g - h)) _ _ _ _ _ _ _ _ _ _ _ _ _)) ∧ ((decide (((n - 1 - g + 1 + h : Nat) : Int) < (n : Int))) = false → (((n : Int) - 1 - (g : Int) : Int) = ((n - 1 - g : Nat) : Int)) ∧ ((n - 1 - g) < n) ∧ ((n - 1 - g) < n) ∧ (((n : Int) - 1 - (g : Int) : Int) = ((n - 1 - g : Nat) : Int)) ∧ ((n - 1 - g) < n) ∧ (((n : Int) - 1 - (g : Int) : Int) = ((n - 1 - g : Nat) : Int)) ∧ ((n - 1 - g) < n) ∧ _ ∧ (((n : Int) - 1 - (g : Int) : Int) = ((n - 1 - g : Nat) : Int)) ∧ ((n - 1 - g) < n) ∧ ((n - 1 - g) < n) ∧ ((((bwI U (luZ n L (fun i => b (P i))) (fun k x => x / U k k) n g h (n - 1 - g)) / (U (n - 1 - g) (n - 1 - g)) : Rat) = (bwS U (luZ n L (fun i => b (P i))) (fun k x => x / U k k) n (g + 1) (n - 1 - g)))) ∧ (∀ t, t < n → t ≠ (n - 1 - g) → (.rat (bwS U (luZ n L (fun i => b (P i))) (fun k x => x / U k k) n (g + 1) t) : SV) = .rat (bwI U (luZ n L (fun i => b (P i))) (fun k x => x / U k k) n g h t)) ∧ (IntKind.wrap .i64 (((n : Int) - 1 - (g : Int) : Int) - 1) = ((n : Int) - 1 - ((g + 1 : Nat) : Int))) ∧ ((fun X1 X2 X3 X4 X5 X6 X7 X8 X9 X10 X11 X12 : Prop => ∃ g1 : Nat, X1 ∧ X2 ∧ X3 ∧ X4 ∧ X5 ∧ X6 ∧ X7 ∧ X8 ∧ X9 ∧ X10 ∧ X11 ∧ (((n : Int) - 1 - ((g + 1 : Nat) : Int) : Int) = ((n : Int) - 1 - (g1 : Int))) ∧ X12 ∧ (∀ j0, j0 < n → ((bwS U (luZ n L (fun i => b (P i))) (fun k x => x / U k k) n (g + 1) j0 : Rat) = (bwS U (luZ n L (fun i => b (P i))) (fun k x => x / U k k) n g1 j0))) ∧ (g1 ≤ n) ∧ (n - g1 < n - g)) _ _ _ _ _ _ _ _ _ _ _ _))))) ∧ ((decide ((0 : Int) ≤ ((n : Int) - 1 - (g : Int)))) = false → (_ ∧ _ ∧ _ ∧ (∀ j0, j0 < n → ((bwS U (luZ n L (fun i => b (P i))) (fun k x => x / U k k) n g j0 : Rat) = (luX n U L (fun i => b (P i)) j0)))))))))))
  ⟨(fun _ _ => (fun _ _ => trivial)), (fun _ _ => (fun _ _ => trivial)), (fun _ _ => trivial), (fun _ _ => trivial), (by simp), (rf (n : Int)), (rf (n : Int)), zo, (fun j0 hj0 => rfl), ⟨0, (rf n), (leS (mE L n) n), (rf n), (leS (mE U n) n), (rf n), (leS (fun i0 => .ex (.int .i64 (P i0 : Int))) n), (rf (o : Bool)), (rf n), (leS (fun i0 => .rat (b i0)) n), (rf (n : Int)), (rf 0), (rf (n : Int)), zo, (rf n), (fun j0 hj0 => rfl), zo⟩, fun g hg => ⟨fun hc25 => have hc25 := dT hc25; have hgn : g < n := zo; ⟨(rf (g : Int)), zo, (rf (P g : Int)), (hP g zo), (rf (g : Int)), zo, zo, (fwI_put (d := fun i => b (P i))), (fun t ht hne => by rw [fwI_zero hne]), ⟨0, (rf n), (leS (mE L n) n), (rf n), (leS (mE U n) n), (rf n), (leS (fun i0 => .ex (.int .i64 (P i0 : Int))) n), (rf (o : Bool)), (rf n), (leS (fun i0 => .rat (b i0)) n), (rf (n : Int)), (rf 0), (rf (g : Int)), (rf (n : Int)), (rf (g : Int)), (rf (g : Int)), zo, (rf n), (fun j0 hj0 => rfl), zo⟩, fun h hh => ⟨fun hc42 => have hc42 := dT hc42; have hr := fw_room hL (fun k hk => hb _ (hP k hk)) (fun _ x _ => Nat.le_add_right _ _) hn hgn (show h < g by omega) (base := fun _ => 0); ⟨(rf (g : Int)), zo, zo, (rf (g : Int)), zo, (rf (h : Int)), zo, (rf (h : Int)), zo, zo, sRatMul (p := L g h) (q := fwI L (fun i => b (P i)) (fun _ x => x) (fun _ => 0) g h h) hr.1, sRatSub (p := fwI L (fun i => b (P i)) (fun _ x => x) (fun _ => 0) g h g) (q := (L g h) * (fwI L (fun i => b (P i)) (fun _ x => x) (fun _ => 0) g h h)) hr.2, (rf (g : Int)), zo, zo, (fwI_at zo), (fun t ht hne => by rw [fwI_ne hne]), (wI (g := h) zo), h + 1, (rf n), (leS (mE L n) n), (rf n), (leS (mE U n) n), (rf n), (leS (fun i0 => .ex (.int .i64 (P i0 : Int))) n), (rf (o : Bool)), (rf n), (leS (fun i0 => .rat (b i0)) n), (rf (n : Int)), (rf 0), (rf (g : Int)), (rf (n : Int)), (rf (g : Int)), (rf (g : Int)), zo, (rf n), (fun j0 hj0 => rfl), zo, zo⟩, fun hc42 => have hc42 := dF hc42; have hi3 : h = g := zo; ⟨(wI (g := g) zo), g + 1, (rf n), (leS (mE L n) n), (rf n), (leS (mE U n) n), (rf n), (leS (fun i0 => .ex (.int .i64 (P i0 : Int))) n), (rf (o : Bool)), (rf n), (leS (fun i0 => .rat (b i0)) n), (rf (n : Int)), (rf 0), (rf (n : Int)), zo, (rf n), (fun j0 hj0 => (by rw [hi3]; exact fwI_all (fun _ => rfl))), zo, zo⟩⟩⟩, fun hc25 => have hc25 := dF hc25; have hi2 : g = n := zo; ⟨(by rw [IntKind.wrap_i64]; omega), ⟨0, (rf n), (leS (mE L n) n), (rf n), (leS (mE U n) n), (rf n), (leS (fun i0 => .ex (.int .i64 (P i0 : Int))) n), (rf (o : Bool)), (rf n), (leS (fun i0 => .rat (b i0)) n), (rf (n : Int)), (rf 0), zo, (rf n), (fun j0 hj0 => (by rw [hi2]; rfl)), zo⟩, fun g hg => ⟨fun hc72 => have hc72 := dT hc72; have hgn : g < n := zo; ⟨(by rw [IntKind.wrap_i64]; omega), ⟨0, (rf n), (leS (mE L n) n), (rf n), (leS (mE U n) n), (rf n), (leS (fun i0 => .ex (.int .i64 (P i0 : Int))) n), (rf (o : Bool)), (rf n), (leS (fun i0 => .rat (b i0)) n), (rf (n : Int)), (rf 0), (rf ((n : Int) - 1 - (g : Int) : Int)), zo, (rf n), (fun j0 hj0 => (bwI_start zo)), zo⟩, fun h hh => ⟨fun hc79 => have hc79 := dT hc79; have hhg : h < g := zo; have hr := bw_room hU hZ hF hn hgn hhg; ⟨zo, zo, zo, zo, zo, (rf ((n - 1 - g + 1 + h : Nat) : Int)), zo, (rf ((n - 1 - g + 1 + h : Nat) : Int)), zo, zo, sRatMul (p := U (n - 1 - g) (n - 1 - g + 1 + h)) (q := bwI U (luZ n L (fun i => b (P i))) (fun k x => x / U k k) n g h (n - 1 - g + 1 + h)) hr.1, sRatSub (p := bwI U (luZ n L (fun i => b (P i))) (fun k x => x / U k k) n g h (n - 1 - g)) (q := (U (n - 1 - g) (n - 1 - g + 1 + h)) * (bwI U (luZ n L (fun i => b (P i))) (fun k x => x / U k k) n g h (n - 1 - g + 1 + h))) hr.2, zo, zo, zo, (bwI_at), (fun t ht hne => by rw [bwI_ne hne]), (by rw [IntKind.wrap_i64]; omega), h + 1, (rf n), (leS (mE L n) n), (rf n), (leS (mE U n) n), (rf n), (leS (fun i0 => .ex (.int .i64 (P i0 : Int))) n), (rf (o : Bool)), (rf n), (leS (fun i0 => .rat (b i0)) n), (rf (n : Int)), (rf 0), (rf ((n : Int) - 1 - (g : Int) : Int)), zo, (rf n), (fun j0 hj0 => rfl), zo, zo⟩, fun hc79 => have hc79 := dF hc79; have hi4 : h = g := zo; have hq := bw_div hU hZ hF hn hgn (Nat.le_of_eq hi4); ⟨zo, zo, zo, zo, zo, zo, zo, sRatDiv (p := bwI U (luZ n L (fun i => b (P i))) (fun k x => x / U k k) n g h (n - 1 - g)) (q := U (n - 1 - g) (n - 1 - g)) hq, zo, zo, zo, (by rw [hi4]; exact bwS_at (f := fun k x => x / U k k)), (fun t ht hne => by rw [hi4, bwS_ne hne]), (by rw [IntKind.wrap_i64]; omega), g + 1, (rf n), (leS (mE L n) n), (rf n), (leS (mE U n) n), (rf n), (leS (fun i0 => .ex (.int .i64 (P i0 : Int))) n), (rf (o : Bool)), (rf n), (leS (fun i0 => .rat (b i0)) n), (rf (n : Int)), (rf 0), zo, (rf n), (fun j0 hj0 => rfl), zo, zo⟩⟩⟩, fun hc72 => have hc72 := dF hc72; have hi5 : g = n := zo; ⟨(rf 0), (rf (true : Bool)), (rf n), (fun j0 hj0 => (by rw [hi5]; rfl))⟩⟩⟩⟩⟩
theorem sLuSolveT {U L : Nat → Nat → Rat} {P : Nat → Nat} {o : Bool} {ρ : Nat → Nat} {n : Nat} {b : Nat → Rat} (hn : n ≤ 6) (hB : Bij n P ρ) (hL : ∀ k, k < n → ∀ c, c < n → htq (L k c) ≤ 30000) (hU : ∀ k, k < n → ∀ c, c < n → htq (U k c) ≤ 30000) (hb : ∀ k, k < n → htq (b k) ≤ 100) : CallOK Tryz.prog 78 [.ep (.agg (.cn (.sl 1 (mE L n) n) (.cn (.sl 1 (mE U n) n) (.cn (.sl 1 (fun i0 => .ex (.int .i64 (P i0 : Int))) n) (.cn (.ex (.bool o)) (.nl)))))), .sl 3 (fun i0 => .rat (b i0)) n] (.cn (.own 0 0) (.cn (.ex (.bool true)) (.nl))) [.one (.row 55 3 (fun i0 => .rat (luW n U L b (ρ i0))) n)] := by
 have hUT : ∀ k, k < n → ∀ c, c < n → htq (trM U k c) ≤ 30000 := fun k hk c hc => hU c hc k hk
 have hLT : ∀ k, k < n → ∀ c, c < n → htq (trM L k c) ≤ 30000 := fun k hk c hc => hL c hc k hk
 have hF : ∀ k x, k < n → htq ((fun k x => x / U k k) k x) ≤ htq x + 30000 := fun k x hk => Nat.le_trans (ht_div _ _) (Nat.add_le_add_left (hU k hk k hk) _)
 have hZ : ∀ j, j < n → htq (luY n U b j) ≤ 3900000 := fw_top hUT hb hF hn
 exact kP (ch := [.dec 22 false, .reg 4 [(1, .callS (.own 0 0) [.one (.row 55 3 (fun i0 => .rat (b i0)) n)])], .loop 6 (Nat) (fun g => g ≤ n) (fun g => n - g) (fun g => ⟨[(0, .ep (.agg (.cn (.sl 1 (mE L n) n) (.cn (.sl 1 (mE U n) n) (.cn (.sl 1 (fun i0 => .ex (.int .i64 (P i0 : Int))) n) (.cn (.ex (.bool o)) (.nl))))))), (6, .ex (.int .i64 (n : Int))), (7, .own 0 0), (25, .ex (.int .i64 (n : Int))), (26, .ex (.int .i64 (g : Int)))], [(0, .one (.row 55 3 (fun i0 => .rat (fwS (trM U) b (fun k x => x / U k k) b g i0)) n))], 1⟩) [(0, .id 0)] (fun _ => [(0, .id 0)]) (fun g => [.loop 9 (Nat) (fun h => h ≤ g) (fun h => g - h) (fun h => ⟨[(0, .ep (.agg (.cn (.sl 1 (mE L n) n) (.cn (.sl 1 (mE U n) n) (.cn (.sl 1 (fun i0 => .ex (.int .i64 (P i0 : Int))) n) (.cn (.ex (.bool o)) (.nl))))))), (6, .ex (.int .i64 (n : Int))), (7, .own 0 0), (8, .ex (.int .i64 (g : Int))), (25, .ex (.int .i64 (n : Int))), (26, .ex (.int .i64 (g : Int))), (29, .ex (.int .i64 (g : Int))), (30, .ex (.int .i64 (h : Int)))], [(0, .one (.row 55 3 (fun i0 => .rat (fwI (trM U) b (fun k x => x / U k k) b g h i0)) n))], 1⟩) [(0, .id 0)] (fun _ => [(0, .id 0)]) (fun h => [.reg 11 [(4, .k g), (11, .k h), (14, .k g), (18, .k h), (20, .callS (.rat ((U h g) * (fwI (trM U) b (fun k x => x / U k k) b g h h))) []), (21, .callS (.rat ((fwI (trM U) b (fun k x => x / U k k) b g h g) - ((U h g) * (fwI (trM U) b (fun k x => x / U k k) b g h h)))) []), (22, .k g), (23, .row 0 (fun i0 => .rat (fwI (trM U) b (fun k x => x / U k k) b g (h + 1) i0)))], .reg 12 [(0, .z ((h + 1 : Nat) : Int))], .reg 13 [(4, .k g), (11, .k g), (14, .k g), (16, .callS (.cn (.rat ((fwI (trM U) b (fun k x => x / U k k) b g h g) / (U g g))) (.cn (.ex (.bool (!decide ((U g g) = 0)))) (.nl))) []), (20, .k g), (21, .row 0 (fun i0 => .rat (fwS (trM U) b (fun k x => x / U k k) b (g + 1) i0)))], .reg 14 [(0, .z ((g + 1 : Nat) : Int))]]), .reg 15 [(1, .z ((n : Int) - 1 - 0))], .loop 16 (Nat) (fun g => g ≤ n) (fun g => n - g) (fun g => ⟨[(0, .ep (.agg (.cn (.sl 1 (mE L n) n) (.cn (.sl 1 (mE U n) n) (.cn (.sl 1 (fun i0 => .ex (.int .i64 (P i0 : Int))) n) (.cn (.ex (.bool o)) (.nl))))))), (6, .ex (.int .i64 (n : Int))), (7, .own 0 0), (10, .ex (.int .i64 ((n : Int) - 1 - (g : Int))))], [(0, .one (.row 55 3 (fun i0 => .rat (bwS (trM L) (luY n U b) (fun _ x => x) n g i0)) n))], 1⟩) [(0, .id 0)] (fun _ => [(0, .id 0)]) (fun g => [.reg 18 [(1, .z (((n - 1 - g + 1 : Nat)) : Int))], .loop 19 (Nat) (fun h => h ≤ g) (fun h => g - h) (fun h => ⟨[(0, .ep (.agg (.cn (.sl 1 (mE L n) n) (.cn (.sl 1 (mE U n) n) (.cn (.sl 1 (fun i0 => .ex (.int .i64 (P i0 : Int))) n) (.cn (.ex (.bool o)) (.nl))))))), (6, .ex (.int .i64 (n : Int))), (7, .own 0 0), (10, .ex (.int .i64 ((n : Int) - 1 - (g : Int)))), (11, .ex (.int .i64 ((n - 1 - g + 1 + h : Nat) : Int)))], [(0, .one (.row 55 3 (fun i0 => .rat (bwI (trM L) (luY n U b) (fun _ x => x) n g h i0)) n))], 1⟩) [(0, .id 0)] (fun _ => [(0, .id 0)]) (fun h => [.reg 21 [(4, .k (n - 1 - g)), (11, .k (n - 1 - g + 1 + h)), (14, .k (n - 1 - g)), (18, .k (n - 1 - g + 1 + h)), (20, .callS (.rat ((L (n - 1 - g + 1 + h) (n - 1 - g)) * (bwI (trM L) (luY n U b) (fun _ x => x) n g h (n - 1 - g + 1 + h)))) []), (21, .callS (.rat ((bwI (trM L) (luY n U b) (fun _ x => x) n g h (n - 1 - g)) - ((L (n - 1 - g + 1 + h) (n - 1 - g)) * (bwI (trM L) (luY n U b) (fun _ x => x) n g h (n - 1 - g + 1 + h))))) []), (22, .k (n - 1 - g)), (23, .row 0 (fun i0 => .rat (bwI (trM L) (luY n U b) (fun _ x => x) n g (h + 1) i0)))], .reg 20 [(1, .z ((n - 1 - g + 1 + (h + 1) : Nat) : Int))], .reg 17 [(1, .z ((n : Int) - 1 - ((g + 1 : Nat) : Int)))]]), .reg 22 [(1, .row n (fun i0 => .rat (yP ρ (luW n U L b) 0 i0)))], .loop 24 (Nat) (fun g => g ≤ n) (fun g => n - g) (fun g => ⟨[(0, .ep (.agg (.cn (.sl 1 (mE L n) n) (.cn (.sl 1 (mE U n) n) (.cn (.sl 1 (fun i0 => .ex (.int .i64 (P i0 : Int))) n) (.cn (.ex (.bool o)) (.nl))))))), (6, .ex (.int .i64 (n : Int))), (7, .own 0 0), (12, .own 1 0), (117, .ex (.int .i64 (n : Int))), (118, .ex (.int .i64 (g : Int)))], [(0, .one (.row 55 3 (fun i0 => .rat (luW n U L b i0)) n)), (1, .one (.row 55 3 (fun i0 => .rat (yP ρ (luW n U L b) g i0)) n))], 2⟩) [(0, .id 0), (1, .id 1)] (fun _ => [(0, .id 0), (1, .id 1)]) (fun g => [.reg 26 [(6, .k g), (10, .k g), (12, .k (P g)), (13, .row 0 (fun i0 => .rat (yP ρ (luW n U L b) (g + 1) i0)))], .reg 27 [(0, .z ((g + 1 : Nat) : Int))], .ret 28 [(0, .id 1)]])])])]) Tryz.func78 ((∀ j0, j0 < n → (∀ j1, j1 < n → True)) ∧ (∀ j0, j0 < n → (∀ j1, j1 < n → True)) ∧ (∀ j0, j0 < n → True) ∧ (∀ j0, j0 < n → True) ∧ ((!decide ((n : Int) = (n : Int))) = false) ∧ _ ∧ (((fun X1 X2 X3 X4 X5 X6 X7 X8 X9 X10 X11 : Prop => ∃ g0 : Nat, X1 ∧ X2 ∧ X3 ∧ X4 ∧ X5 ∧ X6 ∧ X7 ∧ X8 ∧ X9 ∧ X10 ∧ ((0 : Int) = (g0 : Int)) ∧ X11 ∧ (∀ j0, j0 < n → ((b j0 : Rat) = (fwS (trM U) b (fun k x => x / U k k) b g0 j0))) ∧ (g0 ≤ n)) _ _ _ _ _ _ _ _ _ _ _) ∧ ∀ g : Nat, (g ≤ n) → (((decide ((g : Int) < (n : Int))) = true → (((fun X1 X2 X3 X4 X5 X6 X7 X8 X9 X10 X11 X12 X13 X14 : Prop => ∃ h0 : Nat, X1 ∧ X2 ∧ X3 ∧ X4 ∧ X5 ∧ X6 ∧ X7 ∧ X8 ∧ X9 ∧ X10 ∧ X11 ∧ X12 ∧ X13 ∧ ((0 : Int) = (h0 : Int)) ∧ X14 ∧ (∀ j0, j0 < n → ((fwS (trM U) b (fun k x => x / U k k) b g j0 : Rat) = (fwI (trM U) b (fun k x => x / U k k) b g h0 j0))) ∧ (h0 ≤ g)) _ _ _ _ _ _ _ _ _ _ _ _ _ _) ∧ ∀ h : Nat, (h ≤ g) → (((decide ((h : Int) < (g : Int))) = true → _ ∧ (g < n) ∧ (g < n) ∧ _ ∧ (h < n) ∧ _ ∧ (g < n) ∧ _ ∧ (h < n) ∧ (h < n) ∧ _ ∧ _ ∧ _ ∧ (g < n) ∧ (g < n) ∧ ((((fwI (trM U) b (fun k x => x / U k k) b g h g) - ((U h g) * (fwI (trM U) b (fun k x => x / U k k) b g h h)) : Rat) = (fwI (trM U) b (fun k x => x / U k k) b g (h + 1) g))) ∧ (∀ t, t < n → t ≠ g → (.rat (fwI (trM U) b (fun k x => x / U k k) b g (h + 1) t) : SV) = .rat (fwI (trM U) b (fun k x => x / U k k) b g h t)) ∧ _ ∧ ((fun X1 X2 X3 X4 X5 X6 X7 X8 X9 X10 X11 X12 X13 X14 : Prop => ∃ h1 : Nat, X1 ∧ X2 ∧ X3 ∧ X4 ∧ X5 ∧ X6 ∧ X7 ∧ X8 ∧ X9 ∧ X10 ∧ X11 ∧ X12 ∧ X13 ∧ (((h + 1 : Nat) : Int) = (h1 : Int)) ∧ X14 ∧ (∀ j0, j0 < n → ((fwI (trM U) b (fun k x => x / U k k) b g (h + 1) j0 : Rat) = (fwI (trM U) b (fun k x => x / U k k) b g h1 j0))) ∧ (h1 ≤ g) ∧ (g - h1 < g - h)) _ _ _ _ _ _ _ _ _ _ _ _ _ _)) ∧ ((decide ((h : Int) < (g : Int))) = false → _ ∧ (g < n) ∧ (g < n) ∧ _ ∧ (g < n) ∧ _ ∧ (g < n) ∧ _ ∧ _ ∧ (g < n) ∧ (g < n) ∧ ((((fwI (trM U) b (fun k x => x / U k k) b g h g) / (U g g) : Rat) = (fwS (trM U) b (fun k x => x / U k k) b (g + 1) g))) ∧ (∀ t, t < n → t ≠ g → (.rat (fwS (trM U) b (fun k x => x / U k k) b (g + 1) t) : SV) = .rat (fwI (trM U) b (fun k x => x / U k k) b g h t)) ∧ _ ∧ ((fun X1 X2 X3 X4 X5 X6 X7 X8 X9 X10 X11 : Prop => ∃ g1 : Nat, X1 ∧ X2 ∧ X3 ∧ X4 ∧ X5 ∧ X6 ∧ X7 ∧ X8 ∧ X9 ∧ X10 ∧ (((g + 1 : Nat) : Int) = (g1 : Int)) ∧ X11 ∧ (∀ j0, j0 < n → ((fwS (trM U) b (fun k x => x / U k k) b (g + 1) j0 : Rat) = (fwS (trM U) b (fun k x => x / U k k) b g1 j0))) ∧ (g1 ≤ n) ∧ (n - g1 < n - g)) _ _ _ _ _ _ _ _ _ _ _))))) ∧ ((decide ((g : Int) < (n : Int))) = false → (IntKind.wrap .i64 ((n : Int) - 1) = ((n : Int) - 1 - 0)) ∧ (((fun X1 X2 X3 X4 X5 X6 X7 X8 X9 X10 : Prop => ∃ g0 : Nat, X1 ∧ X2 ∧ X3 ∧ X4 ∧ X5 ∧ X6 ∧ X7 ∧ X8 ∧ X9 ∧ (((n : Int) - 1 - 0 : Int) = ((n : Int) - 1 - (g0 : Int))) ∧ X10 ∧ (∀ j0, j0 < n → ((fwS (trM U) b (fun k x => x / U k k) b g j0 : Rat) = (bwS (trM L) (luY n U b) (fun _ x => x) n g0 j0))) ∧ (g0 ≤ n)) _ _ _ _ _ _ _ _ _ _) ∧ ∀ g : Nat, (g ≤ n) → (((decide ((0 : Int) ≤ ((n : Int) - 1 - (g : Int)))) = true → (IntKind.wrap .i64 (((n : Int) - 1 - (g : Int) : Int) + 1) = ((((n - 1 - g + 1 : Nat)) : Int))) ∧ (((fun X1 X2 X3 X4 X5 X6 X7 X8 X9 X10 X11 : Prop => ∃ h0 : Nat, X1 ∧ X2 ∧ X3 ∧ X4 ∧ X5 ∧ X6 ∧ X7 ∧ X8 ∧ X9 ∧ X10 ∧ ((((n - 1 - g + 1 : Nat)) : Int) = ((n - 1 - g + 1 + h0 : Nat) : Int)) ∧ X11 ∧ (∀ j0, j0 < n → ((bwS (trM L) (luY n U b) (fun _ x => x) n g j0 : Rat) = (bwI (trM L) (luY n U b) (fun _ x => x) n g h0 j0))) ∧ (h0 ≤ g)) _ _ _ _ _ _ _ _ _ _ _) ∧ ∀ h : Nat, (h ≤ g) → (((decide (((n - 1 - g + 1 + h : Nat) : Int) < (n : Int))) = true → (((n : Int) - 1 - (g : Int) : Int) = ((n - 1 - g : Nat) : Int)) ∧ ((n - 1 - g) < n) ∧ ((n - 1 - g) < n) ∧ _ ∧ ((n - 1 - g + 1 + h) < n) ∧ (((n : Int) - 1 - (g : Int) : Int) = ((n - 1 - g : Nat) : Int)) ∧ ((n - 1 - g) < n) ∧ _ ∧ ((n - 1 - g + 1 + h) < n) ∧ ((n - 1 - g + 1 + h) < n) ∧ _ ∧ _ ∧ (((n : Int) - 1 - (g : Int) : Int) = ((n - 1 - g : Nat) : Int)) ∧ ((n - 1 - g) < n) ∧ ((n - 1 - g) < n) ∧ ((((bwI (trM L) (luY n U b) (fun _ x => x) n g h (n - 1 - g)) - ((L (n - 1 - g + 1 + h) (n - 1 - g)) * (bwI (trM L) (luY n U b) (fun _ x => x) n g h (n - 1 - g + 1 + h))) : Rat) = (bwI (trM L) (luY n U b) (fun _ x => x) n g (h + 1) (n - 1 - g)))) ∧ (∀ t, t < n → t ≠ (n - 1 - g) → (.rat (bwI (trM L) (luY n U b) (fun _ x => x) n g (h + 1) t) : SV) = .rat (bwI (trM L) (luY n U b) (fun _ x => x) n g h t)) ∧ (IntKind.wrap .i64 (((n - 1 - g + 1 + h : Nat) : Int) + 1) = (((n - 1 - g + 1 + (h + 1) : Nat) : Int))) ∧ ((fun X1 X2 X3 X4 X5 X6 X7 X8 X9 X10 X11 : Prop => ∃ h1 : Nat, X1 ∧ X2 ∧ X3 ∧ X4 ∧ X5 ∧ X6 ∧ X7 ∧ X8 ∧ X9 ∧ X10 ∧ (((n - 1 - g + 1 + (h + 1) : Nat) : Int) = ((n - 1 - g + 1 + h1 : Nat) : Int)) ∧ X11 ∧ (∀ j0, j0 < n → ((bwI (trM L) (luY n U b) (fun _ x => x) n g (h + 1) j0 : Rat) = (bwI (trM L) (luY n U b) (fun _ x => x) n g h1 j0))) ∧ (h1 ≤ g) ∧ (g - h1 < g - h)) _ _ _ _ _ _ _ _ _ _ _)) ∧ ((decide (((n - 1 - g + 1 + h : Nat) : Int) < (n : Int))) = false → (IntKind.wrap .i64 (((n : Int) - 1 - (g : Int) : Int) - 1) = ((n : Int) - 1 - ((g + 1 : Nat) : Int))) ∧ ((fun X1 X2 X3 X4 X5 X6 X7 X8 X9 X10 : Prop => ∃ g1 : Nat, X1 ∧ X2 ∧ X3 ∧ X4 ∧ X5 ∧ X6 ∧ X7 ∧ X8 ∧ X9 ∧ (((n : Int) - 1 - ((g + 1 : Nat) : Int) : Int) = ((n : Int) - 1 - (g1 : Int))) ∧ X10 ∧ (∀ j0, j0 < n → ((bwI (trM L) (luY n U b) (fun _ x => x) n g h j0 : Rat) = (bwS (trM L) (luY n U b) (fun _ x => x) n g1 j0))) ∧ (g1 ≤ n) ∧ (n - g1 < n - g)) _ _ _ _ _ _ _ _ _ _))))) ∧ ((decide ((0 : Int) ≤ ((n : Int) - 1 - (g : Int)))) = false → _ ∧ _ ∧ (n ≤ 68719476736) ∧ (∀ j0, j0 < n → ((yP ρ (luW n U L b) 0 j0 : Rat) = 0)) ∧ (((fun X1 X2 X3 X4 X5 X6 X7 X8 X9 X10 X11 X12 X13 : Prop => ∃ g0 : Nat, X1 ∧ X2 ∧ X3 ∧ X4 ∧ X5 ∧ X6 ∧ X7 ∧ X8 ∧ X9 ∧ X10 ∧ X11 ∧ ((0 : Int) = (g0 : Int)) ∧ X12 ∧ (∀ j0, j0 < n → ((bwS (trM L) (luY n U b) (fun _ x => x) n g j0 : Rat) = (luW n U L b j0))) ∧ X13 ∧ (∀ j0, j0 < n → ((yP ρ (luW n U L b) 0 j0 : Rat) = (yP ρ (luW n U L b) g0 j0))) ∧ (g0 ≤ n)) _ _ _ _ _ _ _ _ _ _ _ _ _) ∧ ∀ g : Nat, (g ≤ n) → (((decide ((g : Int) < (n : Int))) = true → _ ∧ (g < n) ∧ _ ∧ (g < n) ∧ (g < n) ∧ _ ∧ ((P g) < n) ∧ ((P g) < n) ∧ (((luW n U L b g : Rat) = (yP ρ (luW n U L b) (g + 1) (P g)))) ∧ (∀ t, t < n → t ≠ (P g) → (.rat (yP ρ (luW n U L b) (g + 1) t) : SV) = .rat (yP ρ (luW n U L b) g t)) ∧ _ ∧ ((fun X1 X2 X3 X4 X5 X6 X7 X8 X9 X10 X11 X12 X13 X14 : Prop => ∃ g1 : Nat, X1 ∧ X2 ∧ X3 ∧ X4 ∧ X5 ∧ X6 ∧ X7 ∧ X8 ∧ X9 ∧ X10 ∧ X11 ∧ (((g + 1 : Nat) : Int) = (g1 : Int)) ∧ X12 ∧ X13 ∧ X14 ∧ (∀ j0, j0 < n → ((yP ρ (luW n U L b) (g + 1) j0 : Rat) = (yP ρ (luW n U L b) g1 j0))) ∧ (g1 ≤ n) ∧ (n - g1 < n - g)) _ _ _ _ _ _ _ _ _ _ _ _ _ _)) ∧ ((decide ((g : Int) < (n : Int))) = false → (_ ∧ _ ∧ _ ∧ (∀ j0, j0 < n → ((yP ρ (luW n U L b) g j0 : Rat) = (luW n U L b (ρ j0)))))))))))))))
  ⟨(fun _ _ => (fun _ _ => trivial)), (fun _ _ => (fun _ _ => trivial)), (fun _ _ => trivial), (fun _ _ => trivial), (by simp), sVecCopy (n := n) (q := b) zo, ⟨0, (rf n), (leS (mE L n) n), (rf n), (leS (mE U n) n), (rf n), (leS (fun i0 => .ex (.int .i64 (P i0 : Int))) n), (rf (o : Bool)), (rf (n : Int)), (rf 0), (rf (n : Int)), zo, (rf n), (fun j0 hj0 => rfl), zo⟩, fun g hg => ⟨fun hc27 => have hc27 := dT hc27; have hgn : g < n := zo; ⟨⟨0, (rf n), (leS (mE L n) n), (rf n), (leS (mE U n) n), (rf n), (leS (fun i0 => .ex (.int .i64 (P i0 : Int))) n), (rf (o : Bool)), (rf (n : Int)), (rf 0), (rf (g : Int)), (rf (n : Int)), (rf (g : Int)), (rf (g : Int)), zo, (rf n), (fun j0 hj0 => (fwI_start rfl)), zo⟩, fun h hh => ⟨fun hc31 => have hc31 := dT hc31; have hr := fw_room hUT hb hF hn hgn (show h < g by omega) (base := b); ⟨(rf (g : Int)), zo, zo, (rf (h : Int)), zo, (rf (g : Int)), zo, (rf (h : Int)), zo, zo, sRatMul (p := U h g) (q := fwI (trM U) b (fun k x => x / U k k) b g h h) hr.1, sRatSub (p := fwI (trM U) b (fun k x => x / U k k) b g h g) (q := (U h g) * (fwI (trM U) b (fun k x => x / U k k) b g h h)) hr.2, (rf (g : Int)), zo, zo, (fwI_at (L := trM U) zo), (fun t ht hne => by rw [fwI_ne hne]), (wI (g := h) zo), h + 1, (rf n), (leS (mE L n) n), (rf n), (leS (mE U n) n), (rf n), (leS (fun i0 => .ex (.int .i64 (P i0 : Int))) n), (rf (o : Bool)), (rf (n : Int)), (rf 0), (rf (g : Int)), (rf (n : Int)), (rf (g : Int)), (rf (g : Int)), zo, (rf n), (fun j0 hj0 => rfl), zo, zo⟩, fun hc31 => have hc31 := dF hc31; have hi3 : h = g := zo; have hq := fw_div hUT hb hF hn hgn (Nat.le_of_eq hi3) (hU g hgn g hgn) (base := b); ⟨(rf (g : Int)), zo, zo, (rf (g : Int)), zo, (rf (g : Int)), zo, sRatDiv (p := fwI (trM U) b (fun k x => x / U k k) b g h g) (q := U g g) hq, (rf (g : Int)), zo, zo, (by rw [hi3]; exact fwS_at (f := fun k x => x / U k k)), (fun t ht hne => by rw [hi3, fwS_ne hne]), (wI (g := g) zo), g + 1, (rf n), (leS (mE L n) n), (rf n), (leS (mE U n) n), (rf n), (leS (fun i0 => .ex (.int .i64 (P i0 : Int))) n), (rf (o : Bool)), (rf (n : Int)), (rf 0), (rf (n : Int)), zo, (rf n), (fun j0 hj0 => rfl), zo, zo⟩⟩⟩, fun hc27 => have hc27 := dF hc27; have hi2 : g = n := zo; ⟨(by rw [IntKind.wrap_i64]; omega), ⟨0, (rf n), (leS (mE L n) n), (rf n), (leS (mE U n) n), (rf n), (leS (fun i0 => .ex (.int .i64 (P i0 : Int))) n), (rf (o : Bool)), (rf (n : Int)), (rf 0), zo, (rf n), (fun j0 hj0 => (by rw [hi2]; rfl)), zo⟩, fun g hg => ⟨fun hc82 => have hc82 := dT hc82; have hgn : g < n := zo; ⟨(by rw [IntKind.wrap_i64]; omega), ⟨0, (rf n), (leS (mE L n) n), (rf n), (leS (mE U n) n), (rf n), (leS (fun i0 => .ex (.int .i64 (P i0 : Int))) n), (rf (o : Bool)), (rf (n : Int)), (rf 0), (rf ((n : Int) - 1 - (g : Int) : Int)), zo, (rf n), (fun j0 hj0 => (bwI_start zo)), zo⟩, fun h hh => ⟨fun hc89 => have hc89 := dT hc89; have hhg : h < g := zo; have hr := bw_room hLT hZ (fun _ x _ => Nat.le_add_right _ _) hn hgn hhg (f := fun _ x => x); ⟨zo, zo, zo, (rf ((n - 1 - g + 1 + h : Nat) : Int)), zo, zo, zo, (rf ((n - 1 - g + 1 + h : Nat) : Int)), zo, zo, sRatMul (p := L (n - 1 - g + 1 + h) (n - 1 - g)) (q := bwI (trM L) (luY n U b) (fun _ x => x) n g h (n - 1 - g + 1 + h)) hr.1, sRatSub (p := bwI (trM L) (luY n U b) (fun _ x => x) n g h (n - 1 - g)) (q := (L (n - 1 - g + 1 + h) (n - 1 - g)) * (bwI (trM L) (luY n U b) (fun _ x => x) n g h (n - 1 - g + 1 + h))) hr.2, zo, zo, zo, (bwI_at (U := trM L)), (fun t ht hne => by rw [bwI_ne hne]), (by rw [IntKind.wrap_i64]; omega), h + 1, (rf n), (leS (mE L n) n), (rf n), (leS (mE U n) n), (rf n), (leS (fun i0 => .ex (.int .i64 (P i0 : Int))) n), (rf (o : Bool)), (rf (n : Int)), (rf 0), (rf ((n : Int) - 1 - (g : Int) : Int)), zo, (rf n), (fun j0 hj0 => rfl), zo, zo⟩, fun hc89 => have hc89 := dF hc89; have hi4 : h = g := zo; ⟨(by rw [IntKind.wrap_i64]; omega), g + 1, (rf n), (leS (mE L n) n), (rf n), (leS (mE U n) n), (rf n), (leS (fun i0 => .ex (.int .i64 (P i0 : Int))) n), (rf (o : Bool)), (rf (n : Int)), (rf 0), zo, (rf n), (fun j0 hj0 => (by rw [hi4]; exact bwI_all (fun _ => rfl))), zo, zo⟩⟩⟩, fun hc82 => have hc82 := dF hc82; have hi5 : g = n := zo; ⟨(rf (n : Int)), (rf (n : Int)), zo, (fun j0 hj0 => (yP_zero)), ⟨0, (rf n), (leS (mE L n) n), (rf n), (leS (mE U n) n), (rf n), (leS (fun i0 => .ex (.int .i64 (P i0 : Int))) n), (rf (o : Bool)), (rf (n : Int)), (rf 0), (rf 0), (rf (n : Int)), zo, (rf n), (fun j0 hj0 => (by rw [hi5]; rfl)), (rf n), (fun j0 hj0 => rfl), zo⟩, fun g hg => ⟨fun hc119 => have hc119 := dT hc119; ⟨(rf (g : Int)), zo, (rf (g : Int)), zo, zo, (rf (P g : Int)), (hB.lt g zo), (hB.lt g zo), (yP_at hB), (fun t ht hne => by rw [yP_ne hB hne]), (wI (g := g) zo), g + 1, (rf n), (leS (mE L n) n), (rf n), (leS (mE U n) n), (rf n), (leS (fun i0 => .ex (.int .i64 (P i0 : Int))) n), (rf (o : Bool)), (rf (n : Int)), (rf 0), (rf 0), (rf (n : Int)), zo, (rf n), (leS (fun i0 => .rat (luW n U L b i0)) n), (rf n), (fun j0 hj0 => rfl), zo, zo⟩, fun hc119 => have hc119 := dF hc119; have hi6 : g = n := zo; ⟨(rf 0), (rf (true : Bool)), (rf n), (fun j0 hj0 => (by rw [hi6]; exact yP_all (hB.lt' _ (by assumption))))⟩⟩⟩⟩⟩⟩⟩
open Go.RowKit
theorem den_add (p q : Rat) : nw (p + q).den ≤ nw p.den + nw q.den := by
 rw [add_as, new_den _ _ (den2_ne p q), Int.natAbs_natCast]
 exact Nat.le_trans (nw_mono' (Nat.div_le_self _ _)) (nw_mul _ _)
theorem num_add (p q : Rat) : nw (p + q).num.natAbs ≤ max (nw p.num.natAbs + nw q.den) (nw q.num.natAbs + nw p.den) + 1 := by
 rw [add_as, new_num _ _ (den2_ne p q), natAbs_signed]
 refine Nat.le_trans (nw_mono' (Nat.div_le_self _ _)) ?_
 have h0 := nw_mono' (natAbs_add_nat (p.num * q.den) (q.num * p.den))
 rw [Int.natAbs_mul, Int.natAbs_mul, Int.natAbs_natCast, Int.natAbs_natCast] at h0
 have h3 := nw_add (p.num.natAbs * q.den) (q.num.natAbs * p.den)
 have h4 := nw_mul p.num.natAbs q.den
 have h5 := nw_mul q.num.natAbs p.den
 omega
theorem dot_sz {a b : Nat → Rat} {s : Nat} : ∀ n, (∀ i, i < n → szq (a i * b i) ≤ s) → nw (dotQ a b n).den ≤ s * n + 1 ∧ nw (dotQ a b n).num.natAbs ≤ s * n + 1 + n
 | 0, _ => by
  have h1 : nw (0 : Rat).den ≤ 1 := by decide
  have h2 : nw (0 : Rat).num.natAbs ≤ 1 := by decide
  exact ⟨h1, h2⟩
 | n + 1, h => by
  obtain ⟨h1, h2⟩ := dot_sz n fun i hi => h i zo
  have h3 := h n zo
  have h4 := szq_num (a n * b n)
  have h5 := szq_den (a n * b n)
  have h6 := den_add (dotQ a b n) (a n * b n)
  have h7 := num_add (dotQ a b n) (a n * b n)
  have e : s * (n + 1) = s * n + s := Nat.mul_succ s n
  show nw (dotQ a b n + a n * b n).den ≤ _ ∧ nw (dotQ a b n + a n * b n).num.natAbs ≤ _
  omega
theorem dot_szq {a b : Nat → Rat} {s n : Nat} (h : ∀ i, i < n → szq (a i * b i) ≤ s) : szq (dotQ a b n) ≤ 2 * (s * n + 1) + n := by
 obtain ⟨h1, h2⟩ := dot_sz n h
 unfold szq
 omega
open Go.RowKit
def gQ (k : Nat → Nat) (p d : Nat → Nat → Int) (r c : Nat) : Rat := oneQ (padZ (k r) (p r) c) (padZ (k r) (d r) c)
theorem gQ_sz {l : Nat} {k : Nat → Nat} {p d : Nat → Nat → Int} (h : ∀ r, r < l → ∀ c, c < k r → Wd64 (p r c) ∧ Wd64 (d r c)) {r c : Nat} (hr : r < min l 6) : szq (gQ k p d r c) ≤ 2 :=
 szq_one (padZ_wd fun hc => (h r zo c hc).1) (padZ_wd fun hc => (h r zo c hc).2)
open Go.RowKit
theorem lu_hH {n : Nat} {A : Nat → Nat → Rat} (h : HtB n n 3 A) (hn : n ≤ 6) : ∀ c, c ≤ n → luOK n A c → HtB n n 100000000 (luS n A c).1 := fun c hc hok i hi j hj =>
 Nat.le_trans (lu_ht h c hc hok i hi j hj) (Nat.le_trans (Nat.mul_le_mul_left 3 (Nat.pow_le_pow_right (show 0 < 4 by decide) (show c ≤ 6 by omega))) (by decide))
theorem lu_h3 {n : Nat} {A : Nat → Nat → Rat} (h : HtB n n 3 A) (hn : n ≤ 6) (c : Nat) (hc : c ≤ n) (hok : luOK n A c) : HtB n n 12288 (luS n A c).1 := fun i hi j hj =>
 Nat.le_trans (lu_ht h c hc hok i hi j hj) (Nat.le_trans (Nat.mul_le_mul_left 3 (Nat.pow_le_pow_right (show 0 < 4 by decide) (show c ≤ 6 by omega))) (by decide))
theorem lu_hU {n : Nat} {A : Nat → Nat → Rat} (h : HtB n n 3 A) (hn : n ≤ 6) (hok : luOK n A n) : ∀ k, k < n → ∀ c, c < n → htq ((luS n A n).1 k c) ≤ 30000 := fun k hk c hc => by
 have := lu_h3 h hn n (Nat.le_refl n) hok k hk c hc
 omega
theorem lu_hL2 {n : Nat} {A : Nat → Nat → Rat} (h : HtB n n 3 A) (hn : n ≤ 6) : ∀ c, c ≤ n → luOK n A c → ∀ i, i < n → ∀ j, j < n → htq ((luS n A c).2.1 i j) ≤ 24576
 | 0, _, _ => fun _ _ _ _ => by show htq 0 ≤ _; rw [ht_zero]; omega
 | c + 1, hc, hok => fun i hi j hj => by
  have ih := lu_hL2 h hn c zo fun k hk => hok k zo
  have hU := lu_h3 h hn c zo fun k hk => hok k zo
  have hK := hok c (Nat.lt_succ_self c)
  have hU2 := hU.swap (show c < n by omega) hK
  show htq (lowQ _ _ c n i j) ≤ _
  unfold lowQ
  split
  ·split
   ·rw [ht_one]; omega
   ·have h1 := ht_div (swapR (luS n A c).1 c (luK n (luS n A c) c) i c) (swapR (luS n A c).1 c (luK n (luS n A c) c) c c)
    have h2 := hU2 i hi c zo
    have h3 := hU2 c zo c zo
    omega
  ·exact ih _ (sw_lt (show c < n by omega) hK hi) j hj
theorem lu_hL {n : Nat} {A : Nat → Nat → Rat} (h : HtB n n 3 A) (hn : n ≤ 6) (hok : luOK n A n) : ∀ k, k < n → ∀ c, c < n → htq ((luS n A n).2.1 k c) ≤ 30000 := fun k hk c hc => by
 have := lu_hL2 h hn n (Nat.le_refl n) hok k hk c hc
 omega
theorem sMakeCut {l0 : Nat} {k0 : Nat → Nat} {p0 d0 : Nat → Nat → Int} {n m : Nat} (h0 : ∀ r, r < l0 → ∀ c, c < k0 r → Wd64 (p0 r c) ∧ Wd64 (d0 r c)) (hn : n ≤ 6) (hm : min l0 n = m) : CallOK Tryz.prog 7 [.agg (.cn (.ex (.int .u8 (n : Int))) (.cn (.sl 1 (gE k0 p0 d0) m) (.nl)))] (.agg (.cn (.sl 1 (fun i0 => .sl 3 (fun i1 => .rat (gQ k0 p0 d0 i0 i1)) n) m) (.cn (.ex (.int .i64 (n : Int))) (.nl)))) [] := by
 have h := sMake11 (z := n) (l := m) (k := k0) (p := p0) (d := d0) (fun r hr => h0 r zo)
 rw [Nat.mod_eq_of_lt (show n < 7 by omega), Nat.min_eq_left (show m ≤ 6 by omega)] at h
 exact h
theorem gQ_ht {l0 : Nat} {k0 : Nat → Nat} {p0 d0 : Nat → Nat → Int} {n m : Nat} (h0 : ∀ r, r < l0 → ∀ c, c < k0 r → Wd64 (p0 r c) ∧ Wd64 (d0 r c)) (hn : n ≤ 6) (hm : min l0 n = m) : HtB m n 3 (gQ k0 p0 d0) := fun i hi j _ => Nat.succ_le_succ (Nat.le_trans (ht_sz _) (gQ_sz h0 (show i < min l0 6 by omega)))
theorem sCut6 {z0 l0 : Nat} {k0 : Nat → Nat} {p0 d0 : Nat → Nat → Int} {n m : Nat} (hn : z0 % 7 = n) (hm : min l0 n = m) : CallOK Tryz.prog 29 [.agg (.cn (.ex (.int .u8 (z0 : Int))) (.cn (.sl 1 (gE k0 p0 d0) l0) (.nl))), .ex (.int .i64 ((6 : Nat) : Int))] (.agg (.cn (.ex (.int .u8 (n : Int))) (.cn (.sl 1 (gE k0 p0 d0) m) (.nl)))) [] := by
 exact kP (ch := [.reg 1 [(4, .z (((6 : Nat) : Int) + 1)), (5, .z (n : Int))], .reg 2 [(5, .z (n : Int))], .reg 3 [(4, .kk 0 m)]]) Tryz.func29 ((∀ j0, j0 < l0 → (∀ j1, j1 < (k0 j0) → True)) ∧ (IntKind.wrap .i64 (((6 : Nat) : Int) + 1) = (((6 : Nat) : Int) + 1)) ∧ (IntKind.wrap .u8 (((6 : Nat) : Int) + 1 : Int) = (((6 : Nat) : Int) + 1)) ∧ ((((6 : Nat) : Int) + 1 : Int) ≠ 0) ∧ ((z0 : Int).tmod (((6 : Nat) : Int) + 1) = ((n : Int))) ∧ (IntKind.wrap .i64 (n : Int) = ((n : Int))) ∧ (((decide ((n : Int) < (l0 : Int))) = true → ((n : Int) = (m : Int)) ∧ (m ≤ l0) ∧ (_ ∧ _ ∧ _)) ∧ ((decide ((n : Int) < (l0 : Int))) = false → (_ ∧ ((l0 : Nat) = m) ∧ _))))
  ⟨(fun _ _ => (fun _ _ => trivial)), (by rw [IntKind.wrap_i64]; omega), (by rw [IntKind.wrap_u8]; omega), (by decide), (by rw [← hn]; rfl), (by rw [IntKind.wrap_i64]; omega), fun hc18 => have hc18 := dT hc18; have hc := hc18; ⟨zo, zo, (rf (n : Int)), (rf m), (leS (gE k0 p0 d0) m)⟩, fun hc18 => have hc18 := dF hc18; have hc := hc18; ⟨(rf (n : Int)), zo, (leS (gE k0 p0 d0) l0)⟩⟩
theorem sAwake13   : CallOK Tryz.prog 28 [] (.ex (.bool true)) [] := by
 exact kP (ch := [.reg 1 [(0, .row 0 (fun i0 => .ex (.int .i64 (litI [0, 2] i0)))), (1, .callS (.sl 3 (fun i0 => .rat (((litI [0, 2]) i0 : Int) : Rat)) 2) []), (2, .row 0 (fun i0 => .ex (.int .i64 (litI [3, 4] i0)))), (3, .callS (.sl 3 (fun i0 => .rat (((litI [3, 4]) i0 : Int) : Rat)) 2) []), (4, .row 0 (fun i0 => .sl 3 (fun i1 => .rat ((litLL [[0, 2], [3, 4]] i0 i1 : Int) : Rat)) 2)), (5, .callS (.cn (.agg (.cn (.sl 1 (fun i0 => .sl 3 (fun i1 => .rat ((litLL [[0, 2], [3, 4]] i0 i1 : Int) : Rat)) 2) 2) (.cn (.ex (.int .i64 ((2 : Nat) : Int))) (.nl)))) (.cn (.ex (.bool true)) (.nl))) [])], .reg 2 [(1, .callS (.cn (.ep (.agg (.cn (.sl 1 (fun i0 => .sl 3 (fun i1 => .rat ((luS 2 (fun r c => ((litLL [[0, 2], [3, 4]] r c : Int) : Rat)) 2).2.1 i0 i1)) 2) 2) (.cn (.sl 1 (fun i0 => .sl 3 (fun i1 => .rat (((luS 2 (fun r c => ((litLL [[0, 2], [3, 4]] r c : Int) : Rat)) 2).1) i0 i1)) 2) 2) (.cn (.sl 1 (fun i0 => .ex (.int .i64 (((luS 2 (fun r c => ((litLL [[0, 2], [3, 4]] r c : Int) : Rat)) 2).2.2.1 i0 : Nat) : Int))) 2) (.cn (.ex (.bool ((luS 2 (fun r c => ((litLL [[0, 2], [3, 4]] r c : Int) : Rat)) 2).2.2.2.2))) (.nl))))))) (.cn (.ex (.bool true)) (.nl))) [])], .reg 3 [(5, .skip)], .dec 33 false, .reg 5 [(1, .callS (.sl 1 (fun i0 => .ex (.int .i64 (((luS 2 (fun r c => ((litLL [[0, 2], [3, 4]] r c : Int) : Rat)) 2).2.2.1 i0 : Nat) : Int))) 2) [])], .reg 6 [(0, .row 0 (fun i0 => .ex (.int .i64 (litI [3, 4] i0)))), (1, .callS (.sl 3 (fun i0 => .rat (((litI [3, 4]) i0 : Int) : Rat)) 2) []), (2, .row 0 (fun i0 => .ex (.int .i64 (litI [0, 2] i0)))), (3, .callS (.sl 3 (fun i0 => .rat (((litI [0, 2]) i0 : Int) : Rat)) 2) []), (4, .row 0 (fun i0 => .sl 3 (fun i1 => .rat ((litLL [[3, 4], [0, 2]] i0 i1 : Int) : Rat)) 2)), (5, .callS (.cn (.agg (.cn (.sl 1 (fun i0 => .sl 3 (fun i1 => .rat ((litLL [[3, 4], [0, 2]] i0 i1 : Int) : Rat)) 2) 2) (.cn (.ex (.int .i64 ((2 : Nat) : Int))) (.nl)))) (.cn (.ex (.bool true)) (.nl))) [])], .reg 7 [(0, .callS (.cn (.agg (.cn (.sl 1 (fun i0 => .sl 3 (fun i1 => .rat (idQ i0 i1)) 2) 2) (.cn (.ex (.int .i64 ((2 : Nat) : Int))) (.nl)))) (.cn (.ex (.bool true)) (.nl))) [])], .reg 8 [(1, .row 0 (fun i0 => .ex (.int .i64 (litI [2, 7] i0)))), (2, .callS (.sl 3 (fun i0 => .rat (((litI [2, 7]) i0 : Int) : Rat)) 2) []), (3, .callS (.cn (.sl 3 (fun i0 => .rat (luX 2 (luS 2 (fun r c => ((litLL [[0, 2], [3, 4]] r c : Int) : Rat)) 2).1 (luS 2 (fun r c => ((litLL [[0, 2], [3, 4]] r c : Int) : Rat)) 2).2.1 (fun i => (fun i => (((litI [2, 7]) i : Int) : Rat)) ((luS 2 (fun r c => ((litLL [[0, 2], [3, 4]] r c : Int) : Rat)) 2).2.2.1 i)) i0)) 2) (.cn (.ex (.bool true)) (.nl))) [])], .reg 9 [(1, .row 0 (fun i0 => .ex (.int .i64 (litI [3, 6] i0)))), (2, .callS (.sl 3 (fun i0 => .rat (((litI [3, 6]) i0 : Int) : Rat)) 2) []), (3, .callS (.cn (.sl 3 (fun i0 => .rat (luW 2 (luS 2 (fun r c => ((litLL [[0, 2], [3, 4]] r c : Int) : Rat)) 2).1 (luS 2 (fun r c => ((litLL [[0, 2], [3, 4]] r c : Int) : Rat)) 2).2.1 (fun i => (((litI [3, 6]) i : Int) : Rat)) ((luS 2 (fun r c => ((litLL [[0, 2], [3, 4]] r c : Int) : Rat)) 2).2.2.2.1 i0))) 2) (.cn (.ex (.bool true)) (.nl))) [])], .reg 10 [(5, .k 0), (8, .sure .no), (11, .callS (.agg (.cn (.sl 1 (fun i0 => .sl 3 (fun i1 => .rat (((luS 2 (fun r c => ((litLL [[0, 2], [3, 4]] r c : Int) : Rat)) 2).1) i0 i1)) 2) 2) (.cn (.ex (.int .i64 ((2 : Nat) : Int))) (.nl)))) []), (13, .callS (.ex (.bool (decide (2 = 2 ∧ 2 = 2 ∧ ∀ r : Nat, r < 2 → ∀ c : Nat, c < 2 → ((luS 2 (fun r c => ((litLL [[0, 2], [3, 4]] r c : Int) : Rat)) 2).1) r c = ((litLL [[3, 4], [0, 2]] r c : Int) : Rat))))) []), (14, .sure .no), (17, .callS (.agg (.cn (.sl 1 (fun i0 => .sl 3 (fun i1 => .rat (((luS 2 (fun r c => ((litLL [[0, 2], [3, 4]] r c : Int) : Rat)) 2).2.1) i0 i1)) 2) 2) (.cn (.ex (.int .i64 ((2 : Nat) : Int))) (.nl)))) []), (19, .callS (.ex (.bool (decide (2 = 2 ∧ 2 = 2 ∧ ∀ r : Nat, r < 2 → ∀ c : Nat, c < 2 → ((luS 2 (fun r c => ((litLL [[0, 2], [3, 4]] r c : Int) : Rat)) 2).2.1) r c = idQ r c)))) []), (20, .sure .no), (23, .callS (.rat (if (luS 2 (fun r c => ((litLL [[0, 2], [3, 4]] r c : Int) : Rat)) 2).2.2.2.2 = true then -(prodD (luS 2 (fun r c => ((litLL [[0, 2], [3, 4]] r c : Int) : Rat)) 2).1 2) else prodD (luS 2 (fun r c => ((litLL [[0, 2], [3, 4]] r c : Int) : Rat)) 2).1 2)) []), (24, .callS (.ex (.bool (decide ((if (luS 2 (fun r c => ((litLL [[0, 2], [3, 4]] r c : Int) : Rat)) 2).2.2.2.2 = true then -(prodD (luS 2 (fun r c => ((litLL [[0, 2], [3, 4]] r c : Int) : Rat)) 2).1 2) else prodD (luS 2 (fun r c => ((litLL [[0, 2], [3, 4]] r c : Int) : Rat)) 2).1 2) = Rat.divInt (-6) 1)))) []), (25, .sure .no), (28, .sure .no), (31, .row 0 (fun i0 => .ex (.int .i64 (litI [1, 1] i0)))), (32, .callS (.sl 3 (fun i0 => .rat (((litI [1, 1]) i0 : Int) : Rat)) 2) []), (33, .callS (.ex (.bool (decide (2 = 2 ∧ ∀ j : Nat, j < 2 → (luX 2 (luS 2 (fun r c => ((litLL [[0, 2], [3, 4]] r c : Int) : Rat)) 2).1 (luS 2 (fun r c => ((litLL [[0, 2], [3, 4]] r c : Int) : Rat)) 2).2.1 (fun i => (fun i => (((litI [2, 7]) i : Int) : Rat)) ((luS 2 (fun r c => ((litLL [[0, 2], [3, 4]] r c : Int) : Rat)) 2).2.2.1 i)) j : Rat) = (((litI [1, 1]) j : Int) : Rat))))) []), (34, .sure .no), (37, .sure .no), (40, .row 0 (fun i0 => .ex (.int .i64 (litI [1, 1] i0)))), (41, .callS (.sl 3 (fun i0 => .rat (((litI [1, 1]) i0 : Int) : Rat)) 2) []), (42, .callS (.ex (.bool (decide (2 = 2 ∧ ∀ j : Nat, j < 2 → (luW 2 (luS 2 (fun r c => ((litLL [[0, 2], [3, 4]] r c : Int) : Rat)) 2).1 (luS 2 (fun r c => ((litLL [[0, 2], [3, 4]] r c : Int) : Rat)) 2).2.1 (fun i => (((litI [3, 6]) i : Int) : Rat)) ((luS 2 (fun r c => ((litLL [[0, 2], [3, 4]] r c : Int) : Rat)) 2).2.2.2.1 j) : Rat) = (((litI [1, 1]) j : Int) : Rat))))) []), (43, .sure .no)]]) Tryz.func28 (let y0 := (decide (2 = 2 ∧ 2 = 2 ∧ ∀ r : Nat, r < 2 → ∀ c : Nat, c < 2 → ((luS 2 (fun r c => ((litLL [[0, 2], [3, 4]] r c : Int) : Rat)) 2).1) r c = ((litLL [[3, 4], [0, 2]] r c : Int) : Rat))); let y1 := (decide (2 = 2 ∧ 2 = 2 ∧ ∀ r : Nat, r < 2 → ∀ c : Nat, c < 2 → ((luS 2 (fun r c => ((litLL [[0, 2], [3, 4]] r c : Int) : Rat)) 2).2.1) r c = idQ r c)); let y2 := ((decide (((2 : Nat) : Int) = 2)) == true); let y3 := (true == true); let y4 := ((false && true) == false); ((0 : Int) = (litI [0, 2] 0)) ∧ ((2 : Int) = (litI [0, 2] 1)) ∧ _ ∧ ((3 : Int) = (litI [3, 4] 0)) ∧ ((4 : Int) = (litI [3, 4] 1)) ∧ _ ∧ _ ∧ (∀ j0, j0 < 2 → (((((litI [0, 2]) j0 : Int) : Rat) : Rat) = ((litLL [[0, 2], [3, 4]] 0 j0 : Int) : Rat))) ∧ _ ∧ (∀ j0, j0 < 2 → (((((litI [3, 4]) j0 : Int) : Rat) : Rat) = ((litLL [[0, 2], [3, 4]] 1 j0 : Int) : Rat))) ∧ (CallOK Tryz.prog 38 [.ex (.int .i64 2), .sl 1 (fun i0 => .sl 3 (fun i1 => .rat ((litLL [[0, 2], [3, 4]] i0 i1 : Int) : Rat)) 2) 2] (.cn (.agg (.cn (.sl 1 (fun i0 => .sl 3 (fun i1 => .rat ((litLL [[0, 2], [3, 4]] i0 i1 : Int) : Rat)) 2) 2) (.cn (.ex (.int .i64 ((2 : Nat) : Int))) (.nl)))) (.cn (.ex (.bool true)) (.nl))) []) ∧ _ ∧ (y4 = true → y4 = true) ∧ ((false && true) = false) ∧ (y4 = true) ∧ ((!true) = false) ∧ _ ∧ ((3 : Int) = (litI [3, 4] 0)) ∧ ((4 : Int) = (litI [3, 4] 1)) ∧ _ ∧ ((0 : Int) = (litI [0, 2] 0)) ∧ ((2 : Int) = (litI [0, 2] 1)) ∧ _ ∧ _ ∧ (∀ j0, j0 < 2 → (((((litI [3, 4]) j0 : Int) : Rat) : Rat) = ((litLL [[3, 4], [0, 2]] 0 j0 : Int) : Rat))) ∧ _ ∧ (∀ j0, j0 < 2 → (((((litI [0, 2]) j0 : Int) : Rat) : Rat) = ((litLL [[3, 4], [0, 2]] 1 j0 : Int) : Rat))) ∧ (CallOK Tryz.prog 38 [.ex (.int .i64 2), .sl 1 (fun i0 => .sl 3 (fun i1 => .rat ((litLL [[3, 4], [0, 2]] i0 i1 : Int) : Rat)) 2) 2] (.cn (.agg (.cn (.sl 1 (fun i0 => .sl 3 (fun i1 => .rat ((litLL [[3, 4], [0, 2]] i0 i1 : Int) : Rat)) 2) 2) (.cn (.ex (.int .i64 ((2 : Nat) : Int))) (.nl)))) (.cn (.ex (.bool true)) (.nl))) []) ∧ (CallOK Tryz.prog 23 [.ex (.int .i64 2)] (.cn (.agg (.cn (.sl 1 (fun i0 => .sl 3 (fun i1 => .rat (idQ i0 i1)) 2) 2) (.cn (.ex (.int .i64 ((2 : Nat) : Int))) (.nl)))) (.cn (.ex (.bool true)) (.nl))) []) ∧ ((2 : Int) = (litI [2, 7] 0)) ∧ ((7 : Int) = (litI [2, 7] 1)) ∧ _ ∧ _ ∧ ((3 : Int) = (litI [3, 6] 0)) ∧ ((6 : Int) = (litI [3, 6] 1)) ∧ _ ∧ _ ∧ (y2 = true → y2 = true) ∧ (y2 = true → (0 : Int) = ((0 : Nat) : Int)) ∧ (y2 = true → 0 < 2) ∧ (y2 = true → y2 = true) ∧ (y2 = true → y2 = true) ∧ ((decide (((2 : Nat) : Int) = 2)) = true) ∧ (y2 = true) ∧ (((decide ((((luS 2 (fun r c => ((litLL [[0, 2], [3, 4]] r c : Int) : Rat)) 2).2.2.1 0 : Nat) : Int) = 1)) == true) = true → ((decide ((((luS 2 (fun r c => ((litLL [[0, 2], [3, 4]] r c : Int) : Rat)) 2).2.2.1 0 : Nat) : Int) = 1)) == true) = true) ∧ (((decide ((((luS 2 (fun r c => ((litLL [[0, 2], [3, 4]] r c : Int) : Rat)) 2).2.2.1 0 : Nat) : Int) = 1)) == true) = true → _) ∧ (((decide ((((luS 2 (fun r c => ((litLL [[0, 2], [3, 4]] r c : Int) : Rat)) 2).2.2.1 0 : Nat) : Int) = 1)) == true) = true → ((decide ((((luS 2 (fun r c => ((litLL [[0, 2], [3, 4]] r c : Int) : Rat)) 2).2.2.1 0 : Nat) : Int) = 1)) == true) = true) ∧ (((decide ((((luS 2 (fun r c => ((litLL [[0, 2], [3, 4]] r c : Int) : Rat)) 2).2.2.1 0 : Nat) : Int) = 1)) == true) = true → ((decide ((((luS 2 (fun r c => ((litLL [[0, 2], [3, 4]] r c : Int) : Rat)) 2).2.2.1 0 : Nat) : Int) = 1)) == true) = true) ∧ (((decide ((((luS 2 (fun r c => ((litLL [[0, 2], [3, 4]] r c : Int) : Rat)) 2).2.2.1 0 : Nat) : Int) = 1)) == true) = true → _) ∧ ((decide ((((luS 2 (fun r c => ((litLL [[0, 2], [3, 4]] r c : Int) : Rat)) 2).2.2.1 0 : Nat) : Int) = 1)) = true) ∧ (((decide ((((luS 2 (fun r c => ((litLL [[0, 2], [3, 4]] r c : Int) : Rat)) 2).2.2.1 0 : Nat) : Int) = 1)) == true) = true) ∧ ((y0 == true) = true → (y0 == true) = true) ∧ ((y0 == true) = true → _) ∧ ((y0 == true) = true → (y0 == true) = true) ∧ ((y0 == true) = true → (y0 == true) = true) ∧ ((y0 == true) = true → _) ∧ (y0 = true) ∧ ((y0 == true) = true) ∧ ((y1 == true) = true → (y1 == true) = true) ∧ ((y1 == true) = true → _) ∧ ((y1 == true) = true → (y1 == true) = true) ∧ ((y1 == true) = true → _) ∧ (y1 = true) ∧ ((y1 == true) = true) ∧ ((decide ((if (luS 2 (fun r c => ((litLL [[0, 2], [3, 4]] r c : Int) : Rat)) 2).2.2.2.2 = true then -(prodD (luS 2 (fun r c => ((litLL [[0, 2], [3, 4]] r c : Int) : Rat)) 2).1 2) else prodD (luS 2 (fun r c => ((litLL [[0, 2], [3, 4]] r c : Int) : Rat)) 2).1 2) = Rat.divInt (-6) 1)) = true) ∧ (((decide ((if (luS 2 (fun r c => ((litLL [[0, 2], [3, 4]] r c : Int) : Rat)) 2).2.2.2.2 = true then -(prodD (luS 2 (fun r c => ((litLL [[0, 2], [3, 4]] r c : Int) : Rat)) 2).1 2) else prodD (luS 2 (fun r c => ((litLL [[0, 2], [3, 4]] r c : Int) : Rat)) 2).1 2) = Rat.divInt (-6) 1)) == true) = true) ∧ (y3 = true → (1 : Int) = (litI [1, 1] 0)) ∧ (y3 = true → (1 : Int) = (litI [1, 1] 1)) ∧ (y3 = true → y3 = true) ∧ (y3 = true → _) ∧ (y3 = true → y3 = true) ∧ (y3 = true → y3 = true) ∧ (y3 = true → _) ∧ (true = true) ∧ (y3 = true) ∧ ((decide (2 = 2 ∧ ∀ j : Nat, j < 2 → (luX 2 (luS 2 (fun r c => ((litLL [[0, 2], [3, 4]] r c : Int) : Rat)) 2).1 (luS 2 (fun r c => ((litLL [[0, 2], [3, 4]] r c : Int) : Rat)) 2).2.1 (fun i => (fun i => (((litI [2, 7]) i : Int) : Rat)) ((luS 2 (fun r c => ((litLL [[0, 2], [3, 4]] r c : Int) : Rat)) 2).2.2.1 i)) j : Rat) = (((litI [1, 1]) j : Int) : Rat))) = true) ∧ (((decide (2 = 2 ∧ ∀ j : Nat, j < 2 → (luX 2 (luS 2 (fun r c => ((litLL [[0, 2], [3, 4]] r c : Int) : Rat)) 2).1 (luS 2 (fun r c => ((litLL [[0, 2], [3, 4]] r c : Int) : Rat)) 2).2.1 (fun i => (fun i => (((litI [2, 7]) i : Int) : Rat)) ((luS 2 (fun r c => ((litLL [[0, 2], [3, 4]] r c : Int) : Rat)) 2).2.2.1 i)) j : Rat) = (((litI [1, 1]) j : Int) : Rat))) == true) = true) ∧ (y3 = true → (1 : Int) = (litI [1, 1] 0)) ∧ (y3 = true → (1 : Int) = (litI [1, 1] 1)) ∧ (y3 = true → y3 = true) ∧ (y3 = true → _) ∧ (y3 = true → y3 = true) ∧ (y3 = true → y3 = true) ∧ (y3 = true → _) ∧ (true = true) ∧ (y3 = true) ∧ (((decide (2 = 2 ∧ ∀ j : Nat, j < 2 → (luW 2 (luS 2 (fun r c => ((litLL [[0, 2], [3, 4]] r c : Int) : Rat)) 2).1 (luS 2 (fun r c => ((litLL [[0, 2], [3, 4]] r c : Int) : Rat)) 2).2.1 (fun i => (((litI [3, 6]) i : Int) : Rat)) ((luS 2 (fun r c => ((litLL [[0, 2], [3, 4]] r c : Int) : Rat)) 2).2.2.2.1 j) : Rat) = (((litI [1, 1]) j : Int) : Rat)) : Bool) = true)))
  ⟨rfl, rfl, (sVecOf (n := 2) (a := (litI [0, 2])) (by decide) (by decide +kernel)).frzV, rfl, rfl, (sVecOf (n := 2) (a := (litI [3, 4])) (by decide) (by decide +kernel)).frzV, (rf 2), (fun j0 hj0 => rfl), (rf 2), (fun j0 hj0 => rfl), (sMatOf (q := fun r c => ((litLL [[0, 2], [3, 4]] r c : Int) : Rat)) (by decide) (by decide)), (sLuFactor (n := 2) (q := (fun r c => ((litLL [[0, 2], [3, 4]] r c : Int) : Rat))) (by decide) (lu_hH (by unfold HtB; decide +kernel) (by decide)) (by unfold luOK; decide +kernel)), id, (by decide +kernel), (by decide +kernel), rfl, (sLuPerm (U := ((luS 2 (fun r c => (((litLL [[0, 2], [3, 4]] r c) : Int) : Rat)) 2).1)) (L := (luS 2 (fun r c => (((litLL [[0, 2], [3, 4]] r c) : Int) : Rat)) 2).2.1) (P := (luS 2 (fun r c => (((litLL [[0, 2], [3, 4]] r c) : Int) : Rat)) 2).2.2.1) (o := ((luS 2 (fun r c => (((litLL [[0, 2], [3, 4]] r c) : Int) : Rat)) 2).2.2.2.2)) (n := 2) (by decide)), rfl, rfl, (sVecOf (n := 2) (a := (litI [3, 4])) (by decide) (by decide +kernel)).frzV, rfl, rfl, (sVecOf (n := 2) (a := (litI [0, 2])) (by decide) (by decide +kernel)).frzV, (rf 2), (fun j0 hj0 => rfl), (rf 2), (fun j0 hj0 => rfl), (sMatOf (q := fun r c => ((litLL [[3, 4], [0, 2]] r c : Int) : Rat)) (by decide) (by decide)), sMatOne (by decide), rfl, rfl, (sVecOf (n := 2) (a := (litI [2, 7])) (by decide) (by decide +kernel)).frzV, (sLuSolve (U := ((luS 2 (fun r c => (((litLL [[0, 2], [3, 4]] r c) : Int) : Rat)) 2).1)) (L := (luS 2 (fun r c => (((litLL [[0, 2], [3, 4]] r c) : Int) : Rat)) 2).2.1) (o := ((luS 2 (fun r c => (((litLL [[0, 2], [3, 4]] r c) : Int) : Rat)) 2).2.2.2.2)) (n := 2) (b := (fun i => (((litI [2, 7]) i : Int) : Rat))) (P := (luS 2 (fun r c => ((litLL [[0, 2], [3, 4]] r c : Int) : Rat)) 2).2.2.1) (by decide) (lu_bij _ (Nat.le_refl _) (by unfold luOK; decide +kernel)).lt (lu_hL (by unfold HtB; decide +kernel) (by decide) (by unfold luOK; decide +kernel)) (lu_hU (by unfold HtB; decide +kernel) (by decide) (by unfold luOK; decide +kernel)) (by decide +kernel)).frzV2, rfl, rfl, (sVecOf (n := 2) (a := (litI [3, 6])) (by decide) (by decide +kernel)).frzV, (sLuSolveT (U := ((luS 2 (fun r c => (((litLL [[0, 2], [3, 4]] r c) : Int) : Rat)) 2).1)) (L := (luS 2 (fun r c => (((litLL [[0, 2], [3, 4]] r c) : Int) : Rat)) 2).2.1) (P := (luS 2 (fun r c => (((litLL [[0, 2], [3, 4]] r c) : Int) : Rat)) 2).2.2.1) (o := ((luS 2 (fun r c => (((litLL [[0, 2], [3, 4]] r c) : Int) : Rat)) 2).2.2.2.2)) (n := 2) (b := (fun i => (((litI [3, 6]) i : Int) : Rat))) (ρ := (luS 2 (fun r c => ((litLL [[0, 2], [3, 4]] r c : Int) : Rat)) 2).2.2.2.1) (by decide) (lu_bij _ (Nat.le_refl _) (by unfold luOK; decide +kernel)) (lu_hL (by unfold HtB; decide +kernel) (by decide) (by unfold luOK; decide +kernel)) (lu_hU (by unfold HtB; decide +kernel) (by decide) (by unfold luOK; decide +kernel)) (by decide +kernel)).frzV2, id, (fun hg => rfl), (fun hg => zo), id, id, (by decide +kernel), (by decide +kernel), id, (fun hg => (sLuUpper (U := ((luS 2 (fun r c => (((litLL [[0, 2], [3, 4]] r c) : Int) : Rat)) 2).1)) (L := (luS 2 (fun r c => (((litLL [[0, 2], [3, 4]] r c) : Int) : Rat)) 2).2.1) (P := (luS 2 (fun r c => (((litLL [[0, 2], [3, 4]] r c) : Int) : Rat)) 2).2.2.1) (o := ((luS 2 (fun r c => (((litLL [[0, 2], [3, 4]] r c) : Int) : Rat)) 2).2.2.2.2)) (n := 2) (by decide))), id, id, (fun hg => (sMatSame (m := 2) (n := 2) (k := 2) (l := 2) (p := (fun r c => ((luS 2 (fun r c => ((litLL [[0, 2], [3, 4]] r c : Int) : Rat)) 2).1) r c)) (q := (fun r c => ((litLL [[3, 4], [0, 2]] r c : Int) : Rat))) (by decide) (by decide) (by decide +kernel))), (by decide +kernel), (by decide +kernel), id, (fun hg => (sLuLower (U := ((luS 2 (fun r c => (((litLL [[0, 2], [3, 4]] r c) : Int) : Rat)) 2).1)) (L := (luS 2 (fun r c => (((litLL [[0, 2], [3, 4]] r c) : Int) : Rat)) 2).2.1) (P := (luS 2 (fun r c => (((litLL [[0, 2], [3, 4]] r c) : Int) : Rat)) 2).2.2.1) (o := ((luS 2 (fun r c => (((litLL [[0, 2], [3, 4]] r c) : Int) : Rat)) 2).2.2.2.2)) (n := 2) (by decide))), id, id, (fun hg => (sMatSame (m := 2) (n := 2) (k := 2) (l := 2) (p := (fun r c => ((luS 2 (fun r c => ((litLL [[0, 2], [3, 4]] r c : Int) : Rat)) 2).2.1) r c)) (q := idQ) (by decide) (by decide) (by decide +kernel))), (by decide +kernel), (by decide +kernel), id, (fun hg => (sLuDet (U := ((luS 2 (fun r c => (((litLL [[0, 2], [3, 4]] r c) : Int) : Rat)) 2).1)) (L := (luS 2 (fun r c => (((litLL [[0, 2], [3, 4]] r c) : Int) : Rat)) 2).2.1) (P := (luS 2 (fun r c => (((litLL [[0, 2], [3, 4]] r c) : Int) : Rat)) 2).2.2.1) (o := ((luS 2 (fun r c => (((litLL [[0, 2], [3, 4]] r c) : Int) : Rat)) 2).2.2.2.2)) (n := 2) (by decide) (by decide +kernel))), id, (fun hg => sIs (q := (if (luS 2 (fun r c => (((litLL [[0, 2], [3, 4]] r c) : Int) : Rat)) 2).2.2.2.2 = true then - (prodD (luS 2 (fun r c => (((litLL [[0, 2], [3, 4]] r c) : Int) : Rat)) 2).1 2) else prodD (luS 2 (fun r c => (((litLL [[0, 2], [3, 4]] r c) : Int) : Rat)) 2).1 2)) (p := -6) (d := 1) (by decide +kernel) (by decide +kernel) (by decide +kernel) (by decide +kernel)), (by decide +kernel), (by decide +kernel), (by decide +kernel), (by decide +kernel), (fun hg => rfl), (fun hg => rfl), id, (fun hg => (sVecOf (n := 2) (a := (litI [1, 1])) (by decide) (by decide +kernel)).frzV), id, id, (fun hg => (sVecSame (n := 2) (m := 2) (a := (fun i => luX 2 (luS 2 (fun r c => ((litLL [[0, 2], [3, 4]] r c : Int) : Rat)) 2).1 (luS 2 (fun r c => ((litLL [[0, 2], [3, 4]] r c : Int) : Rat)) 2).2.1 (fun i => (fun i => (((litI [2, 7]) i : Int) : Rat)) ((luS 2 (fun r c => ((litLL [[0, 2], [3, 4]] r c : Int) : Rat)) 2).2.2.1 i)) i)) (b := (fun i => (((litI [1, 1]) i : Int) : Rat))) (by decide) (by decide +kernel))), (by decide +kernel), (by decide +kernel), (by decide +kernel), (by decide +kernel), (fun hg => rfl), (fun hg => rfl), id, (fun hg => (sVecOf (n := 2) (a := (litI [1, 1])) (by decide) (by decide +kernel)).frzV), id, id, (fun hg => (sVecSame (n := 2) (m := 2) (a := (fun i => luW 2 (luS 2 (fun r c => ((litLL [[0, 2], [3, 4]] r c : Int) : Rat)) 2).1 (luS 2 (fun r c => ((litLL [[0, 2], [3, 4]] r c : Int) : Rat)) 2).2.1 (fun i => (((litI [3, 6]) i : Int) : Rat)) ((luS 2 (fun r c => ((litLL [[0, 2], [3, 4]] r c : Int) : Rat)) 2).2.2.2.1 i))) (b := (fun i => (((litI [1, 1]) i : Int) : Rat))) (by decide) (by decide +kernel))), (by decide +kernel), (by decide +kernel), (by decide +kernel)⟩
theorem dotSum (a b : Nat → Rat) : ∀ n, dotQ a b n = sumQ (fun i => a i * b i) n
 | 0 => rfl
 | n + 1 => by show dotQ a b n + a n * b n = sumQ _ n + a n * b n; rw [dotSum a b n]
open Go.RowKit
def fillQ (k : Nat) (p d : Nat → Int) (i : Nat) : Rat := if i < k then oneQ (p i) (d i) else ((i : Int) : Rat)
theorem fillQ_lt {k i : Nat} {p d : Nat → Int} (h : i < k) : oneQ (p i) (d i) = fillQ k p d i := (if_pos h).symm
theorem fillQ_ge {k i : Nat} {p d : Nat → Int} (h : k ≤ i) : ((i : Int) : Rat) = fillQ k p d i := (if_neg zo).symm
theorem fillQ_sz {k i : Nat} {p d : Nat → Int} (hp : ∀ i, i < k → Wd64 (p i) ∧ Wd64 (d i)) (hi : i < 9223372036854775808) : szq (fillQ k p d i) ≤ 2 := by
 unfold fillQ
 split
 ·exact szq_one (hp i (by assumption)).1 (hp i (by assumption)).2
 ·have := szq_one (p := (i : Int)) (d := 0) ⟨by omega, by omega⟩ (by decide)
  unfold oneQ at this
  rwa [if_pos rfl] at this
theorem big_room {a b : Nat → Rat} {n : Nat} (hn : n ≤ 6) (ha : ∀ i, i < n → szq (a i) ≤ 520000000) (hb : ∀ i, i < n → szq (b i) ≤ 520000000) (h : ∀ i, i < n → szq (a i) ≤ 2 ∨ szq (b i) ≤ 2) : ∀ i, i < n → szq (a i) + szq (b i) ≤ 17179869184 ∧ szq (dotQ a b i) + szq (a i * b i) ≤ 17179869184 := fun i hi => by
 have h1 := dot_szq (a := a) (b := b) (s := 520000002) (n := i) fun j hj => Nat.le_trans (szq_mul _ _) (by have := ha j zo; have := hb j zo; rcases h j zo with h | h <;> omega)
 have h2 := szq_mul (a i) (b i)
 have h3 : 520000002 * i ≤ 520000002 * 6 := Nat.mul_le_mul_left _ zo
 have := ha i hi
 have := hb i hi
 omega
def nd (x : Nat) : Nat := (Wd.blen x + 15) / 16
open Go.RowKit
instance fzF : Fz := ⟨false⟩
instance fzT2 : Fz := ⟨true⟩
end Go.Proofs.YtgighdoacajmfaaGreat
