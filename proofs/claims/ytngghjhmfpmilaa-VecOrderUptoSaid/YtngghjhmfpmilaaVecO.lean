/- Rows are ordered; plain laws for VecOrder. -/
import Derived.Test.YtngghjhmfpmilaaVecR
namespace Go.Proofs.Ytngghjhmfpmilaa
open Go.RowKit
theorem cmpFrom_neg (a b : Nat → Rat) : ∀ k i, -(cmpFrom b a k i) = cmpFrom a b k i
  | 0, _ => rfl
  | k + 1, i => by
    show -(if b i = a i then _ else _) = (if a i = b i then _ else _)
    by_cases h : a i = b i
    · rw [if_pos h, if_pos h.symm]; exact cmpFrom_neg a b k (i + 1)
    · rw [if_neg h, if_neg fun e => h e.symm]; exact cmpQ_neg _ _
theorem cmpFrom_bd (a b : Nat → Rat) : ∀ k i, -1 ≤ cmpFrom a b k i ∧ cmpFrom a b k i ≤ 1
  | 0, _ => by show -1 ≤ (0 : Int) ∧ (0 : Int) ≤ 1; decide
  | k + 1, i => by
    show -1 ≤ (if a i = b i then _ else _) ∧ (if a i = b i then _ else _) ≤ 1
    split
    · exact cmpFrom_bd a b k (i + 1)
    · exact cmpQ_bd _ _
theorem cmpVec_bd (a b : Nat → Rat) (n m : Nat) : -1 ≤ cmpVec a n b m ∧ cmpVec a n b m ≤ 1 := by
  unfold cmpVec
  split
  · split
    · decide
    · split <;> decide
  · exact cmpFrom_bd _ _ _ _
theorem cmpVec_neg (a b : Nat → Rat) (n m : Nat) : -(cmpVec b m a n) = cmpVec a n b m := by
  unfold cmpVec
  rw [Nat.min_comm m n]
  have h := cmpFrom_neg a b (min n m) 0
  by_cases h0 : cmpFrom a b (min n m) 0 = 0
  · rw [if_pos h0, if_pos (by omega)]
    (repeat' split) <;> omega
  · rw [if_neg h0, if_neg (by omega)]; exact h
/-- the first that differ, or the shorter, is less -/
def LessV (a : Nat → Rat) (n : Nat) (b : Nat → Rat) (m : Nat) : Prop := ∃ i, i ≤ n ∧ i < m ∧ (∀ j, j < i → a j = b j) ∧ (i = n ∨ a i < b i)
theorem cmpFrom_cases (a b : Nat → Rat) : ∀ k i, (cmpFrom a b k i = 0 ∧ ∀ j, i ≤ j → j < i + k → a j = b j) ∨ ∃ t, i ≤ t ∧ t < i + k ∧ (∀ j, i ≤ j → j < t → a j = b j) ∧ a t ≠ b t ∧ cmpFrom a b k i = cmpQ (a t) (b t)
  | 0, i => .inl ⟨rfl, fun j h1 h2 => by omega⟩
  | k + 1, i => by
    by_cases h : a i = b i
    · have e : cmpFrom a b (k + 1) i = cmpFrom a b k (i + 1) := if_pos h
      rcases cmpFrom_cases a b k (i + 1) with ⟨h0, h1⟩ | ⟨t, h1, h2, h3, h4, h5⟩
      · exact .inl ⟨e.trans h0, fun j h2 h3 => by
          by_cases ej : j = i
          · subst ej; exact h
          · exact h1 j (by omega) (by omega)⟩
      · exact .inr ⟨t, by omega, by omega, fun j h6 h7 => by
          by_cases ej : j = i
          · subst ej; exact h
          · exact h3 j (by omega) (by omega), h4, e.trans h5⟩
    · exact .inr ⟨i, Nat.le_refl _, by omega, fun j h1 h2 => by omega, h, if_neg h⟩
theorem cmpVec_cases (a b : Nat → Rat) (n m : Nat) : (cmpVec a n b m = 0 ∧ n = m ∧ ∀ j, j < n → a j = b j) ∨ (cmpVec a n b m = -1 ∧ LessV a n b m) ∨ (cmpVec a n b m = 1 ∧ LessV b m a n) := by
  unfold cmpVec
  rcases cmpFrom_cases a b (min n m) 0 with ⟨h0, h1⟩ | ⟨t, h1, h2, h3, h4, h5⟩
  · rw [if_pos h0]
    by_cases h : n < m
    · rw [if_pos h]
      exact .inr (.inl ⟨rfl, n, Nat.le_refl _, h, fun j hj => h1 j (by omega) (by omega), .inl rfl⟩)
    · rw [if_neg h]
      by_cases h' : n > m
      · rw [if_pos h']
        exact .inr (.inr ⟨rfl, m, Nat.le_refl _, h', fun j hj => (h1 j (by omega) (by omega)).symm, .inl rfl⟩)
      · rw [if_neg h']
        exact .inl ⟨rfl, by omega, fun j hj => h1 j (by omega) (by omega)⟩
  · have hne : cmpFrom a b (min n m) 0 ≠ 0 := fun e => h4 ((cmpQ_zero _ _).1 (h5 ▸ e))
    rw [if_neg hne, h5]
    by_cases hlt : a t < b t
    · exact .inr (.inl ⟨if_pos hlt, t, by omega, by omega, fun j hj => h3 j (by omega) hj, .inr hlt⟩)
    · have hgt : b t < a t := by grind
      exact .inr (.inr ⟨(by unfold cmpQ; rw [if_neg hlt, if_neg h4]), t, by omega, by omega, fun j hj => (h3 j (by omega) hj).symm, .inr hgt⟩)
theorem LessV.trans {a b c : Nat → Rat} {n m k : Nat} (h1 : LessV a n b m) (h2 : LessV b m c k) : LessV a n c k := by
  obtain ⟨i, hi1, hi2, hi3, hi4⟩ := h1
  obtain ⟨j, hj1, hj2, hj3, hj4⟩ := h2
  rcases Nat.lt_trichotomy i j with h | h | h
  · refine ⟨i, hi1, by omega, fun t ht => (hi3 t ht).trans (hj3 t (by omega)), hi4.imp id fun hl => ?_⟩
    rw [← hj3 i h]; exact hl
  · subst h
    refine ⟨i, hi1, hj2, fun t ht => (hi3 t ht).trans (hj3 t ht), ?_⟩
    rcases hi4 with e | hl
    · exact .inl e
    · rcases hj4 with e | hl2
      · omega
      · exact .inr (by grind)
  · refine ⟨j, by omega, hj2, fun t ht => (hi3 t (by omega)).trans (hj3 t ht), ?_⟩
    rcases hj4 with e | hl
    · omega
    · exact .inr (by rw [hi3 j h]; exact hl)
theorem LessV.irrefl {a : Nat → Rat} {n : Nat} (h : LessV a n a n) : False := by
  obtain ⟨i, h1, h2, _, h4⟩ := h
  rcases h4 with e | h
  · omega
  · grind
theorem LessV.congr {a b a' b' : Nat → Rat} {n m : Nat} (h : LessV a n b m) (ha : ∀ j, j < n → a j = a' j) (hb : ∀ j, j < m → b j = b' j) : LessV a' n b' m := by
  obtain ⟨i, h1, h2, h3, h4⟩ := h
  refine ⟨i, h1, h2, fun j hj => by rw [← ha j (by omega), ← hb j (by omega)]; exact h3 j hj, ?_⟩
  by_cases e : i = n
  · exact .inl e
  · rcases h4 with h4 | h4
    · exact .inl h4
    · exact .inr (by rw [← ha i (by omega), ← hb i h2]; exact h4)
theorem cmpVec_trans {a b c : Nat → Rat} {n m k : Nat} (h1 : cmpVec a n b m ≤ 0) (h2 : cmpVec b m c k ≤ 0) : cmpVec a n c k ≤ 0 := by
  rcases cmpVec_cases a c n k with ⟨e, _⟩ | ⟨e, _⟩ | ⟨e, hl⟩
  · omega
  · omega
  · exfalso
    rcases cmpVec_cases a b n m with ⟨e1, rfl, f1⟩ | ⟨e1, l1⟩ | ⟨e1, _⟩
    · rcases cmpVec_cases b c n k with ⟨e2, rfl, f2⟩ | ⟨e2, l2⟩ | ⟨e2, _⟩
      · exact (hl.congr (fun j hj => ((f1 j hj).trans (f2 j hj)).symm) fun j _ => rfl).irrefl
      · exact (l2.trans (hl.congr (fun _ _ => rfl) f1)).irrefl
      · omega
    · rcases cmpVec_cases b c m k with ⟨e2, rfl, f2⟩ | ⟨e2, l2⟩ | ⟨e2, _⟩
      · exact (l1.trans (hl.congr (fun j hj => (f2 j hj).symm) fun _ _ => rfl)).irrefl
      · exact ((l1.trans l2).trans hl).irrefl
      · omega
    · omega
/-- a row of which the first i are as f says, all others as g says -/
def mixQ (f g : Nat → Rat) (i : Nat) : Nat → Rat := fun j => if j < i then f j else g j
theorem mixQ_zero (f g : Nat → Rat) : mixQ f g 0 = g := funext fun j => if_neg (by omega)
theorem mixQ_at (f g : Nat → Rat) (i : Nat) : mixQ f g i i = g i := if_neg (by omega)
theorem mixQ_upd (f g : Nat → Rat) (i : Nat) : updQ (mixQ f g i) i (f i) = mixQ f g (i + 1) := funext fun j => by
  unfold updQ mixQ
  by_cases h : j = i
  · subst h; rw [if_pos rfl, if_pos (by omega)]
  · rw [if_neg h]
    by_cases h2 : j < i
    · rw [if_pos h2, if_pos (by omega)]
    · rw [if_neg h2, if_neg (by omega)]
theorem vneg_wrap (a b : Nat → Rat) (n m : Nat) : IntKind.i64.wrap (0 - cmpVec a n b m) = -(cmpVec a n b m) := by
  have := cmpVec_bd a b n m
  rw [IntKind.wrap_i64]; omega
theorem order1 (a b c : Nat → Rat) (n m k : Nat) : ((((cmpVec a n b m : Int) != (-(cmpVec b m a n) : Int)) || (((((decide ((cmpVec a n b m : Int) ≤ (0 : Int))) && (decide ((cmpVec b m c k : Int) ≤ (0 : Int))))) && (decide ((cmpVec a n c k : Int) > (0 : Int))))))) = false := by
  rw [cmpVec_neg]
  have h := @cmpVec_trans a b c n m k
  by_cases h1 : cmpVec a n b m ≤ 0 <;> by_cases h2 : cmpVec b m c k ≤ 0 <;> simp [h1, h2]
  exact h h1 h2
theorem order2 (q f : Nat → Rat) (n : Nat) (hf : f = fun j0 => q j0 + ((1 : Int) : Rat)) : (((decide (cmpVec q n q n = 0)) && ((((((n : Nat) : Int) : Int) == (0 : Int))) || (!(decide (cmpVec (mixQ f q n) n q n = 0)))))) = true := by
  rw [decide_eq_true (cmpVec_zero.2 ⟨rfl, fun _ _ => rfl⟩)]
  by_cases h : n = 0
  · subst h; rfl
  · rw [decide_eq_false (show ¬ cmpVec (mixQ f q n) n q n = 0 from fun e => ?_)]
    · simp
    · have := (cmpVec_zero.1 e).2 0 (by omega)
      unfold mixQ at this
      rw [if_pos (by omega), hf] at this
      have h1 : ((1 : Int) : Rat) = 1 := rfl
      simp only [h1] at this
      grind
end Go.Proofs.Ytngghjhmfpmilaa
