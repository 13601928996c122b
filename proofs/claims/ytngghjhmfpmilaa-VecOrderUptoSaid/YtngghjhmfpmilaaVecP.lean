/- VecP: VecM, VecA, VecB, VecC, VecL, VecD, VecE, VecS. -/
import Derived.Test.YtngghjhmfpmilaaRatL
import Derived.Test.YtngghjhmfpmilaaFrac
import Derived.Deep.LoopGhost
/- Plain laws of rows of fractions. -/
namespace Go.Proofs.Ytngghjhmfpmilaa
open Go.RowKit
/-- from place i on, k places: what the first ones that differ say -/
def cmpFrom (a b : Nat → Rat) : Nat → Nat → Int
  | 0, _ => 0
  | k + 1, i => if a i = b i then cmpFrom a b k (i + 1) else cmpQ (a i) (b i)
def cmpVec (a : Nat → Rat) (n : Nat) (b : Nat → Rat) (m : Nat) : Int :=
  if cmpFrom a b (min n m) 0 = 0 then (if n < m then -1 else if n > m then 1 else 0) else cmpFrom a b (min n m) 0
def firstFrom (a : Nat → Rat) : Nat → Nat → Int
  | 0, _ => -1
  | k + 1, i => if a i = 0 then firstFrom a k (i + 1) else (i : Nat)
def firstV (a : Nat → Rat) (n : Nat) : Int := firstFrom a n 0
theorem cmpQ_zero (p q : Rat) : cmpQ p q = 0 ↔ p = q := by unfold cmpQ; grind
theorem cmp_zero {p q : Rat} (h : ((cmpQ p q : Int) != (0 : Int)) = false) : p = q := (cmpQ_zero p q).1 (by simpa using h)
theorem cmp_nz {p q : Rat} (h : ((cmpQ p q : Int) != (0 : Int)) = true) : p ≠ q := fun e => by
  rw [(cmpQ_zero p q).2 e] at h
  exact absurd h (by decide)
theorem eq_step {a b : Nat → Rat} {i : Nat} (h : ∀ j, j < i → a j = b j) (e : a i = b i) : ∀ j, j < i + 1 → a j = b j := fun j hj => by
  by_cases hji : j = i
  · subst hji; exact e
  · exact h j (by omega)
theorem min_lt {i n m : Nat} (h : decide ((((i : Nat) : Int) : Int) < (min ((((n : Nat) : Int) : Int)) ((((m : Nat) : Int) : Int)) : Int)) = true) : i < n ∧ i < m := by
  have := of_decide_eq_true h
  omega
theorem min_ge {i n m : Nat} (h : decide ((((i : Nat) : Int) : Int) < (min ((((n : Nat) : Int) : Int)) ((((m : Nat) : Int) : Int)) : Int)) = false) : min n m ≤ i := by
  have := of_decide_eq_false h
  omega
theorem cmpFrom_skip {a b : Nat → Rat} : ∀ (i : Nat) {N : Nat}, i ≤ N → (∀ j, j < i → a j = b j) → cmpFrom a b N 0 = cmpFrom a b (N - i) i
  | 0, _, _, _ => rfl
  | i + 1, N, h, he => by
    rw [cmpFrom_skip i (by omega) fun j hj => he j (by omega)]
    have e : N - i = (N - (i + 1)) + 1 := by omega
    rw [e]
    show (if a i = b i then _ else _) = _
    rw [if_pos (he i (by omega))]
theorem cmpVec_at {a b : Nat → Rat} {n m i : Nat} (h1 : i < n) (h2 : i < m) (he : ∀ j, j < i → a j = b j) (hd : a i ≠ b i) : cmpVec a n b m = cmpQ (a i) (b i) := by
  have e : cmpFrom a b (min n m) 0 = cmpQ (a i) (b i) := by
    rw [cmpFrom_skip i (by omega) he]
    have e : min n m - i = (min n m - (i + 1)) + 1 := by omega
    rw [e]
    show (if a i = b i then _ else _) = _
    rw [if_neg hd]
  unfold cmpVec
  rw [e, if_neg fun h => hd ((cmpQ_zero _ _).1 h)]
theorem cmpVec_end {a b : Nat → Rat} {n m i : Nat} {z : Int} (h1 : i ≤ n) (h2 : i ≤ m) (h3 : min n m ≤ i) (he : ∀ j, j < i → a j = b j)
    (hz : (z = -1 ∧ decide ((((n : Nat) : Int) : Int) < (((m : Nat) : Int) : Int)) = true) ∨ (z = 1 ∧ decide ((((n : Nat) : Int) : Int) < (((m : Nat) : Int) : Int)) = false ∧ decide ((((n : Nat) : Int) : Int) > (((m : Nat) : Int) : Int)) = true) ∨ (z = 0 ∧ decide ((((n : Nat) : Int) : Int) < (((m : Nat) : Int) : Int)) = false ∧ decide ((((n : Nat) : Int) : Int) > (((m : Nat) : Int) : Int)) = false)) : cmpVec a n b m = z := by
  have e : cmpFrom a b (min n m) 0 = 0 := by
    rw [cmpFrom_skip i (by omega) he, show min n m - i = 0 by omega]
    rfl
  unfold cmpVec
  rw [if_pos e]
  rcases hz with ⟨rfl, h⟩ | ⟨rfl, h, h'⟩ | ⟨rfl, h, h'⟩
  · have := of_decide_eq_true h
    rw [if_pos (by omega)]
  · have := of_decide_eq_true h'
    rw [if_neg (by omega), if_pos (by omega)]
  · have := of_decide_eq_false h
    have := of_decide_eq_false h'
    rw [if_neg (by omega), if_neg (by omega)]
theorem cmpVec_zero {a b : Nat → Rat} {n m : Nat} : cmpVec a n b m = 0 ↔ n = m ∧ ∀ j, j < n → a j = b j := by
  have key : ∀ k i, cmpFrom a b k i = 0 ↔ ∀ j, i ≤ j → j < i + k → a j = b j := by
    intro k
    induction k with
    | zero => intro i; exact ⟨fun _ j h1 h2 => by omega, fun _ => rfl⟩
    | succ k ih =>
      intro i
      show (if a i = b i then _ else _) = 0 ↔ _
      by_cases h : a i = b i
      · rw [if_pos h, ih]
        exact ⟨fun hh j h1 h2 => by
          by_cases e : j = i
          · subst e; exact h
          · exact hh j (by omega) (by omega), fun hh j h1 h2 => hh j (by omega) (by omega)⟩
      · rw [if_neg h, cmpQ_zero]
        exact ⟨fun e => absurd e h, fun hh => absurd (hh i (by omega) (by omega)) h⟩
  unfold cmpVec
  by_cases h : cmpFrom a b (min n m) 0 = 0
  · rw [if_pos h]
    rw [key] at h
    constructor
    · intro hz
      have hnm : n = m := by
        by_cases h1 : n < m
        · rw [if_pos h1] at hz; omega
        · rw [if_neg h1] at hz
          by_cases h2 : n > m
          · rw [if_pos h2] at hz; omega
          · omega
      exact ⟨hnm, fun j hj => h j (by omega) (by omega)⟩
    · rintro ⟨rfl, _⟩
      rw [if_neg (by omega), if_neg (by omega)]
  · rw [if_neg h]
    constructor
    · intro hz; exact absurd hz h
    · rintro ⟨rfl, he⟩
      exact absurd ((key _ _).2 fun j _ hj => he j (by omega)) h
theorem zero_step {a : Nat → Rat} {i : Nat} (h : ∀ j, j < i → a j = 0) (e : (!decide (a i = 0)) = false) : ∀ j, j < i + 1 → a j = 0 := fun j hj => by
  by_cases hji : j = i
  · subst hji; simpa using e
  · exact h j (by omega)
theorem firstFrom_skip {a : Nat → Rat} : ∀ (i : Nat) {N : Nat}, i ≤ N → (∀ j, j < i → a j = 0) → firstFrom a N 0 = firstFrom a (N - i) i
  | 0, _, _, _ => rfl
  | i + 1, N, h, he => by
    rw [firstFrom_skip i (by omega) fun j hj => he j (by omega)]
    have e : N - i = (N - (i + 1)) + 1 := by omega
    rw [e]
    show (if a i = 0 then _ else _) = _
    rw [if_pos (he i (by omega))]
theorem firstV_at {a : Nat → Rat} {n i : Nat} (h1 : i < n) (he : ∀ j, j < i → a j = 0) (hd : (!decide (a i = 0)) = true) : firstV a n = (i : Nat) := by
  unfold firstV
  rw [firstFrom_skip i (by omega) he]
  have e : n - i = (n - (i + 1)) + 1 := by omega
  rw [e]
  show (if a i = 0 then _ else _) = _
  rw [if_neg (by simpa using hd)]
theorem firstV_end {a : Nat → Rat} {n i : Nat} (he : ∀ j, j < i → a j = 0) (h : n ≤ i) : firstV a n = -1 := by
  unfold firstV
  rw [firstFrom_skip n (Nat.le_refl _) fun j hj => he j (by omega), Nat.sub_self]
  rfl
theorem firstV_neg {a : Nat → Rat} {n : Nat} : firstV a n < 0 ↔ ∀ j, j < n → a j = 0 := by
  have key : ∀ k i, firstFrom a k i < 0 ↔ ∀ j, i ≤ j → j < i + k → a j = 0 := by
    intro k
    induction k with
    | zero => intro i; exact ⟨fun _ j h1 h2 => by omega, fun _ => show (-1 : Int) < 0 by decide⟩
    | succ k ih =>
      intro i
      show (if a i = 0 then _ else _) < 0 ↔ _
      by_cases h : a i = 0
      · rw [if_pos h, ih]
        exact ⟨fun hh j h1 h2 => by
          by_cases e : j = i
          · subst e; exact h
          · exact hh j (by omega) (by omega), fun hh j h1 h2 => hh j (by omega) (by omega)⟩
      · rw [if_neg h]
        exact ⟨fun e => by omega, fun hh => absurd (hh i (by omega) (by omega)) h⟩
  unfold firstV
  rw [key]
  exact ⟨fun h j hj => h j (by omega) (by omega), fun h j _ hj => h j (by omega)⟩
/-- the sum of the products -/
def dotQ (a b : Nat → Rat) : Nat → Rat
  | 0 => 0
  | n + 1 => dotQ a b n + a n * b n
theorem dot_skip {a b : Nat → Rat} {i : Nat} (h : ((!(decide (a i = 0))) && (!(decide (b i = 0)))) = false) : dotQ a b i = dotQ a b (i + 1) := by
  have : a i * b i = 0 := by
    simp only [Bool.and_eq_false_iff, Bool.not_eq_false', decide_eq_true_eq] at h
    rcases h with h | h <;> rw [h] <;> simp
  show _ = dotQ a b i + a i * b i
  rw [this, Rat.add_zero]
theorem nought_yes {z : Int} (h : ((decide ((z : Int) < (0 : Int))) || (decide ((z : Int) > (64 : Int)))) = true) : ¬ (0 ≤ z ∧ z ≤ 64) := by
  simp only [Bool.or_eq_true, decide_eq_true_eq] at h
  omega
theorem nought_no {z : Int} (h : ((decide ((z : Int) < (0 : Int))) || (decide ((z : Int) > (64 : Int)))) = false) : 0 ≤ z ∧ z ≤ 64 := by
  simp only [Bool.or_eq_false_iff, decide_eq_false_iff_not] at h
  omega
theorem unit_yes {z k : Int} (h : ((((!(decide (0 ≤ z ∧ z ≤ 64))) || (decide ((k : Int) < (0 : Int))))) || (decide ((k : Int) ≥ (z : Int)))) = true) : ¬ ((0 ≤ z ∧ z ≤ 64) ∧ 0 ≤ k ∧ k < z) := by
  simp only [Bool.or_eq_true, Bool.not_eq_true', decide_eq_true_eq, decide_eq_false_iff_not] at h
  omega
theorem unit_no {z k : Int} (h : ((((!(decide (0 ≤ z ∧ z ≤ 64))) || (decide ((k : Int) < (0 : Int))))) || (decide ((k : Int) ≥ (z : Int)))) = false) : (0 ≤ z ∧ z ≤ 64) ∧ 0 ≤ k ∧ k < z := by
  simp only [Bool.or_eq_false_iff, Bool.not_eq_false', decide_eq_true_eq, decide_eq_false_iff_not] at h
  omega
end Go.Proofs.Ytngghjhmfpmilaa
/- package vec (a). -/
namespace Go.Proofs.Ytngghjhmfpmilaa
open Go.RowKit
theorem cal_rat_Int : Callable Try.prog 16 := callable_of Try.func16 rfl (by kernel_rfl)
theorem cal_actuarylaw10_One : Callable Try.prog 21 := callable_of Try.func21 rfl (by kernel_rfl)
set_option maxRecDepth 100000 in
set_option maxHeartbeats 2000000 in
theorem cCopy {B : Nat} {F : Nat → Prop} {q : Nat → Rat} {n : Nat} {va : Value} {w : World} (hB : B ≤ w.heap.size) (hF : ∀ k, F k → k < w.heap.size) (hv : (MR.vec (fun _ => False) (q) (n)).R w va) (hn : n ≤ 68719476736) : Calls Try.prog 14 #[va] w (Ret (.ownv (B) (fun k => F k) (q) (n)) w) := by
  refine calls_enter (a := ⟨List.toArray ([va] ++ us 4), []⟩) Try.func14 rfl (by kernel_rfl) ?_
  have NL : NoLook (bodyPost Try.prog Try.f14 (Ret (.ownv (B) (fun k => F k) (q) (n)) w)) := noLook_body
  refine wp_seq ?_
  refine rg (fun c d v a w h => NL c d v a w h) [(2, .eq (.slice none 0 0))] [] [] [] 5 1 ?_ ?_
  · exact so [] (fun w1 hw1 => .fin (yld_assign rfl ⟨Grow.refl _, rfl⟩)) (.nil _ _)
  rintro w1 hw1 _ rfl -
  have W1 : Grow w w1 := (Grow.refl w).trans hw1
  have z1 : w.heap.size ≤ w1.heap.size := hw1.size
  replace hv := MR.mono _ hw1 hv
  refine fr [va, u, .slice none 0 0, u, u] ?_
  refine nx ?_
  refine wp_seq ?_
  refine rg (fun c d v a w h => NL c d v a w h) [(3, .vec (fun _ => False) (q) (n)), (4, .ownv (w.heap.size) (fun k => F k) (q) (n)), (2, .ownv (w.heap.size) (fun k => F k) (q) (n))] [] [] [] 5 3 ?_ ?_
  · refine so [] (fun w2 hw2 => .fin (yld_move rfl ⟨Grow.refl _, (MR.mono _ hw2 hv)⟩)) ?_
    refine soP [(3, .vec (fun _ => False) (q) (n))] (fun w2 hw2 => by rintro v3 h3; exact .fin (yld_copyV (B := w.heap.size) (F := fun k => F k) Try.underlying25 rfl rfl (vec0 h3) (hn) (Grow.trans W1 hw2).size (fun k hk => (fun h => Nat.lt_of_lt_of_le (hF k h) (Grow.trans W1 hw2).size) hk))) ?_
    exact soP [(4, .ownv (w.heap.size) (fun k => F k) (q) (n))] (fun w2 hw2 => by rintro v4 h4; exact .fin (yld_assign rfl ⟨Grow.refl _, h4⟩)) (.nil _ _)
  rintro w2 hw2 v3 - v4 - v2 h2 -
  have W2 : Grow w w2 := W1.trans hw2
  have z2 : w1.heap.size ≤ w2.heap.size := hw2.size
  replace h2 := ownv_own (F' := fun k => (F k) ∨ w2.heap.size ≤ k) h2 (fun k hk => hk)
  replace hv := MR.mono _ hw2 hv
  refine fr [va, u, v2, v3, v4] ?_
  refine nx ?_
  refine wp_ret ?_
  change bodyPost Try.prog Try.f14 (Ret (.ownv (B) (fun k => F k) (q) (n)) w) .ret _ _
  exact body_slot rfl (ownv_cast h2 hB (fun k hk => (Or.inl hk)) (fun _ _ => rfl)) rfl W2
set_option maxRecDepth 100000 in
set_option maxHeartbeats 2000000 in
theorem cOne {p d : Int} {va : Value} {w : World}  (ha : (MR.eq (.agg #[.int .i64 (p), .int .i64 (d)])).R w va) (hp : R64 p) (hd : R64 d) : Calls Try.prog 21 #[va] w (Ret (.rat (fracQ p d)) w) := by
  obtain ⟨hp1, hp2⟩ := hp
  obtain ⟨hd1, hd2⟩ := hd
  refine calls_enter (a := ⟨List.toArray ([va] ++ us 19), []⟩) Try.func21 rfl (by kernel_rfl) ?_
  have NL : NoLook (bodyPost Try.prog Try.f21 (Ret (.rat (fracQ p d)) w)) := noLook_body
  refine wp_seq ?_
  refine rg (fun c d v a w h => NL c d v a w h) [(1, .ptr 48 (.eq (.agg #[.int .i64 (p), .int .i64 (d)]))), (2, .ptr 35 (.rat (0)))] [0, 1] [] [] 20 2 ?_ ?_
  · refine sn [] (fun w1 hw1 => .fin (yld_newBox rfl rfl (MR.mono _ hw1 ha))) ?_
    exact sn [] (fun w1 hw1 => .fin (yld_newAlloc rfl zeroRat zRat)) (.nil _ _)
  rintro w1 hw1 _ ⟨b1, rfl, B1⟩ _ ⟨b2, rfl, B2⟩ hN
  have W1 : Grow w w1 := (Grow.refl w).trans hw1
  have n_b1_b2 : b1 ≠ b2 := hN.2.1 1 (by simp)
  have g_b2 : w.heap.size ≤ b2 := Nat.le_trans (Grow.refl w).size hN.2.2.1.1
  clear hN
  refine fr ([va, pt b1, pt b2] ++ us 17) ?_
  refine nx ?_
  refine wp_seq ?_
  refine wp_seq ?_
  refine rg (fun c d v a w h => NL c d v a w h) [(5, .eq (.pointer (some ⟨b1, 1, none⟩))), (6, .eq (.int .i64 (d))), (7, .eq (.bool ((d : Int) == (0 : Int))))] [] [] [] 20 3 ?_ ?_
  · refine so [] (fun w2 hw2 => .fin (yld_fieldAddr rfl rfl fldFrac1 ⟨Grow.refl _, rfl⟩)) ?_
    refine so [0] (fun w2 hw2 => by rintro _ rfl; exact .fin (yld_loadOne rfl rfl oneInt (B1.grow hw2) (paFrac1))) ?_
    exact so [1] (fun w2 hw2 => by rintro _ rfl; exact .fin (yld_eql rfl rfl rfl ⟨Grow.refl _, rfl⟩)) (.nil _ _)
  rintro w2 hw2 v5 - v6 - _ rfl -
  have W2 : Grow w w2 := W1.trans hw2
  replace B1 := B1.grow hw2
  replace B2 := B2.grow hw2
  refine fr ([va, pt b1, pt b2, u, u, v5, v6, .bool ((d : Int) == (0 : Int))] ++ us 12) ?_
  refine nx ?_
  refine wp_cond_split (t := (d : Int) == (0 : Int)) rfl (fun hc => ?_) (fun hc => ?_)
  · refine wp_seq ?_
    refine rg (fun c d v a w h => NL c d v a w h) [(8, .eq (.pointer (some ⟨b1, 0, none⟩))), (9, .eq (.int .i64 (p))), (10, .rat (((p : Int) : Rat)))] [] [] [] 20 3 ?_ ?_
    · refine so [] (fun w3 hw3 => .fin (yld_fieldAddr rfl rfl fldFrac0 ⟨Grow.refl _, rfl⟩)) ?_
      refine so [0] (fun w3 hw3 => by rintro _ rfl; exact .fin (yld_loadOne rfl rfl oneInt (B1.grow hw3) (paFrac0))) ?_
      exact so [1] (fun w3 hw3 => by rintro _ rfl; exact .fin (yld_call rfl cal_rat_Int rfl (cRatInt (x := p) (by omega) (by omega)))) (.nil _ _)
    rintro w3 hw3 v8 - v9 - v10 h10 -
    have W3 : Grow w w3 := W2.trans hw3
    replace B1 := B1.grow hw3
    replace B2 := B2.grow hw3
    have KK : Kept [] w3 w3 := fun _ _ => rfl
    refine fr ([va, pt b1, pt b2, u, u, v5, v6, .bool ((d : Int) == (0 : Int)), v8, v9, v10] ++ us 9) ?_
    change wpListS _ _ _ _ [_] ⟨_, []⟩ _
    refine wpListS_yld rfl ?_
    refine yld_storeBox (R' := .rat (((p : Int) : Rat))) (b := b2) rfl rfl aggRat.size B2 (shRat _) h10 (shRat _) (St.rat _) (by decide) g_b2 fun w4 P4 E4 B' => ⟨fun _ => Kept.put KK P4 (fun _ hk => (by cases hk)), ?_⟩
    replace KK := Kept.put KK P4 (fun _ hk => (by cases hk))
    have W4 : Grow w w4 := W3.put P4 g_b2
    replace B1 := B1.put (St.eq _) P4 E4 n_b1_b2
    replace B2 := B'; clear B'
    refine nx ?_
    have BR : Box w4 b2 35 (.rat (fracQ p d)) := (by have e : (((p : Int) : Rat) : Rat) = fracQ p d := (by unfold fracQ; first | exact (if_pos (by simpa using hc)).symm | exact (if_neg (by simpa using hc)).symm); rw [← e]; exact B2)
    refine wp_ret ?_
    change bodyPost Try.prog Try.f21 (Ret (.rat (fracQ p d)) w) .ret _ _
    exact body_cell (b := b2) rfl rfl aggRat BR (shRat _) rfl W4
  · refine wp_skip ?_
    change Code.wp _ _ _ ⟨_, []⟩ _
    refine wp_seq ?_
    refine rg (fun c d v a w h => NL c d v a w h) [(12, .eq (.pointer (some ⟨b1, 0, none⟩))), (13, .eq (.int .i64 (p))), (14, .eq (.pointer (some ⟨b1, 1, none⟩))), (15, .eq (.int .i64 (d))), (16, .tup2 (.rat (Rat.divInt p d)) (.eq (.bool (!decide (d = 0))))), (11, .tup2 (.rat (Rat.divInt p d)) (.eq (.bool (!decide (d = 0))))), (17, .rat (Rat.divInt p d)), (18, .eq (.bool (!decide (d = 0)))), (3, .ptr 35 (.rat (0)))] [8] [7] [] 20 9 ?_ ?_
    · refine so [] (fun w5 hw5 => .fin (yld_fieldAddr rfl rfl fldFrac0 ⟨Grow.refl _, rfl⟩)) ?_
      refine so [0] (fun w5 hw5 => by rintro _ rfl; exact .fin (yld_loadOne rfl rfl oneInt (B1.grow hw5) (paFrac0))) ?_
      refine so [] (fun w5 hw5 => .fin (yld_fieldAddr rfl rfl fldFrac1 ⟨Grow.refl _, rfl⟩)) ?_
      refine so [2] (fun w5 hw5 => by rintro _ rfl; exact .fin (yld_loadOne rfl rfl oneInt (B1.grow hw5) (paFrac1))) ?_
      refine so [1, 3] (fun w5 hw5 => by rintro _ rfl _ rfl; exact .fin (yld_call rfl cal_rat_Of rfl (cRatOf (p := p) (q := d) (by omega) (by omega) (by omega) (by omega)))) ?_
      refine so [4] (fun w5 hw5 => by rintro _ ⟨x16_0, x16_1, rfl, hx16_0, hx16_1⟩; exact .fin (yld_move rfl ⟨Grow.refl _, ⟨x16_0, x16_1, rfl, hx16_0, hx16_1⟩⟩)) ?_
      refine so [5] (fun w5 hw5 => by rintro _ ⟨x11_0, x11_1, rfl, hx11_0, hx11_1⟩; exact .fin (yld_extract rfl rfl rfl ⟨Grow.refl _, hx11_0⟩)) ?_
      refine sl [5] (fun w5 hw5 => by rintro _ ⟨x11_0, x11_1, rfl, hx11_0, hx11_1⟩; exact .fin (⟨_, fun w2 _ => pure_extract rfl rfl rfl w2, hx11_1⟩)) ?_
      exact sn [] (fun w5 hw5 => .fin (yld_newAlloc rfl zeroRat zRat)) (.nil _ _)
    rintro w5 hw5 v12 - v13 - v14 - v15 - v16 - v11 - v17 h17 _ rfl _ ⟨b3, rfl, B3⟩ hN
    have W5 : Grow w w5 := W2.trans hw5
    have g_b3 : w.heap.size ≤ b3 := Nat.le_trans W2.size hN.1.1
    have n_b2_b3 : b2 ≠ b3 := Nat.ne_of_lt (Nat.lt_of_lt_of_le B2.lt hN.1.1)
    clear hN
    replace B2 := B2.grow hw5
    have KK : Kept [] w5 w5 := fun _ _ => rfl
    refine fr (va :: pt b1 :: pt b2 :: pt b3 :: u :: v5 :: v6 :: .bool ((d : Int) == (0 : Int)) :: u :: u :: u :: v11 :: v12 :: v13 :: v14 :: v15 :: v16 :: v17 :: .bool (!decide (d = 0)) :: u :: []) ?_
    change wpListS _ _ _ _ [_, _] ⟨_, []⟩ _
    refine wpListS_yld rfl ?_
    refine yld_storeBox (R' := .rat (Rat.divInt p d)) (b := b3) rfl rfl aggRat.size B3 (shRat _) h17 (shRat _) (St.rat _) (by decide) g_b3 fun w6 P6 E6 B' => ⟨fun _ => Kept.put KK P6 (fun _ hk => (by cases hk)), ?_⟩
    replace KK := Kept.put KK P6 (fun _ hk => (by cases hk))
    have W6 : Grow w w6 := W5.put P6 g_b3
    replace B2 := B2.put (St.rat _) P6 E6 n_b2_b3
    replace B3 := B'; clear B'
    change wpListS _ _ _ _ [_] ⟨_, []⟩ _
    refine wpListS_yld rfl ?_
    refine yld_assign rfl ⟨fun _ => KK, ?_⟩
    refine wpListS_nil ?_
    change Code.wp _ _ _ ⟨List.toArray (List.set _ 4 _), []⟩ _
    refine wp_seq ?_
    refine rg (fun c d v a w h => NL c d v a w h) [(19, .rat (Rat.divInt p d))] [] [] [] 20 1 ?_ ?_
    · exact so [] (fun w7 hw7 => .fin (yld_loadBox rfl rfl aggRat (B3.grow hw7) (shRat _))) (.nil _ _)
    rintro w7 hw7 v19 h19 -
    have W7 : Grow w w7 := W6.trans hw7
    replace B2 := B2.grow hw7
    have KK : Kept [] w7 w7 := fun _ _ => rfl
    refine fr (va :: pt b1 :: pt b2 :: pt b3 :: .bool (!decide (d = 0)) :: v5 :: v6 :: .bool ((d : Int) == (0 : Int)) :: u :: u :: u :: v11 :: v12 :: v13 :: v14 :: v15 :: v16 :: v17 :: .bool (!decide (d = 0)) :: v19 :: []) ?_
    change wpListS _ _ _ _ [_] ⟨_, []⟩ _
    refine wpListS_yld rfl ?_
    refine yld_storeBox (R' := .rat (Rat.divInt p d)) (b := b2) rfl rfl aggRat.size B2 (shRat _) h19 (shRat _) (St.rat _) (by decide) g_b2 fun w8 P8 E8 B' => ⟨fun _ => Kept.put KK P8 (fun _ hk => (by cases hk)), ?_⟩
    have W8 : Grow w w8 := W7.put P8 g_b2
    replace B2 := B'; clear B'
    refine nx ?_
    have BR : Box w8 b2 35 (.rat (fracQ p d)) := (by have e : (Rat.divInt p d : Rat) = fracQ p d := (by unfold fracQ; first | exact (if_pos (by simpa using hc)).symm | exact (if_neg (by simpa using hc)).symm); rw [← e]; exact B2)
    refine wp_ret ?_
    change bodyPost Try.prog Try.f21 (Ret (.rat (fracQ p d)) w) .ret _ _
    exact body_cell (b := b2) rfl rfl aggRat BR (shRat _) rfl W8
set_option maxRecDepth 100000 in
set_option maxHeartbeats 2000000 in
theorem cMake10 {B : Nat} {F : Nat → Prop} {P D : Nat → Int} {n : Nat} {va : Value} {w : World} (hB : B ≤ w.heap.size) (hF : ∀ k, F k → k < w.heap.size) (hv : (MR.sl (fun _ => False) 2 (fun i => .eq (.agg #[.int .i64 (P i), .int .i64 (D i)])) (n)).R w va) (hn : n ≤ 68719476736) (hr : ∀ i, i < n → R64 (P i) ∧ R64 (D i)) : Calls Try.prog 12 #[va] w (Ret (.ownv (B) (fun k => F k) (fun i => fracQ (P i) (D i)) (n)) w) := by
  have _ := hn
  obtain ⟨Q, hQ⟩ : ∃ Q : Nat → Rat, Q = fun i => fracQ (P i) (D i) := ⟨_, rfl⟩
  refine calls_enter (a := ⟨List.toArray ([va] ++ us 19), []⟩) Try.func12 rfl (by kernel_rfl) ?_
  have NL : NoLook (bodyPost Try.prog Try.f12 (Ret (.ownv (B) (fun k => F k) (fun i => fracQ (P i) (D i)) (n)) w)) := noLook_body
  replace hv := sl_own (F' := fun k => w.heap.size ≤ k) hv (fun k hk => .inr hk)
  refine wp_seq ?_
  refine rg (fun c d v a w h => NL c d v a w h) [(2, .eq (.slice none 0 0))] [] [] [] 20 1 ?_ ?_
  · exact so [] (fun w1 hw1 => .fin (yld_assign rfl ⟨Grow.refl _, rfl⟩)) (.nil _ _)
  rintro w1 hw1 _ rfl -
  have W1 : Grow w w1 := (Grow.refl w).trans hw1
  have z1 : w.heap.size ≤ w1.heap.size := hw1.size
  replace hv := MR.mono _ hw1 hv
  refine fr ([va, u, .slice none 0 0] ++ us 17) ?_
  refine nx ?_
  refine wp_seq ?_
  refine rg (fun c d v a w h => NL c d v a w h) [(3, .eq (.slice none 0 0))] [] [] [] 20 1 ?_ ?_
  · exact so [] (fun w2 hw2 => .fin (yld_assign rfl ⟨Grow.refl _, rfl⟩)) (.nil _ _)
  rintro w2 hw2 _ rfl -
  have W2 : Grow w w2 := W1.trans hw2
  have z2 : w1.heap.size ≤ w2.heap.size := hw2.size
  replace hv := MR.mono _ hw2 hv
  refine fr ([va, u, .slice none 0 0, .slice none 0 0] ++ us 16) ?_
  refine nx ?_
  refine wp_seq ?_
  refine wp_seq ?_
  refine rg (fun c d v a w h => NL c d v a w h) [(4, .eq (.int .i64 (0)))] [] [] [] 20 1 ?_ ?_
  · exact so [] (fun w3 hw3 => .fin (yld_assign rfl ⟨Grow.refl _, rfl⟩)) (.nil _ _)
  rintro w3 hw3 _ rfl -
  have W3 : Grow w w3 := W2.trans hw3
  have z3 : w2.heap.size ≤ w3.heap.size := hw3.size
  replace hv := MR.mono _ hw3 hv
  refine fr ([va, u, .slice none 0 0, .slice none 0 0, .int .i64 (0)] ++ us 15) ?_
  refine nx ?_
  refine wp_block ?_
  refine wp_loop_ghost (fun nn ac4 w4 => ∃ (i : Nat), nn = n - i ∧ (i ≤ n) ∧ ∃ (t3 : Value) (tt4 : Nat → Value), ac4 = ⟨List.toArray (va :: u :: .slice none 0 0 :: t3 :: It i :: (tt4 5) :: (tt4 6) :: (tt4 7) :: (tt4 8) :: (tt4 9) :: (tt4 10) :: (tt4 11) :: (tt4 12) :: (tt4 13) :: (tt4 14) :: (tt4 15) :: (tt4 16) :: (tt4 17) :: (tt4 18) :: u :: []), []⟩ ∧ Grow w w4 ∧ (MR.sl (fun k => w.heap.size ≤ k) 2 (fun i => .eq (.agg #[.int .i64 (P i), .int .i64 (D i)])) (n)).R w4 va ∧ (MR.ownv (w.heap.size) (fun k => F k) (Q) (i)).R w4 t3) (n - 0) ⟨0, rfl, Nat.zero_le _, .slice none 0 0, fun d => ((.slice none 0 0 :: .int .i64 (0) :: u :: u :: u :: u :: u :: u :: u :: u :: u :: u :: u :: u :: u :: u :: []) : List Value).getD (d - 3) undef, by kernel_rfl, W3, hv, ownv_nil⟩ ?_
  clear hv
  rintro nn4 _ w4 ⟨i, hnn4, hinv, t3, tt4, rfl, W4, hv, h3⟩
  refine wp_seq ?_
  refine wp_seq ?_
  refine rg (fun c d v a w h => NL c d v a w h) [(5, .eq (.int .i64 (((i : Nat) : Int)))), (6, .sl (fun k => w.heap.size ≤ k) 2 (fun i => .eq (.agg #[.int .i64 (P i), .int .i64 (D i)])) (n)), (7, .eq (.int .i64 (((n : Nat) : Int)))), (8, .eq (.bool (decide ((((i : Nat) : Int) : Int) < (((n : Nat) : Int) : Int)))))] [] [] [] 20 4 ?_ ?_
  · refine so [] (fun w5 hw5 => .fin (yld_move rfl ⟨Grow.refl _, rfl⟩)) ?_
    refine so [] (fun w5 hw5 => .fin (yld_move rfl ⟨Grow.refl _, (MR.mono _ hw5 hv)⟩)) ?_
    refine soP [(6, .sl (fun k => w.heap.size ≤ k) 2 (fun i => .eq (.agg #[.int .i64 (P i), .int .i64 (D i)])) (n))] (fun w5 hw5 => by rintro v6 h6; exact .fin (yld_lenS Try.underlying22 rfl h6)) ?_
    exact so [0, 2] (fun w5 hw5 => by rintro _ rfl _ rfl; exact .fin (yld_lss rfl rfl rfl ⟨Grow.refl _, rfl⟩)) (.nil _ _)
  rintro w5 hw5 v5 - v6 - v7 - _ rfl -
  have W5 : Grow w w5 := W4.trans hw5
  have z5 : w4.heap.size ≤ w5.heap.size := hw5.size
  replace hv := MR.mono _ hw5 hv
  replace h3 := MR.mono _ hw5 h3
  refine fr (va :: u :: .slice none 0 0 :: t3 :: It i :: v5 :: v6 :: v7 :: .bool (decide ((((i : Nat) : Int) : Int) < (((n : Nat) : Int) : Int))) :: (tt4 9) :: (tt4 10) :: (tt4 11) :: (tt4 12) :: (tt4 13) :: (tt4 14) :: (tt4 15) :: (tt4 16) :: (tt4 17) :: (tt4 18) :: u :: []) ?_
  refine nx ?_
  refine wp_cond_split (t := decide ((((i : Nat) : Int) : Int) < (((n : Nat) : Int) : Int))) rfl (fun hc => ?_) (fun hc => ?_)
  · have hlt : i < n := by have := of_decide_eq_true hc; omega
    refine wp_skip ?_
    change Code.wp _ _ _ ⟨_, []⟩ _
    refine wp_seq ?_
    refine wp_block ?_
    refine rg (fun c d v a w h => NL c d v a w h) [(11, .eq (t3)), (12, .sl (fun k => w.heap.size ≤ k) 2 (fun i => .eq (.agg #[.int .i64 (P i), .int .i64 (D i)])) (n)), (13, .eq (.int .i64 (((i : Nat) : Int)))), (14, .eptr (fun k => w.heap.size ≤ k) 2 (.eq (.agg #[.int .i64 (P i), .int .i64 (D i)]))), (15, .eq (.agg #[.int .i64 (P i), .int .i64 (D i)])), (16, .rat (Q i)), (17, .lit1 (Q i))] [] [] [] 20 7 ?_ ?_
    · refine so [] (fun w6 hw6 => .fin (yld_move rfl ⟨Grow.refl _, rfl⟩)) ?_
      refine so [] (fun w6 hw6 => .fin (yld_move rfl ⟨Grow.refl _, (MR.mono _ hw6 hv)⟩)) ?_
      refine so [] (fun w6 hw6 => .fin (yld_move rfl ⟨Grow.refl _, rfl⟩)) ?_
      refine soP [(12, .sl (fun k => w.heap.size ≤ k) 2 (fun i => .eq (.agg #[.int .i64 (P i), .int .i64 (D i)])) (n)), (13, .eq (.int .i64 (((i : Nat) : Int))))] (fun w6 hw6 => by rintro v12 h12 _ rfl; exact .fin (yld_indexS (E := fun i => .eq (.agg #[.int .i64 (P i), .int .i64 (D i)])) (k := i) Try.underlying22 (by kernel_rfl) rfl h12 rfl rfl (hlt))) ?_
      refine soP [(14, .eptr (fun k => w.heap.size ≤ k) 2 (.eq (.agg #[.int .i64 (P i), .int .i64 (D i)])))] (fun w6 hw6 => by rintro v14 h14; exact .fin (yld_loadR Try.underlying48 rfl (by kernel_rfl) shFrac rfl h14)) ?_
      refine so [4] (fun w6 hw6 => by rintro v15 h15; exact .fin (yld_as (R := .rat (fracQ (P i) (D i))) (R2 := .rat (Q i)) (yld_call rfl cal_actuarylaw10_One rfl (cOne h15 (hr i hlt).1 (hr i hlt).2)) (fun h => by rw [hQ]; exact h))) ?_
      exact so [5] (fun w6 hw6 => by rintro v16 h16; exact .fin (yld_lit1 Try.underlying25 rfl h16)) (.nil _ _)
    rintro w6 hw6 v11 e11 v12 - v13 - v14 - v15 - v16 - v17 h17 -
    have W6 : Grow w w6 := W5.trans hw6
    have z6 : w5.heap.size ≤ w6.heap.size := hw6.size
    subst v11
    replace hv := MR.mono _ hw6 hv
    replace h3 := MR.mono _ hw6 h3
    have KK : Kept [] w6 w6 := fun _ _ => rfl
    refine fr (va :: u :: .slice none 0 0 :: t3 :: It i :: v5 :: v6 :: v7 :: .bool (decide ((((i : Nat) : Int) : Int) < (((n : Nat) : Int) : Int))) :: (tt4 9) :: (tt4 10) :: t3 :: v12 :: v13 :: v14 :: v15 :: v16 :: v17 :: (tt4 18) :: u :: []) ?_
    change wpListS _ _ _ _ [_, _] ⟨_, []⟩ _
    refine wpListS_yld rfl ?_
    refine yld_appendV (B := w.heap.size) (F' := fun k => F k) Try.underlying25 rfl h3 h17 (by omega) W6.size (fun k hk => (fun h => ⟨h, Nat.lt_of_lt_of_le (hF k h) W6.size⟩) hk) fun v18 w7 A7 h18 => ⟨fun _ => (fun _ hk => (by cases hk)), ?_⟩
    have W7 : Grow w w7 := A7.grow W6 (Nat.le_refl _)
    have z7 : w6.heap.size ≤ w7.heap.size := A7.size
    replace hv := (StF.sl fun i => StF.eq _) (App.extF A7 fun k _ hk => .inl (by omega)) hv
    have KK : Kept [] w6 w7 := fun _ hk => (by cases hk)
    change wpListS _ _ _ _ [_] ⟨List.toArray (List.set _ 18 _), []⟩ _
    refine wpListS_yld rfl ?_
    refine yld_assign rfl ⟨fun _ => KK, ?_⟩
    refine wpListS_nil ?_
    change Code.wp _ _ _ ⟨List.toArray (List.set _ 3 _), []⟩ _
    refine rg (fun c d v a w h => NL c d v a w h) [(9, .eq (.int .i64 (((i : Nat) : Int)))), (10, .eq (.int .i64 (((i + 1 : Nat) : Int))))] [] [] [] 20 2 ?_ ?_
    · refine so [] (fun w8 hw8 => .fin (yld_move rfl ⟨Grow.refl _, rfl⟩)) ?_
      exact so [0] (fun w8 hw8 => by rintro _ rfl; exact .fin (yld_add rfl rfl rfl (r := ((i + 1 : Nat) : Int)) (by rw [IntKind.wrap_i64]; omega) ⟨Grow.refl _, rfl⟩)) (.nil _ _)
    rintro w8 hw8 v9 - _ rfl -
    have W8 : Grow w w8 := W7.trans hw8
    have z8 : w7.heap.size ≤ w8.heap.size := hw8.size
    replace hv := MR.mono _ hw8 hv
    replace h18 := MR.mono _ hw8 h18
    have KK : Kept [] w8 w8 := fun _ _ => rfl
    refine fr (va :: u :: .slice none 0 0 :: v18 :: It i :: v5 :: v6 :: v7 :: .bool (decide ((((i : Nat) : Int) : Int) < (((n : Nat) : Int) : Int))) :: v9 :: It (i + 1) :: t3 :: v12 :: v13 :: v14 :: v15 :: v16 :: v17 :: v18 :: u :: []) ?_
    change wpListS _ _ _ _ [_] ⟨_, []⟩ _
    refine wpListS_yld rfl ?_
    refine yld_assign rfl ⟨fun _ => KK, ?_⟩
    refine wpListS_nil ?_
    refine ⟨_, ?_, i + 1, rfl, (by omega), v18, fun d => ((v18 :: It (i + 1) :: v5 :: v6 :: v7 :: .bool (decide ((((i : Nat) : Int) : Int) < (((n : Nat) : Int) : Int))) :: v9 :: It (i + 1) :: t3 :: v12 :: v13 :: v14 :: v15 :: v16 :: v17 :: v18 :: []) : List Value).getD (d - 3) undef, by kernel_rfl, W8, hv, (updQ_self Q i ▸ h18)⟩
    rw [hnn4]; omega
  · have hin : i = n := by have := of_decide_eq_false hc; omega
    refine wp_exit ?_
    change Code.wp _ _ _ ⟨_, []⟩ _
    refine wp_seq ?_
    refine rg (fun c d v a w h => NL c d v a w h) [(19, .eq (t3)), (2, .eq (t3))] [] [] [] 20 2 ?_ ?_
    · refine so [] (fun w9 hw9 => .fin (yld_move rfl ⟨Grow.refl _, rfl⟩)) ?_
      exact so [0] (fun w9 hw9 => by rintro v19 e19; subst v19; exact .fin (yld_assign rfl ⟨Grow.refl _, rfl⟩)) (.nil _ _)
    rintro w9 hw9 v19 e19 v2 e2 -
    have W9 : Grow w w9 := W5.trans hw9
    have z9 : w5.heap.size ≤ w9.heap.size := hw9.size
    subst v19
    subst v2
    replace hv := MR.mono _ hw9 hv
    replace h3 := MR.mono _ hw9 h3
    refine fr (va :: u :: t3 :: t3 :: It i :: v5 :: v6 :: v7 :: .bool (decide ((((i : Nat) : Int) : Int) < (((n : Nat) : Int) : Int))) :: (tt4 9) :: (tt4 10) :: (tt4 11) :: (tt4 12) :: (tt4 13) :: (tt4 14) :: (tt4 15) :: (tt4 16) :: (tt4 17) :: (tt4 18) :: t3 :: []) ?_
    refine nx ?_
    refine wp_ret ?_
    change bodyPost Try.prog Try.f12 (Ret (.ownv (B) (fun k => F k) (fun i => fracQ (P i) (D i)) (n)) w) .ret _ _
    exact body_slot rfl (ownv_cast (ownv_n hin h3) hB (fun k hk => hk) (fun i _ => by rw [hQ])) rfl W9
set_option maxRecDepth 100000 in
set_option maxHeartbeats 2000000 in
theorem cVecOf {B : Nat} {F : Nat → Prop} {a : Nat → Int} {n : Nat} {va : Value} {w : World} (hB : B ≤ w.heap.size) (hF : ∀ k, F k → k < w.heap.size) (hv : (MR.ints (fun _ => False) (a) (n)).R w va) (hn : n ≤ 68719476736) (hr : ∀ i, i < n → R64 (a i)) : Calls Try.prog 46 #[va] w (Ret (.ownv (B) (fun k => F k) (fun i => ((a i : Int) : Rat)) (n)) w) := by
  have _ := hn
  obtain ⟨Q, hQ⟩ : ∃ Q : Nat → Rat, Q = fun i => ((a i : Int) : Rat) := ⟨_, rfl⟩
  refine calls_enter (a := ⟨List.toArray ([va] ++ us 18), []⟩) Try.func46 rfl (by kernel_rfl) ?_
  have NL : NoLook (bodyPost Try.prog Try.f46 (Ret (.ownv (B) (fun k => F k) (fun i => ((a i : Int) : Rat)) (n)) w)) := noLook_body
  replace hv := sl_own (F' := fun k => w.heap.size ≤ k) hv (fun k hk => .inr hk)
  refine wp_seq ?_
  refine rg (fun c d v a w h => NL c d v a w h) [(2, .eq (.slice none 0 0))] [] [] [] 19 1 ?_ ?_
  · exact so [] (fun w1 hw1 => .fin (yld_assign rfl ⟨Grow.refl _, rfl⟩)) (.nil _ _)
  rintro w1 hw1 _ rfl -
  have W1 : Grow w w1 := (Grow.refl w).trans hw1
  have z1 : w.heap.size ≤ w1.heap.size := hw1.size
  replace hv := MR.mono _ hw1 hv
  refine fr ([va, u, .slice none 0 0] ++ us 16) ?_
  refine nx ?_
  refine wp_seq ?_
  refine rg (fun c d v a w h => NL c d v a w h) [(3, .eq (.slice none 0 0))] [] [] [] 19 1 ?_ ?_
  · exact so [] (fun w2 hw2 => .fin (yld_assign rfl ⟨Grow.refl _, rfl⟩)) (.nil _ _)
  rintro w2 hw2 _ rfl -
  have W2 : Grow w w2 := W1.trans hw2
  have z2 : w1.heap.size ≤ w2.heap.size := hw2.size
  replace hv := MR.mono _ hw2 hv
  refine fr ([va, u, .slice none 0 0, .slice none 0 0] ++ us 15) ?_
  refine nx ?_
  refine wp_seq ?_
  refine wp_seq ?_
  refine rg (fun c d v a w h => NL c d v a w h) [(6, .ints (fun k => w.heap.size ≤ k) (a) (n)), (7, .eq (.int .i64 (((n : Nat) : Int)))), (8, .eq (.int .i64 (0)))] [] [] [] 19 3 ?_ ?_
  · refine so [] (fun w3 hw3 => .fin (yld_move rfl ⟨Grow.refl _, (MR.mono _ hw3 hv)⟩)) ?_
    refine soP [(6, .ints (fun k => w.heap.size ≤ k) (a) (n))] (fun w3 hw3 => by rintro v6 h6; exact .fin (yld_lenS Try.underlying94 rfl h6)) ?_
    exact so [] (fun w3 hw3 => .fin (yld_move rfl ⟨Grow.refl _, rfl⟩)) (.nil _ _)
  rintro w3 hw3 v6 h6 _ rfl _ rfl -
  have W3 : Grow w w3 := W2.trans hw3
  have z3 : w2.heap.size ≤ w3.heap.size := hw3.size
  replace hv := MR.mono _ hw3 hv
  refine fr ([va, u, .slice none 0 0, .slice none 0 0, u, u, v6, It n, .int .i64 (0)] ++ us 10) ?_
  refine nx ?_
  refine wp_block ?_
  refine wp_loop_ghost (fun nn ac4 w4 => ∃ (i : Nat), nn = n - i ∧ (i ≤ n) ∧ ∃ (t3 : Value) (tt4 : Nat → Value), ac4 = ⟨List.toArray (va :: u :: .slice none 0 0 :: t3 :: u :: (tt4 5) :: v6 :: It n :: It i :: (tt4 9) :: (tt4 10) :: (tt4 11) :: (tt4 12) :: (tt4 13) :: (tt4 14) :: (tt4 15) :: (tt4 16) :: (tt4 17) :: u :: []), []⟩ ∧ Grow w w4 ∧ (MR.ints (fun k => w.heap.size ≤ k) (a) (n)).R w4 va ∧ (MR.ownv (w.heap.size) (fun k => F k) (Q) (i)).R w4 t3 ∧ (MR.ints (fun k => w.heap.size ≤ k) (a) (n)).R w4 v6) (n - 0) ⟨0, rfl, Nat.zero_le _, .slice none 0 0, fun d => ((.slice none 0 0 :: u :: u :: v6 :: It n :: .int .i64 (0) :: u :: u :: u :: u :: u :: u :: u :: u :: u :: []) : List Value).getD (d - 3) undef, by kernel_rfl, W3, hv, ownv_nil, h6⟩ ?_
  clear hv h6
  rintro nn4 _ w4 ⟨i, hnn4, hinv, t3, tt4, rfl, W4, hv, h3, h6⟩
  refine wp_seq ?_
  refine rg (fun c d v a w h => NL c d v a w h) [(9, .eq (.bool (decide ((((i : Nat) : Int) : Int) < (((n : Nat) : Int) : Int)))))] [] [] [] 19 1 ?_ ?_
  · exact so [] (fun w5 hw5 => .fin (yld_lss rfl rfl rfl ⟨Grow.refl _, rfl⟩)) (.nil _ _)
  rintro w5 hw5 _ rfl -
  have W5 : Grow w w5 := W4.trans hw5
  have z5 : w4.heap.size ≤ w5.heap.size := hw5.size
  replace hv := MR.mono _ hw5 hv
  replace h3 := MR.mono _ hw5 h3
  replace h6 := MR.mono _ hw5 h6
  refine fr (va :: u :: .slice none 0 0 :: t3 :: u :: (tt4 5) :: v6 :: It n :: It i :: .bool (decide ((((i : Nat) : Int) : Int) < (((n : Nat) : Int) : Int))) :: (tt4 10) :: (tt4 11) :: (tt4 12) :: (tt4 13) :: (tt4 14) :: (tt4 15) :: (tt4 16) :: (tt4 17) :: u :: []) ?_
  refine nx ?_
  refine wp_seq ?_
  refine wp_cond_split (t := decide ((((i : Nat) : Int) : Int) < (((n : Nat) : Int) : Int))) rfl (fun hc => ?_) (fun hc => ?_)
  · have hlt : i < n := by have := of_decide_eq_true hc; omega
    have hr1 := (hr i hlt).1
    have hr2 := (hr i hlt).2
    refine wp_skip ?_
    change Code.wp _ _ _ ⟨_, []⟩ _
    refine wp_seq ?_
    refine wp_block ?_
    refine wp_seq ?_
    refine rg (fun c d v a w h => NL c d v a w h) [(10, .eptr (fun k => w.heap.size ≤ k) 1 (.eq (.int .i64 (a i)))), (11, .eq (.int .i64 (a i))), (5, .eq (.int .i64 (a i)))] [] [] [] 19 3 ?_ ?_
    · refine so [] (fun w6 hw6 => .fin (yld_indexI (k := i) Try.underlying94 rfl (MR.mono _ hw6 h6) rfl rfl (hlt))) ?_
      refine soP [(10, .eptr (fun k => w.heap.size ≤ k) 1 (.eq (.int .i64 (a i))))] (fun w6 hw6 => by rintro v10 h10; exact .fin (yld_loadI rfl h10)) ?_
      exact so [1] (fun w6 hw6 => by rintro _ rfl; exact .fin (yld_assign rfl ⟨Grow.refl _, rfl⟩)) (.nil _ _)
    rintro w6 hw6 v10 - v11 - _ rfl -
    have W6 : Grow w w6 := W5.trans hw6
    have z6 : w5.heap.size ≤ w6.heap.size := hw6.size
    replace hv := MR.mono _ hw6 hv
    replace h3 := MR.mono _ hw6 h3
    replace h6 := MR.mono _ hw6 h6
    refine fr (va :: u :: .slice none 0 0 :: t3 :: u :: .int .i64 (a i) :: v6 :: It n :: It i :: .bool (decide ((((i : Nat) : Int) : Int) < (((n : Nat) : Int) : Int))) :: v10 :: v11 :: (tt4 12) :: (tt4 13) :: (tt4 14) :: (tt4 15) :: (tt4 16) :: (tt4 17) :: u :: []) ?_
    refine nx ?_
    refine rg (fun c d v a w h => NL c d v a w h) [(12, .eq (t3)), (13, .eq (.int .i64 (a i))), (14, .rat (Q i)), (15, .lit1 (Q i))] [] [] [] 19 4 ?_ ?_
    · refine so [] (fun w7 hw7 => .fin (yld_move rfl ⟨Grow.refl _, rfl⟩)) ?_
      refine so [] (fun w7 hw7 => .fin (yld_move rfl ⟨Grow.refl _, rfl⟩)) ?_
      refine so [1] (fun w7 hw7 => by rintro _ rfl; exact .fin (yld_as (R := .rat (((a i : Int) : Rat))) (R2 := .rat (Q i)) (yld_call rfl cal_rat_Int rfl (cRatInt (x := a i) (by omega) (by omega))) (fun h => by rw [hQ]; exact h))) ?_
      exact so [2] (fun w7 hw7 => by rintro v14 h14; exact .fin (yld_lit1 Try.underlying25 rfl h14)) (.nil _ _)
    rintro w7 hw7 v12 e12 v13 - v14 - v15 h15 -
    have W7 : Grow w w7 := W6.trans hw7
    have z7 : w6.heap.size ≤ w7.heap.size := hw7.size
    subst v12
    replace hv := MR.mono _ hw7 hv
    replace h3 := MR.mono _ hw7 h3
    replace h6 := MR.mono _ hw7 h6
    have KK : Kept [] w7 w7 := fun _ _ => rfl
    refine fr (va :: u :: .slice none 0 0 :: t3 :: u :: .int .i64 (a i) :: v6 :: It n :: It i :: .bool (decide ((((i : Nat) : Int) : Int) < (((n : Nat) : Int) : Int))) :: v10 :: v11 :: t3 :: v13 :: v14 :: v15 :: (tt4 16) :: (tt4 17) :: u :: []) ?_
    change wpListS _ _ _ _ [_, _] ⟨_, []⟩ _
    refine wpListS_yld rfl ?_
    refine yld_appendV (B := w.heap.size) (F' := fun k => F k) Try.underlying25 rfl h3 h15 (by omega) W7.size (fun k hk => (fun h => ⟨h, Nat.lt_of_lt_of_le (hF k h) W7.size⟩) hk) fun v16 w8 A8 h16 => ⟨fun _ => (fun _ hk => (by cases hk)), ?_⟩
    have W8 : Grow w w8 := A8.grow W7 (Nat.le_refl _)
    have z8 : w7.heap.size ≤ w8.heap.size := A8.size
    replace hv := StF.ints (App.extF A8 fun k _ hk => .inl (by omega)) hv
    replace h6 := StF.ints (App.extF A8 fun k _ hk => .inl (by omega)) h6
    have KK : Kept [] w7 w8 := fun _ hk => (by cases hk)
    change wpListS _ _ _ _ [_] ⟨List.toArray (List.set _ 16 _), []⟩ _
    refine wpListS_yld rfl ?_
    refine yld_assign rfl ⟨fun _ => KK, ?_⟩
    refine wpListS_nil ?_
    change Code.wp _ _ _ ⟨List.toArray (List.set _ 3 _), []⟩ _
    refine rg (fun c d v a w h => NL c d v a w h) [(17, .eq (.int .i64 (((i + 1 : Nat) : Int))))] [] [] [] 19 1 ?_ ?_
    · exact so [] (fun w9 hw9 => .fin (yld_add rfl rfl rfl (r := ((i + 1 : Nat) : Int)) (by rw [IntKind.wrap_i64]; omega) ⟨Grow.refl _, rfl⟩)) (.nil _ _)
    rintro w9 hw9 _ rfl -
    have W9 : Grow w w9 := W8.trans hw9
    have z9 : w8.heap.size ≤ w9.heap.size := hw9.size
    replace hv := MR.mono _ hw9 hv
    replace h16 := MR.mono _ hw9 h16
    replace h6 := MR.mono _ hw9 h6
    have KK : Kept [] w9 w9 := fun _ _ => rfl
    refine fr (va :: u :: .slice none 0 0 :: v16 :: u :: .int .i64 (a i) :: v6 :: It n :: It i :: .bool (decide ((((i : Nat) : Int) : Int) < (((n : Nat) : Int) : Int))) :: v10 :: v11 :: t3 :: v13 :: v14 :: v15 :: v16 :: It (i + 1) :: u :: []) ?_
    change wpListS _ _ _ _ [_] ⟨_, []⟩ _
    refine wpListS_yld rfl ?_
    refine yld_move rfl ⟨fun _ => KK, ?_⟩
    refine wpListS_nil ?_
    refine ⟨_, ?_, i + 1, rfl, (by omega), v16, fun d => ((v16 :: u :: .int .i64 (a i) :: v6 :: It n :: It (i + 1) :: .bool (decide ((((i : Nat) : Int) : Int) < (((n : Nat) : Int) : Int))) :: v10 :: v11 :: t3 :: v13 :: v14 :: v15 :: v16 :: It (i + 1) :: []) : List Value).getD (d - 3) undef, by kernel_rfl, W9, hv, (updQ_self Q i ▸ h16), h6⟩
    rw [hnn4]; omega
  · have hin : i = n := by have := of_decide_eq_false hc; omega
    refine wp_exit ?_
    change Code.wp _ _ _ ⟨_, []⟩ _
    refine wp_seq ?_
    refine rg (fun c d v a w h => NL c d v a w h) [(18, .eq (t3)), (2, .eq (t3))] [] [] [] 19 2 ?_ ?_
    · refine so [] (fun w10 hw10 => .fin (yld_move rfl ⟨Grow.refl _, rfl⟩)) ?_
      exact so [0] (fun w10 hw10 => by rintro v18 e18; subst v18; exact .fin (yld_assign rfl ⟨Grow.refl _, rfl⟩)) (.nil _ _)
    rintro w10 hw10 v18 e18 v2 e2 -
    have W10 : Grow w w10 := W5.trans hw10
    have z10 : w5.heap.size ≤ w10.heap.size := hw10.size
    subst v18
    subst v2
    replace hv := MR.mono _ hw10 hv
    replace h3 := MR.mono _ hw10 h3
    refine fr (va :: u :: t3 :: t3 :: u :: (tt4 5) :: v6 :: It n :: It i :: .bool (decide ((((i : Nat) : Int) : Int) < (((n : Nat) : Int) : Int))) :: (tt4 10) :: (tt4 11) :: (tt4 12) :: (tt4 13) :: (tt4 14) :: (tt4 15) :: (tt4 16) :: (tt4 17) :: t3 :: []) ?_
    refine nx ?_
    refine wp_ret ?_
    change bodyPost Try.prog Try.f46 (Ret (.ownv (B) (fun k => F k) (fun i => ((a i : Int) : Rat)) (n)) w) .ret _ _
    exact body_slot rfl (ownv_cast (ownv_n hin h3) hB (fun k hk => hk) (fun i _ => by rw [hQ])) rfl W10
end Go.Proofs.Ytngghjhmfpmilaa
/- package vec (b). -/
namespace Go.Proofs.Ytngghjhmfpmilaa
open Go.RowKit
theorem cal_vec_Cmp : Callable Try.prog 13 := callable_of Try.func13 rfl (by kernel_rfl)
theorem cal_rat_Rat_Zero : Callable Try.prog 24 := callable_of Try.func24 rfl (by kernel_rfl)
theorem cal_vec_Vec_First : Callable Try.prog 61 := callable_of Try.func61 rfl (by kernel_rfl)
set_option maxRecDepth 100000 in
set_option maxHeartbeats 2000000 in
theorem cAddTimes {B : Nat} {F : Nat → Prop} {a b : Nat → Rat} {r : Rat} {n m : Nat} {va : Value} {vr : Value} {vb : Value} {w : World} (hB : B ≤ w.heap.size) (hF : ∀ k, F k → k < w.heap.size) (hv : (MR.vec (fun _ => False) (a) (n)).R w va) (hr : (MR.rat (r)).R w vr) (hv2 : (MR.vec (fun _ => False) (b) (m)).R w vb) (hn : n ≤ 68719476736) (hs : ∀ i, i < n → i < m → szq r + szq (b i) ≤ 17179869184 ∧ szq (a i) + szq (r * b i) ≤ 17179869184) : Calls Try.prog 20 #[va, vr, vb] w (Ret (.tup2 (.ownv (B) (fun k => F k) (fun i => a i + r * b i) (if n = m then n else 0)) (.eq (.bool (decide (n = m))))) w) := by
  obtain ⟨Q, hQ⟩ : ∃ Q : Nat → Rat, Q = fun i => a i + r * b i := ⟨_, rfl⟩
  refine calls_enter (a := ⟨List.toArray ([va, vr, vb] ++ us 36), []⟩) Try.func20 rfl (by kernel_rfl) ?_
  have NL : NoLook (bodyPost Try.prog Try.f20 (Ret (.tup2 (.ownv (B) (fun k => F k) (fun i => a i + r * b i) (if n = m then n else 0)) (.eq (.bool (decide (n = m))))) w)) := noLook_body
  replace hv := sl_own (F' := fun k => w.heap.size ≤ k) hv (fun k hk => .inr hk)
  replace hv2 := sl_own (F' := fun k => w.heap.size ≤ k) hv2 (fun k hk => .inr hk)
  refine wp_seq ?_
  refine rg (fun c d v a w h => NL c d v a w h) [(4, .ptr 35 (.rat (r))), (6, .eq (.slice none 0 0)), (7, .eq (.bool (false)))] [0] [] [] 39 3 ?_ ?_
  · refine sn [] (fun w1 hw1 => .fin (yld_newBox rfl rfl (MR.mono _ hw1 hr))) ?_
    refine so [] (fun w1 hw1 => .fin (yld_assign rfl ⟨Grow.refl _, rfl⟩)) ?_
    exact so [] (fun w1 hw1 => .fin (yld_assign rfl ⟨Grow.refl _, rfl⟩)) (.nil _ _)
  rintro w1 hw1 _ ⟨b4, rfl, B4⟩ _ rfl _ rfl hN
  have W1 : Grow w w1 := (Grow.refl w).trans hw1
  have z1 : w.heap.size ≤ w1.heap.size := hw1.size
  have y_b4 : w.heap.size ≤ b4 ∧ b4 < w1.heap.size := hN.1
  clear hN
  replace hv := MR.mono _ hw1 hv
  replace hr := MR.mono _ hw1 hr
  replace hv2 := MR.mono _ hw1 hv2
  refine fr ([va, vr, vb, u, pt b4, u, .slice none 0 0, .bool (false)] ++ us 31) ?_
  refine nx ?_
  refine wp_seq ?_
  refine wp_seq ?_
  refine rg (fun c d v a w h => NL c d v a w h) [(10, .vec (fun k => w.heap.size ≤ k) (a) (n)), (11, .eq (.int .i64 (((n : Nat) : Int)))), (12, .vec (fun k => w.heap.size ≤ k) (b) (m)), (13, .eq (.int .i64 (((m : Nat) : Int)))), (14, .eq (.bool ((((n : Nat) : Int) : Int) != (((m : Nat) : Int) : Int))))] [] [] [] 39 5 ?_ ?_
  · refine so [] (fun w2 hw2 => .fin (yld_move rfl ⟨Grow.refl _, (MR.mono _ hw2 hv)⟩)) ?_
    refine soP [(10, .vec (fun k => w.heap.size ≤ k) (a) (n))] (fun w2 hw2 => by rintro v10 h10; exact .fin (yld_lenS Try.underlying25 rfl h10)) ?_
    refine so [] (fun w2 hw2 => .fin (yld_move rfl ⟨Grow.refl _, (MR.mono _ hw2 hv2)⟩)) ?_
    refine soP [(12, .vec (fun k => w.heap.size ≤ k) (b) (m))] (fun w2 hw2 => by rintro v12 h12; exact .fin (yld_lenS Try.underlying25 rfl h12)) ?_
    exact so [1, 3] (fun w2 hw2 => by rintro _ rfl _ rfl; exact .fin (yld_neq rfl rfl rfl ⟨Grow.refl _, rfl⟩)) (.nil _ _)
  rintro w2 hw2 v10 - v11 - v12 - v13 - _ rfl -
  have W2 : Grow w w2 := W1.trans hw2
  have z2 : w1.heap.size ≤ w2.heap.size := hw2.size
  replace B4 := B4.grow hw2
  replace hv := MR.mono _ hw2 hv
  replace hr := MR.mono _ hw2 hr
  replace hv2 := MR.mono _ hw2 hv2
  refine fr ((va :: vr :: vb :: u :: pt b4 :: u :: .slice none 0 0 :: .bool (false) :: u :: u :: v10 :: v11 :: v12 :: v13 :: .bool ((((n : Nat) : Int) : Int) != (((m : Nat) : Int) : Int)) :: []) ++ us 24) ?_
  refine nx ?_
  refine wp_cond_split (t := (((n : Nat) : Int) : Int) != (((m : Nat) : Int) : Int)) rfl (fun hd => ?_) (fun hd => ?_)
  · refine wp_seq ?_
    refine rg (fun c d v a w h => NL c d v a w h) [(6, .eq (.slice none 0 0)), (7, .eq (.bool (false)))] [] [] [] 39 2 ?_ ?_
    · refine so [] (fun w3 hw3 => .fin (yld_assign rfl ⟨Grow.refl _, rfl⟩)) ?_
      exact so [] (fun w3 hw3 => .fin (yld_assign rfl ⟨Grow.refl _, rfl⟩)) (.nil _ _)
    rintro w3 hw3 _ rfl _ rfl -
    have W3 : Grow w w3 := W2.trans hw3
    have z3 : w2.heap.size ≤ w3.heap.size := hw3.size
    replace B4 := B4.grow hw3
    replace hv := MR.mono _ hw3 hv
    replace hr := MR.mono _ hw3 hr
    replace hv2 := MR.mono _ hw3 hv2
    refine fr ((va :: vr :: vb :: u :: pt b4 :: u :: .slice none 0 0 :: .bool (false) :: u :: u :: v10 :: v11 :: v12 :: v13 :: .bool ((((n : Nat) : Int) : Int) != (((m : Nat) : Int) : Int)) :: []) ++ us 24) ?_
    refine nx ?_
    refine wp_ret ?_
    change bodyPost Try.prog Try.f20 (Ret (.tup2 (.ownv (B) (fun k => F k) (fun i => a i + r * b i) (if n = m then n else 0)) (.eq (.bool (decide (n = m))))) w) .ret _ _
    exact body_slot2 rfl (by rw [if_neg (by simp at hd; omega)]; exact ownv_nil) (by show Value.bool _ = Value.bool _; rw [show (false) = (decide (n = m)) from (by first | (exact (decide_eq_false (by simp at hd; omega)).symm) | exact (decide_eq_true hnm).symm)]) rfl W3
  · have hnm : n = m := by simp at hd; omega
    refine wp_skip ?_
    change Code.wp _ _ _ ⟨_, []⟩ _
    refine wp_seq ?_
    refine rg (fun c d v a w h => NL c d v a w h) [(15, .vec (fun k => w.heap.size ≤ k) (a) (n)), (16, .eq (.int .i64 (((n : Nat) : Int)))), (17, .ownv (w.heap.size) (fun k => (F k) ∨ k = b4) (fun _ => 0) (n)), (8, .ownv (w.heap.size) (fun k => (F k) ∨ k = b4) (fun _ => 0) (n))] [] [] [] 39 4 ?_ ?_
    · refine so [] (fun w4 hw4 => .fin (yld_move rfl ⟨Grow.refl _, (MR.mono _ hw4 hv)⟩)) ?_
      refine soP [(15, .vec (fun k => w.heap.size ≤ k) (a) (n))] (fun w4 hw4 => by rintro v15 h15; exact .fin (yld_lenS Try.underlying25 rfl h15)) ?_
      refine so [1] (fun w4 hw4 => by rintro _ rfl; exact .fin (yld_makeV (B := w.heap.size) (F := fun k => (F k) ∨ k = b4) Try.underlying25 rfl rfl rfl (hn) (Grow.trans W2 hw4).size (fun k hk => (fun h => h.elim (fun h => Nat.lt_of_lt_of_le (hF k h) (Grow.trans W2 hw4).size) (fun e => by rw [e]; exact Nat.lt_of_lt_of_le B4.lt hw4.size)) hk))) ?_
      exact soP [(17, .ownv (w.heap.size) (fun k => (F k) ∨ k = b4) (fun _ => 0) (n))] (fun w4 hw4 => by rintro v17 h17; exact .fin (yld_assign rfl ⟨Grow.refl _, h17⟩)) (.nil _ _)
    rintro w4 hw4 v15 - v16 - v17 - v8 h8 -
    have W4 : Grow w w4 := W2.trans hw4
    have z4 : w2.heap.size ≤ w4.heap.size := hw4.size
    replace h8 := ownv_own (F' := fun k => ((F k) ∨ k = b4) ∨ w4.heap.size ≤ k) h8 (fun k hk => hk)
    replace B4 := B4.grow hw4
    replace hv := MR.mono _ hw4 hv
    replace hr := MR.mono _ hw4 hr
    replace hv2 := MR.mono _ hw4 hv2
    refine fr ((va :: vr :: vb :: u :: pt b4 :: u :: .slice none 0 0 :: .bool (false) :: v8 :: u :: v10 :: v11 :: v12 :: v13 :: .bool ((((n : Nat) : Int) : Int) != (((m : Nat) : Int) : Int)) :: v15 :: v16 :: v17 :: []) ++ us 21) ?_
    refine nx ?_
    refine wp_seq ?_
    refine wp_seq ?_
    refine rg (fun c d v a w h => NL c d v a w h) [(18, .vec (fun k => w.heap.size ≤ k) (a) (n)), (19, .eq (.int .i64 (((n : Nat) : Int)))), (20, .eq (.int .i64 (0)))] [] [] [] 39 3 ?_ ?_
    · refine so [] (fun w5 hw5 => .fin (yld_move rfl ⟨Grow.refl _, (MR.mono _ hw5 hv)⟩)) ?_
      refine soP [(18, .vec (fun k => w.heap.size ≤ k) (a) (n))] (fun w5 hw5 => by rintro v18 h18; exact .fin (yld_lenS Try.underlying25 rfl h18)) ?_
      exact so [] (fun w5 hw5 => .fin (yld_move rfl ⟨Grow.refl _, rfl⟩)) (.nil _ _)
    rintro w5 hw5 v18 - _ rfl _ rfl -
    have W5 : Grow w w5 := W4.trans hw5
    have z5 : w4.heap.size ≤ w5.heap.size := hw5.size
    replace B4 := B4.grow hw5
    replace hv := MR.mono _ hw5 hv
    replace hr := MR.mono _ hw5 hr
    replace hv2 := MR.mono _ hw5 hv2
    replace h8 := MR.mono _ hw5 h8
    refine fr ((va :: vr :: vb :: u :: pt b4 :: u :: .slice none 0 0 :: .bool (false) :: v8 :: u :: v10 :: v11 :: v12 :: v13 :: .bool ((((n : Nat) : Int) : Int) != (((m : Nat) : Int) : Int)) :: v15 :: v16 :: v17 :: v18 :: It n :: .int .i64 (0) :: []) ++ us 18) ?_
    refine nx ?_
    refine wp_block ?_
    refine wp_loop_ghost (fun nn ac6 w6 => ∃ (i : Nat), nn = n - i ∧ (i ≤ n) ∧ ∃ tt6 : Nat → Value, ac6 = ⟨List.toArray (va :: vr :: vb :: u :: pt b4 :: u :: .slice none 0 0 :: .bool (false) :: v8 :: (tt6 9) :: v10 :: v11 :: v12 :: v13 :: .bool ((((n : Nat) : Int) : Int) != (((m : Nat) : Int) : Int)) :: v15 :: v16 :: v17 :: v18 :: It n :: It i :: (tt6 21) :: (tt6 22) :: (tt6 23) :: (tt6 24) :: (tt6 25) :: (tt6 26) :: (tt6 27) :: (tt6 28) :: (tt6 29) :: (tt6 30) :: (tt6 31) :: (tt6 32) :: (tt6 33) :: (tt6 34) :: (tt6 35) :: (tt6 36) :: (tt6 37) :: u :: []), []⟩ ∧ Grow w w6 ∧ Box w6 b4 35 (.rat (r)) ∧ (MR.vec (fun k => w.heap.size ≤ k) (a) (n)).R w6 va ∧ (MR.rat (r)).R w6 vr ∧ (MR.vec (fun k => w.heap.size ≤ k) (b) (m)).R w6 vb ∧ (MR.ownv (w.heap.size) (fun k => (F k) ∨ k = b4) (firstQ Q i) (n)).R w6 v8) (n - 0) ⟨0, rfl, Nat.zero_le _, fun d => ((u :: v10 :: v11 :: v12 :: v13 :: .bool ((((n : Nat) : Int) : Int) != (((m : Nat) : Int) : Int)) :: v15 :: v16 :: v17 :: v18 :: It n :: .int .i64 (0) :: u :: u :: u :: u :: u :: u :: u :: u :: u :: u :: u :: u :: u :: u :: u :: u :: u :: []) : List Value).getD (d - 9) undef, by kernel_rfl, W5, B4, hv, hr, hv2, (by rw [firstQ_zero]; exact ownv_own h8 (fun k hk => .inl (.inl hk)))⟩ ?_
    clear B4 hv hr hv2 h8
    rintro nn6 _ w6 ⟨i, hnn6, hinv, tt6, rfl, W6, B4, hv, hr, hv2, h8⟩
    replace h8 := ownv_own (F' := fun k => ((F k) ∨ k = b4) ∨ w6.heap.size ≤ k) h8 (fun k hk => hk)
    refine wp_seq ?_
    refine rg (fun c d v a w h => NL c d v a w h) [(21, .eq (.bool (decide ((((i : Nat) : Int) : Int) < (((n : Nat) : Int) : Int)))))] [] [] [] 39 1 ?_ ?_
    · exact so [] (fun w7 hw7 => .fin (yld_lss rfl rfl rfl ⟨Grow.refl _, rfl⟩)) (.nil _ _)
    rintro w7 hw7 _ rfl -
    have W7 : Grow w w7 := W6.trans hw7
    have z7 : w6.heap.size ≤ w7.heap.size := hw7.size
    replace B4 := B4.grow hw7
    replace hv := MR.mono _ hw7 hv
    replace hr := MR.mono _ hw7 hr
    replace hv2 := MR.mono _ hw7 hv2
    replace h8 := MR.mono _ hw7 h8
    refine fr (va :: vr :: vb :: u :: pt b4 :: u :: .slice none 0 0 :: .bool (false) :: v8 :: (tt6 9) :: v10 :: v11 :: v12 :: v13 :: .bool ((((n : Nat) : Int) : Int) != (((m : Nat) : Int) : Int)) :: v15 :: v16 :: v17 :: v18 :: It n :: It i :: .bool (decide ((((i : Nat) : Int) : Int) < (((n : Nat) : Int) : Int))) :: (tt6 22) :: (tt6 23) :: (tt6 24) :: (tt6 25) :: (tt6 26) :: (tt6 27) :: (tt6 28) :: (tt6 29) :: (tt6 30) :: (tt6 31) :: (tt6 32) :: (tt6 33) :: (tt6 34) :: (tt6 35) :: (tt6 36) :: (tt6 37) :: u :: []) ?_
    refine nx ?_
    refine wp_seq ?_
    refine wp_cond_split (t := decide ((((i : Nat) : Int) : Int) < (((n : Nat) : Int) : Int))) rfl (fun hc => ?_) (fun hc => ?_)
    · have hlt : i < n := by have := of_decide_eq_true hc; omega
      refine wp_skip ?_
      change Code.wp _ _ _ ⟨_, []⟩ _
      refine wp_seq ?_
      refine wp_block ?_
      refine wp_seq ?_
      refine rg (fun c d v a w h => NL c d v a w h) [(22, .eq (.int .i64 (((i : Nat) : Int)))), (9, .eq (.int .i64 (((i : Nat) : Int))))] [] [] [] 39 2 ?_ ?_
      · refine so [] (fun w8 hw8 => .fin (yld_move rfl ⟨Grow.refl _, rfl⟩)) ?_
        exact so [0] (fun w8 hw8 => by rintro _ rfl; exact .fin (yld_assign rfl ⟨Grow.refl _, rfl⟩)) (.nil _ _)
      rintro w8 hw8 v22 - _ rfl -
      have W8 : Grow w w8 := W7.trans hw8
      have z8 : w7.heap.size ≤ w8.heap.size := hw8.size
      replace B4 := B4.grow hw8
      replace hv := MR.mono _ hw8 hv
      replace hr := MR.mono _ hw8 hr
      replace hv2 := MR.mono _ hw8 hv2
      replace h8 := MR.mono _ hw8 h8
      refine fr (va :: vr :: vb :: u :: pt b4 :: u :: .slice none 0 0 :: .bool (false) :: v8 :: It i :: v10 :: v11 :: v12 :: v13 :: .bool ((((n : Nat) : Int) : Int) != (((m : Nat) : Int) : Int)) :: v15 :: v16 :: v17 :: v18 :: It n :: It i :: .bool (decide ((((i : Nat) : Int) : Int) < (((n : Nat) : Int) : Int))) :: v22 :: (tt6 23) :: (tt6 24) :: (tt6 25) :: (tt6 26) :: (tt6 27) :: (tt6 28) :: (tt6 29) :: (tt6 30) :: (tt6 31) :: (tt6 32) :: (tt6 33) :: (tt6 34) :: (tt6 35) :: (tt6 36) :: (tt6 37) :: u :: []) ?_
      refine nx ?_
      refine rg (fun c d v a w h => NL c d v a w h) ((23, .eq (v8)) :: (24, .eq (.int .i64 (((i : Nat) : Int)))) :: (25, .vec (fun k => w.heap.size ≤ k) (a) (n)) :: (26, .eq (.int .i64 (((i : Nat) : Int)))) :: (27, .eptr (fun k => w.heap.size ≤ k) 3 (.rat (a i))) :: (28, .rat (a i)) :: (29, .rat (r)) :: (30, .vec (fun k => w.heap.size ≤ k) (b) (m)) :: (31, .eq (.int .i64 (((i : Nat) : Int)))) :: (32, .eptr (fun k => w.heap.size ≤ k) 3 (.rat (b i))) :: (33, .rat (b i)) :: (34, .rat (r * (b i))) :: (35, .rat (Q i)) :: (36, .eq (elemPtr v8 (i))) :: []) [] [] [] 39 14 ?_ ?_
      · refine so [] (fun w9 hw9 => .fin (yld_move rfl ⟨Grow.refl _, rfl⟩)) ?_
        refine so [] (fun w9 hw9 => .fin (yld_move rfl ⟨Grow.refl _, rfl⟩)) ?_
        refine so [] (fun w9 hw9 => .fin (yld_move rfl ⟨Grow.refl _, (MR.mono _ hw9 hv)⟩)) ?_
        refine so [] (fun w9 hw9 => .fin (yld_move rfl ⟨Grow.refl _, rfl⟩)) ?_
        refine soP [(25, .vec (fun k => w.heap.size ≤ k) (a) (n)), (26, .eq (.int .i64 (((i : Nat) : Int))))] (fun w9 hw9 => by rintro v25 h25 _ rfl; exact .fin (yld_indexV (k := i) Try.underlying25 rfl h25 rfl rfl (hlt))) ?_
        refine soP [(27, .eptr (fun k => w.heap.size ≤ k) 3 (.rat (a i)))] (fun w9 hw9 => by rintro v27 h27; exact .fin (yld_loadQ rfl h27)) ?_
        refine so [] (fun w9 hw9 => .fin (yld_loadBox rfl rfl aggRat (B4.grow hw9) (shRat _))) ?_
        refine so [] (fun w9 hw9 => .fin (yld_move rfl ⟨Grow.refl _, (MR.mono _ hw9 hv2)⟩)) ?_
        refine so [] (fun w9 hw9 => .fin (yld_move rfl ⟨Grow.refl _, rfl⟩)) ?_
        refine soP [(30, .vec (fun k => w.heap.size ≤ k) (b) (m)), (31, .eq (.int .i64 (((i : Nat) : Int))))] (fun w9 hw9 => by rintro v30 h30 _ rfl; exact .fin (yld_indexV (k := i) Try.underlying25 rfl h30 rfl rfl ((by omega)))) ?_
        refine soP [(32, .eptr (fun k => w.heap.size ≤ k) 3 (.rat (b i)))] (fun w9 hw9 => by rintro v32 h32; exact .fin (yld_loadQ rfl h32)) ?_
        refine so [6, 10] (fun w9 hw9 => by rintro v29 h29 v33 h33; exact .fin (yld_call rfl cal_rat_Mul rfl (cRatMul h29 h33 (hs i hlt (by omega)).1))) ?_
        refine so [5, 11] (fun w9 hw9 => by rintro v28 h28 v34 h34; exact .fin (yld_as (R := .rat ((a i) + (r * (b i)))) (R2 := .rat (Q i)) (yld_call rfl cal_rat_Add rfl (cRatAdd h28 h34 (hs i hlt (by omega)).2)) (fun h => by rw [hQ]; exact h))) ?_
        exact so [0, 1] (fun w9 hw9 => by rintro v23 e23 _ rfl; subst v23; exact .fin (yld_indexO (k := i) Try.underlying25 rfl rfl (MR.mono _ hw9 h8) rfl rfl (hlt))) (.nil _ _)
      rintro w9 hw9 v23 e23 v24 - v25 - v26 - v27 - v28 - v29 - v30 - v31 - v32 - v33 - v34 - v35 h35 _ rfl -
      have W9 : Grow w w9 := W8.trans hw9
      have z9 : w8.heap.size ≤ w9.heap.size := hw9.size
      subst v23
      replace B4 := B4.grow hw9
      replace hv := MR.mono _ hw9 hv
      replace hr := MR.mono _ hw9 hr
      replace hv2 := MR.mono _ hw9 hv2
      replace h8 := MR.mono _ hw9 h8
      have KK : Kept [] w9 w9 := fun _ _ => rfl
      refine fr (va :: vr :: vb :: u :: pt b4 :: u :: .slice none 0 0 :: .bool (false) :: v8 :: It i :: v10 :: v11 :: v12 :: v13 :: .bool ((((n : Nat) : Int) : Int) != (((m : Nat) : Int) : Int)) :: v15 :: v16 :: v17 :: v18 :: It n :: It i :: .bool (decide ((((i : Nat) : Int) : Int) < (((n : Nat) : Int) : Int))) :: v22 :: v8 :: v24 :: v25 :: v26 :: v27 :: v28 :: v29 :: v30 :: v31 :: v32 :: v33 :: v34 :: v35 :: elemPtr v8 (i) :: (tt6 37) :: u :: []) ?_
      change wpListS _ _ _ _ [_] ⟨_, []⟩ _
      refine wpListS_yld rfl ?_
      refine yld_storeO (k := i) (F' := fun k => (F k) ∨ k = b4) rfl rfl h8 (hlt) h35 (fun k hk => (fun h => h.elim (fun h => (Or.inl (Or.inl h))) (fun e => by rw [e]; exact (Or.inl (Or.inr rfl)))) hk) fun w10 A10 H10 => ⟨fun _ => (fun _ hk => (by cases hk)), ?_⟩
      have W10 : Grow w w10 := A10.grow W9 (Nat.le_refl _)
      have z10 : w9.heap.size ≤ w10.heap.size := A10.size
      replace B4 := B4.app A10 (Or.inr rfl) (St.rat _)
      replace hv := StF.vec (App.extF A10 fun k _ hk => .inl (by omega)) hv
      replace hr := MR.put hr (St.rat _) A10.ext
      replace hv2 := StF.vec (App.extF A10 fun k _ hk => .inl (by omega)) hv2
      have KK : Kept [] w9 w10 := fun _ hk => (by cases hk)
      replace h8 := H10
      refine wpListS_nil ?_
      change Code.wp _ _ _ ⟨_, []⟩ _
      refine rg (fun c d v a w h => NL c d v a w h) [(37, .eq (.int .i64 (((i + 1 : Nat) : Int))))] [] [] [] 39 1 ?_ ?_
      · exact so [] (fun w11 hw11 => .fin (yld_add rfl rfl rfl (r := ((i + 1 : Nat) : Int)) (by rw [IntKind.wrap_i64]; omega) ⟨Grow.refl _, rfl⟩)) (.nil _ _)
      rintro w11 hw11 _ rfl -
      have W11 : Grow w w11 := W10.trans hw11
      have z11 : w10.heap.size ≤ w11.heap.size := hw11.size
      replace B4 := B4.grow hw11
      replace hv := MR.mono _ hw11 hv
      replace hr := MR.mono _ hw11 hr
      replace hv2 := MR.mono _ hw11 hv2
      replace h8 := MR.mono _ hw11 h8
      have KK : Kept [] w11 w11 := fun _ _ => rfl
      refine fr (va :: vr :: vb :: u :: pt b4 :: u :: .slice none 0 0 :: .bool (false) :: v8 :: It i :: v10 :: v11 :: v12 :: v13 :: .bool ((((n : Nat) : Int) : Int) != (((m : Nat) : Int) : Int)) :: v15 :: v16 :: v17 :: v18 :: It n :: It i :: .bool (decide ((((i : Nat) : Int) : Int) < (((n : Nat) : Int) : Int))) :: v22 :: v8 :: v24 :: v25 :: v26 :: v27 :: v28 :: v29 :: v30 :: v31 :: v32 :: v33 :: v34 :: v35 :: elemPtr v8 (i) :: It (i + 1) :: u :: []) ?_
      change wpListS _ _ _ _ [_] ⟨_, []⟩ _
      refine wpListS_yld rfl ?_
      refine yld_move rfl ⟨fun _ => KK, ?_⟩
      refine wpListS_nil ?_
      refine ⟨_, ?_, i + 1, rfl, (by omega), fun d => ((It i :: v10 :: v11 :: v12 :: v13 :: .bool ((((n : Nat) : Int) : Int) != (((m : Nat) : Int) : Int)) :: v15 :: v16 :: v17 :: v18 :: It n :: It (i + 1) :: .bool (decide ((((i : Nat) : Int) : Int) < (((n : Nat) : Int) : Int))) :: v22 :: v8 :: v24 :: v25 :: v26 :: v27 :: v28 :: v29 :: v30 :: v31 :: v32 :: v33 :: v34 :: v35 :: elemPtr v8 (i) :: It (i + 1) :: []) : List Value).getD (d - 9) undef, by kernel_rfl, W11, B4, hv, hr, hv2, (firstQ_upd Q i ▸ h8)⟩
      rw [hnn6]; omega
    · have hin : i = n := by have := of_decide_eq_false hc; omega
      refine wp_exit ?_
      change Code.wp _ _ _ ⟨_, []⟩ _
      refine wp_seq ?_
      refine rg (fun c d v a w h => NL c d v a w h) [(38, .eq (v8)), (6, .eq (v8)), (7, .eq (.bool (true)))] [] [] [] 39 3 ?_ ?_
      · refine so [] (fun w12 hw12 => .fin (yld_move rfl ⟨Grow.refl _, rfl⟩)) ?_
        refine so [0] (fun w12 hw12 => by rintro v38 e38; subst v38; exact .fin (yld_assign rfl ⟨Grow.refl _, rfl⟩)) ?_
        exact so [] (fun w12 hw12 => .fin (yld_assign rfl ⟨Grow.refl _, rfl⟩)) (.nil _ _)
      rintro w12 hw12 v38 e38 v6 e6 _ rfl -
      have W12 : Grow w w12 := W7.trans hw12
      have z12 : w7.heap.size ≤ w12.heap.size := hw12.size
      subst v38
      subst v6
      replace hv := MR.mono _ hw12 hv
      replace hr := MR.mono _ hw12 hr
      replace hv2 := MR.mono _ hw12 hv2
      replace h8 := MR.mono _ hw12 h8
      refine fr (va :: vr :: vb :: u :: pt b4 :: u :: v8 :: .bool (true) :: v8 :: (tt6 9) :: v10 :: v11 :: v12 :: v13 :: .bool ((((n : Nat) : Int) : Int) != (((m : Nat) : Int) : Int)) :: v15 :: v16 :: v17 :: v18 :: It n :: It i :: .bool (decide ((((i : Nat) : Int) : Int) < (((n : Nat) : Int) : Int))) :: (tt6 22) :: (tt6 23) :: (tt6 24) :: (tt6 25) :: (tt6 26) :: (tt6 27) :: (tt6 28) :: (tt6 29) :: (tt6 30) :: (tt6 31) :: (tt6 32) :: (tt6 33) :: (tt6 34) :: (tt6 35) :: (tt6 36) :: (tt6 37) :: v8 :: []) ?_
      refine nx ?_
      refine wp_ret ?_
      change bodyPost Try.prog Try.f20 (Ret (.tup2 (.ownv (B) (fun k => F k) (fun i => a i + r * b i) (if n = m then n else 0)) (.eq (.bool (decide (n = m))))) w) .ret _ _
      exact body_slot2 rfl (ownv_cast (ownv_n (if_pos hnm).symm h8) hB (fun k hk => (Or.inl (Or.inl hk))) (fun j hj => by rw [firstQ_all Q (show j < i by rw [if_pos hnm] at hj; omega), hQ])) (by show Value.bool _ = Value.bool _; rw [show (true) = (decide (n = m)) from (by first | (exact (decide_eq_false (by simp at hd; omega)).symm) | exact (decide_eq_true hnm).symm)]) rfl W12
set_option maxRecDepth 100000 in
set_option maxHeartbeats 2000000 in
theorem cScale {B : Nat} {F : Nat → Prop} {a : Nat → Rat} {r : Rat} {n : Nat} {vr : Value} {va : Value} {w : World} (hB : B ≤ w.heap.size) (hF : ∀ k, F k → k < w.heap.size) (hr : (MR.rat (r)).R w vr) (hv : (MR.vec (fun _ => False) (a) (n)).R w va) (hn : n ≤ 68719476736) (hs : ∀ i, i < n → szq r + szq (a i) ≤ 17179869184) : Calls Try.prog 19 #[vr, va] w (Ret (.ownv (B) (fun k => F k) (fun i => r * a i) (n)) w) := by
  obtain ⟨Q, hQ⟩ : ∃ Q : Nat → Rat, Q = fun i => r * a i := ⟨_, rfl⟩
  refine calls_enter (a := ⟨List.toArray ([vr, va] ++ us 24), []⟩) Try.func19 rfl (by kernel_rfl) ?_
  have NL : NoLook (bodyPost Try.prog Try.f19 (Ret (.ownv (B) (fun k => F k) (fun i => r * a i) (n)) w)) := noLook_body
  replace hv := sl_own (F' := fun k => w.heap.size ≤ k) hv (fun k hk => .inr hk)
  refine wp_seq ?_
  refine rg (fun c d v a w h => NL c d v a w h) [(2, .ptr 35 (.rat (r))), (4, .eq (.slice none 0 0))] [0] [] [] 26 2 ?_ ?_
  · refine sn [] (fun w1 hw1 => .fin (yld_newBox rfl rfl (MR.mono _ hw1 hr))) ?_
    exact so [] (fun w1 hw1 => .fin (yld_assign rfl ⟨Grow.refl _, rfl⟩)) (.nil _ _)
  rintro w1 hw1 _ ⟨b2, rfl, B2⟩ _ rfl hN
  have W1 : Grow w w1 := (Grow.refl w).trans hw1
  have z1 : w.heap.size ≤ w1.heap.size := hw1.size
  have y_b2 : w.heap.size ≤ b2 ∧ b2 < w1.heap.size := hN.1
  clear hN
  replace hr := MR.mono _ hw1 hr
  replace hv := MR.mono _ hw1 hv
  refine fr ([vr, va, pt b2, u, .slice none 0 0] ++ us 21) ?_
  refine nx ?_
  refine wp_seq ?_
  refine rg (fun c d v a w h => NL c d v a w h) [(7, .vec (fun k => w.heap.size ≤ k) (a) (n)), (8, .eq (.int .i64 (((n : Nat) : Int)))), (9, .ownv (w.heap.size) (fun k => (F k) ∨ k = b2) (fun _ => 0) (n)), (5, .ownv (w.heap.size) (fun k => (F k) ∨ k = b2) (fun _ => 0) (n))] [] [] [] 26 4 ?_ ?_
  · refine so [] (fun w2 hw2 => .fin (yld_move rfl ⟨Grow.refl _, (MR.mono _ hw2 hv)⟩)) ?_
    refine soP [(7, .vec (fun k => w.heap.size ≤ k) (a) (n))] (fun w2 hw2 => by rintro v7 h7; exact .fin (yld_lenS Try.underlying25 rfl h7)) ?_
    refine so [1] (fun w2 hw2 => by rintro _ rfl; exact .fin (yld_makeV (B := w.heap.size) (F := fun k => (F k) ∨ k = b2) Try.underlying25 rfl rfl rfl (hn) (Grow.trans W1 hw2).size (fun k hk => (fun h => h.elim (fun h => Nat.lt_of_lt_of_le (hF k h) (Grow.trans W1 hw2).size) (fun e => by rw [e]; exact Nat.lt_of_lt_of_le B2.lt hw2.size)) hk))) ?_
    exact soP [(9, .ownv (w.heap.size) (fun k => (F k) ∨ k = b2) (fun _ => 0) (n))] (fun w2 hw2 => by rintro v9 h9; exact .fin (yld_assign rfl ⟨Grow.refl _, h9⟩)) (.nil _ _)
  rintro w2 hw2 v7 - v8 - v9 - v5 h5 -
  have W2 : Grow w w2 := W1.trans hw2
  have z2 : w1.heap.size ≤ w2.heap.size := hw2.size
  replace h5 := ownv_own (F' := fun k => ((F k) ∨ k = b2) ∨ w2.heap.size ≤ k) h5 (fun k hk => hk)
  replace B2 := B2.grow hw2
  replace hr := MR.mono _ hw2 hr
  replace hv := MR.mono _ hw2 hv
  refine fr ([vr, va, pt b2, u, .slice none 0 0, v5, u, v7, v8, v9] ++ us 16) ?_
  refine nx ?_
  refine wp_seq ?_
  refine wp_seq ?_
  refine rg (fun c d v a w h => NL c d v a w h) [(10, .vec (fun k => w.heap.size ≤ k) (a) (n)), (11, .eq (.int .i64 (((n : Nat) : Int)))), (12, .eq (.int .i64 (0)))] [] [] [] 26 3 ?_ ?_
  · refine so [] (fun w3 hw3 => .fin (yld_move rfl ⟨Grow.refl _, (MR.mono _ hw3 hv)⟩)) ?_
    refine soP [(10, .vec (fun k => w.heap.size ≤ k) (a) (n))] (fun w3 hw3 => by rintro v10 h10; exact .fin (yld_lenS Try.underlying25 rfl h10)) ?_
    exact so [] (fun w3 hw3 => .fin (yld_move rfl ⟨Grow.refl _, rfl⟩)) (.nil _ _)
  rintro w3 hw3 v10 - _ rfl _ rfl -
  have W3 : Grow w w3 := W2.trans hw3
  have z3 : w2.heap.size ≤ w3.heap.size := hw3.size
  replace B2 := B2.grow hw3
  replace hr := MR.mono _ hw3 hr
  replace hv := MR.mono _ hw3 hv
  replace h5 := MR.mono _ hw3 h5
  refine fr ((vr :: va :: pt b2 :: u :: .slice none 0 0 :: v5 :: u :: v7 :: v8 :: v9 :: v10 :: It n :: .int .i64 (0) :: []) ++ us 13) ?_
  refine nx ?_
  refine wp_block ?_
  refine wp_loop_ghost (fun nn ac4 w4 => ∃ (i : Nat), nn = n - i ∧ (i ≤ n) ∧ ∃ tt4 : Nat → Value, ac4 = ⟨List.toArray (vr :: va :: pt b2 :: u :: .slice none 0 0 :: v5 :: (tt4 6) :: v7 :: v8 :: v9 :: v10 :: It n :: It i :: (tt4 13) :: (tt4 14) :: (tt4 15) :: (tt4 16) :: (tt4 17) :: (tt4 18) :: (tt4 19) :: (tt4 20) :: (tt4 21) :: (tt4 22) :: (tt4 23) :: (tt4 24) :: u :: []), []⟩ ∧ Grow w w4 ∧ Box w4 b2 35 (.rat (r)) ∧ (MR.rat (r)).R w4 vr ∧ (MR.vec (fun k => w.heap.size ≤ k) (a) (n)).R w4 va ∧ (MR.ownv (w.heap.size) (fun k => (F k) ∨ k = b2) (firstQ Q i) (n)).R w4 v5) (n - 0) ⟨0, rfl, Nat.zero_le _, fun d => ((u :: v7 :: v8 :: v9 :: v10 :: It n :: .int .i64 (0) :: u :: u :: u :: u :: u :: u :: u :: u :: u :: u :: u :: u :: []) : List Value).getD (d - 6) undef, by kernel_rfl, W3, B2, hr, hv, (by rw [firstQ_zero]; exact ownv_own h5 (fun k hk => .inl (.inl hk)))⟩ ?_
  clear B2 hr hv h5
  rintro nn4 _ w4 ⟨i, hnn4, hinv, tt4, rfl, W4, B2, hr, hv, h5⟩
  replace h5 := ownv_own (F' := fun k => ((F k) ∨ k = b2) ∨ w4.heap.size ≤ k) h5 (fun k hk => hk)
  refine wp_seq ?_
  refine rg (fun c d v a w h => NL c d v a w h) [(13, .eq (.bool (decide ((((i : Nat) : Int) : Int) < (((n : Nat) : Int) : Int)))))] [] [] [] 26 1 ?_ ?_
  · exact so [] (fun w5 hw5 => .fin (yld_lss rfl rfl rfl ⟨Grow.refl _, rfl⟩)) (.nil _ _)
  rintro w5 hw5 _ rfl -
  have W5 : Grow w w5 := W4.trans hw5
  have z5 : w4.heap.size ≤ w5.heap.size := hw5.size
  replace B2 := B2.grow hw5
  replace hr := MR.mono _ hw5 hr
  replace hv := MR.mono _ hw5 hv
  replace h5 := MR.mono _ hw5 h5
  refine fr (vr :: va :: pt b2 :: u :: .slice none 0 0 :: v5 :: (tt4 6) :: v7 :: v8 :: v9 :: v10 :: It n :: It i :: .bool (decide ((((i : Nat) : Int) : Int) < (((n : Nat) : Int) : Int))) :: (tt4 14) :: (tt4 15) :: (tt4 16) :: (tt4 17) :: (tt4 18) :: (tt4 19) :: (tt4 20) :: (tt4 21) :: (tt4 22) :: (tt4 23) :: (tt4 24) :: u :: []) ?_
  refine nx ?_
  refine wp_seq ?_
  refine wp_cond_split (t := decide ((((i : Nat) : Int) : Int) < (((n : Nat) : Int) : Int))) rfl (fun hc => ?_) (fun hc => ?_)
  · have hlt : i < n := by have := of_decide_eq_true hc; omega
    refine wp_skip ?_
    change Code.wp _ _ _ ⟨_, []⟩ _
    refine wp_seq ?_
    refine wp_block ?_
    refine wp_seq ?_
    refine rg (fun c d v a w h => NL c d v a w h) [(14, .eq (.int .i64 (((i : Nat) : Int)))), (6, .eq (.int .i64 (((i : Nat) : Int))))] [] [] [] 26 2 ?_ ?_
    · refine so [] (fun w6 hw6 => .fin (yld_move rfl ⟨Grow.refl _, rfl⟩)) ?_
      exact so [0] (fun w6 hw6 => by rintro _ rfl; exact .fin (yld_assign rfl ⟨Grow.refl _, rfl⟩)) (.nil _ _)
    rintro w6 hw6 v14 - _ rfl -
    have W6 : Grow w w6 := W5.trans hw6
    have z6 : w5.heap.size ≤ w6.heap.size := hw6.size
    replace B2 := B2.grow hw6
    replace hr := MR.mono _ hw6 hr
    replace hv := MR.mono _ hw6 hv
    replace h5 := MR.mono _ hw6 h5
    refine fr (vr :: va :: pt b2 :: u :: .slice none 0 0 :: v5 :: It i :: v7 :: v8 :: v9 :: v10 :: It n :: It i :: .bool (decide ((((i : Nat) : Int) : Int) < (((n : Nat) : Int) : Int))) :: v14 :: (tt4 15) :: (tt4 16) :: (tt4 17) :: (tt4 18) :: (tt4 19) :: (tt4 20) :: (tt4 21) :: (tt4 22) :: (tt4 23) :: (tt4 24) :: u :: []) ?_
    refine nx ?_
    refine rg (fun c d v a w h => NL c d v a w h) [(15, .eq (v5)), (16, .eq (.int .i64 (((i : Nat) : Int)))), (17, .rat (r)), (18, .vec (fun k => w.heap.size ≤ k) (a) (n)), (19, .eq (.int .i64 (((i : Nat) : Int)))), (20, .eptr (fun k => w.heap.size ≤ k) 3 (.rat (a i))), (21, .rat (a i)), (22, .rat (Q i)), (23, .eq (elemPtr v5 (i)))] [] [] [] 26 9 ?_ ?_
    · refine so [] (fun w7 hw7 => .fin (yld_move rfl ⟨Grow.refl _, rfl⟩)) ?_
      refine so [] (fun w7 hw7 => .fin (yld_move rfl ⟨Grow.refl _, rfl⟩)) ?_
      refine so [] (fun w7 hw7 => .fin (yld_loadBox rfl rfl aggRat (B2.grow hw7) (shRat _))) ?_
      refine so [] (fun w7 hw7 => .fin (yld_move rfl ⟨Grow.refl _, (MR.mono _ hw7 hv)⟩)) ?_
      refine so [] (fun w7 hw7 => .fin (yld_move rfl ⟨Grow.refl _, rfl⟩)) ?_
      refine soP [(18, .vec (fun k => w.heap.size ≤ k) (a) (n)), (19, .eq (.int .i64 (((i : Nat) : Int))))] (fun w7 hw7 => by rintro v18 h18 _ rfl; exact .fin (yld_indexV (k := i) Try.underlying25 rfl h18 rfl rfl (hlt))) ?_
      refine soP [(20, .eptr (fun k => w.heap.size ≤ k) 3 (.rat (a i)))] (fun w7 hw7 => by rintro v20 h20; exact .fin (yld_loadQ rfl h20)) ?_
      refine so [2, 6] (fun w7 hw7 => by rintro v17 h17 v21 h21; exact .fin (yld_as (R := .rat (r * (a i))) (R2 := .rat (Q i)) (yld_call rfl cal_rat_Mul rfl (cRatMul h17 h21 (hs i hlt))) (fun h => by rw [hQ]; exact h))) ?_
      exact so [0, 1] (fun w7 hw7 => by rintro v15 e15 _ rfl; subst v15; exact .fin (yld_indexO (k := i) Try.underlying25 rfl rfl (MR.mono _ hw7 h5) rfl rfl (hlt))) (.nil _ _)
    rintro w7 hw7 v15 e15 v16 - v17 - v18 - v19 - v20 - v21 - v22 h22 _ rfl -
    have W7 : Grow w w7 := W6.trans hw7
    have z7 : w6.heap.size ≤ w7.heap.size := hw7.size
    subst v15
    replace B2 := B2.grow hw7
    replace hr := MR.mono _ hw7 hr
    replace hv := MR.mono _ hw7 hv
    replace h5 := MR.mono _ hw7 h5
    have KK : Kept [] w7 w7 := fun _ _ => rfl
    refine fr (vr :: va :: pt b2 :: u :: .slice none 0 0 :: v5 :: It i :: v7 :: v8 :: v9 :: v10 :: It n :: It i :: .bool (decide ((((i : Nat) : Int) : Int) < (((n : Nat) : Int) : Int))) :: v14 :: v5 :: v16 :: v17 :: v18 :: v19 :: v20 :: v21 :: v22 :: elemPtr v5 (i) :: (tt4 24) :: u :: []) ?_
    change wpListS _ _ _ _ [_] ⟨_, []⟩ _
    refine wpListS_yld rfl ?_
    refine yld_storeO (k := i) (F' := fun k => (F k) ∨ k = b2) rfl rfl h5 (hlt) h22 (fun k hk => (fun h => h.elim (fun h => (Or.inl (Or.inl h))) (fun e => by rw [e]; exact (Or.inl (Or.inr rfl)))) hk) fun w8 A8 H8 => ⟨fun _ => (fun _ hk => (by cases hk)), ?_⟩
    have W8 : Grow w w8 := A8.grow W7 (Nat.le_refl _)
    have z8 : w7.heap.size ≤ w8.heap.size := A8.size
    replace B2 := B2.app A8 (Or.inr rfl) (St.rat _)
    replace hr := MR.put hr (St.rat _) A8.ext
    replace hv := StF.vec (App.extF A8 fun k _ hk => .inl (by omega)) hv
    have KK : Kept [] w7 w8 := fun _ hk => (by cases hk)
    replace h5 := H8
    refine wpListS_nil ?_
    change Code.wp _ _ _ ⟨_, []⟩ _
    refine rg (fun c d v a w h => NL c d v a w h) [(24, .eq (.int .i64 (((i + 1 : Nat) : Int))))] [] [] [] 26 1 ?_ ?_
    · exact so [] (fun w9 hw9 => .fin (yld_add rfl rfl rfl (r := ((i + 1 : Nat) : Int)) (by rw [IntKind.wrap_i64]; omega) ⟨Grow.refl _, rfl⟩)) (.nil _ _)
    rintro w9 hw9 _ rfl -
    have W9 : Grow w w9 := W8.trans hw9
    have z9 : w8.heap.size ≤ w9.heap.size := hw9.size
    replace B2 := B2.grow hw9
    replace hr := MR.mono _ hw9 hr
    replace hv := MR.mono _ hw9 hv
    replace h5 := MR.mono _ hw9 h5
    have KK : Kept [] w9 w9 := fun _ _ => rfl
    refine fr (vr :: va :: pt b2 :: u :: .slice none 0 0 :: v5 :: It i :: v7 :: v8 :: v9 :: v10 :: It n :: It i :: .bool (decide ((((i : Nat) : Int) : Int) < (((n : Nat) : Int) : Int))) :: v14 :: v5 :: v16 :: v17 :: v18 :: v19 :: v20 :: v21 :: v22 :: elemPtr v5 (i) :: It (i + 1) :: u :: []) ?_
    change wpListS _ _ _ _ [_] ⟨_, []⟩ _
    refine wpListS_yld rfl ?_
    refine yld_move rfl ⟨fun _ => KK, ?_⟩
    refine wpListS_nil ?_
    refine ⟨_, ?_, i + 1, rfl, (by omega), fun d => ((It i :: v7 :: v8 :: v9 :: v10 :: It n :: It (i + 1) :: .bool (decide ((((i : Nat) : Int) : Int) < (((n : Nat) : Int) : Int))) :: v14 :: v5 :: v16 :: v17 :: v18 :: v19 :: v20 :: v21 :: v22 :: elemPtr v5 (i) :: It (i + 1) :: []) : List Value).getD (d - 6) undef, by kernel_rfl, W9, B2, hr, hv, (firstQ_upd Q i ▸ h5)⟩
    rw [hnn4]; omega
  · have hin : i = n := by have := of_decide_eq_false hc; omega
    refine wp_exit ?_
    change Code.wp _ _ _ ⟨_, []⟩ _
    refine wp_seq ?_
    refine rg (fun c d v a w h => NL c d v a w h) [(25, .eq (v5)), (4, .eq (v5))] [] [] [] 26 2 ?_ ?_
    · refine so [] (fun w10 hw10 => .fin (yld_move rfl ⟨Grow.refl _, rfl⟩)) ?_
      exact so [0] (fun w10 hw10 => by rintro v25 e25; subst v25; exact .fin (yld_assign rfl ⟨Grow.refl _, rfl⟩)) (.nil _ _)
    rintro w10 hw10 v25 e25 v4 e4 -
    have W10 : Grow w w10 := W5.trans hw10
    have z10 : w5.heap.size ≤ w10.heap.size := hw10.size
    subst v25
    subst v4
    replace hr := MR.mono _ hw10 hr
    replace hv := MR.mono _ hw10 hv
    replace h5 := MR.mono _ hw10 h5
    refine fr (vr :: va :: pt b2 :: u :: v5 :: v5 :: (tt4 6) :: v7 :: v8 :: v9 :: v10 :: It n :: It i :: .bool (decide ((((i : Nat) : Int) : Int) < (((n : Nat) : Int) : Int))) :: (tt4 14) :: (tt4 15) :: (tt4 16) :: (tt4 17) :: (tt4 18) :: (tt4 19) :: (tt4 20) :: (tt4 21) :: (tt4 22) :: (tt4 23) :: (tt4 24) :: v5 :: []) ?_
    refine nx ?_
    refine wp_ret ?_
    change bodyPost Try.prog Try.f19 (Ret (.ownv (B) (fun k => F k) (fun i => r * a i) (n)) w) .ret _ _
    exact body_slot rfl (ownv_cast h5 hB (fun k hk => (Or.inl (Or.inl hk))) (fun j hj => by rw [firstQ_all Q (show j < i by omega), hQ])) rfl W10
set_option maxRecDepth 100000 in
set_option maxHeartbeats 2000000 in
theorem cFirst {a : Nat → Rat} {n : Nat} {va : Value} {w : World}  (hv : (MR.vec (fun _ => False) (a) (n)).R w va)  : Calls Try.prog 61 #[va] w (Ret (.eq (.int .i64 (firstV a n))) w) := by
  have hl1 := vec_len hv
  refine calls_enter (a := ⟨List.toArray ([va] ++ us 16), []⟩) Try.func61 rfl (by kernel_rfl) ?_
  have NL : NoLook (bodyPost Try.prog Try.f61 (Ret (.eq (.int .i64 (firstV a n))) w)) := noLook_body
  replace hv := sl_own (F' := fun k => w.heap.size ≤ k) hv (fun k hk => .inr hk)
  refine wp_seq ?_
  refine rg (fun c d v a w h => NL c d v a w h) [(2, .eq (.int .i64 (0)))] [] [] [] 17 1 ?_ ?_
  · exact so [] (fun w1 hw1 => .fin (yld_assign rfl ⟨Grow.refl _, rfl⟩)) (.nil _ _)
  rintro w1 hw1 _ rfl -
  have W1 : Grow w w1 := (Grow.refl w).trans hw1
  have z1 : w.heap.size ≤ w1.heap.size := hw1.size
  replace hv := MR.mono _ hw1 hv
  refine fr ([va, u, .int .i64 (0)] ++ us 14) ?_
  refine nx ?_
  refine wp_seq ?_
  refine wp_seq ?_
  refine rg (fun c d v a w h => NL c d v a w h) [(5, .vec (fun k => w.heap.size ≤ k) (a) (n)), (6, .eq (.int .i64 (((n : Nat) : Int)))), (7, .eq (.int .i64 (0)))] [] [] [] 17 3 ?_ ?_
  · refine so [] (fun w2 hw2 => .fin (yld_move rfl ⟨Grow.refl _, (MR.mono _ hw2 hv)⟩)) ?_
    refine soP [(5, .vec (fun k => w.heap.size ≤ k) (a) (n))] (fun w2 hw2 => by rintro v5 h5; exact .fin (yld_lenS Try.underlying25 rfl h5)) ?_
    exact so [] (fun w2 hw2 => .fin (yld_move rfl ⟨Grow.refl _, rfl⟩)) (.nil _ _)
  rintro w2 hw2 v5 h5 _ rfl _ rfl -
  have W2 : Grow w w2 := W1.trans hw2
  have z2 : w1.heap.size ≤ w2.heap.size := hw2.size
  replace h5 := sl_own (F' := fun k => (w.heap.size ≤ k) ∨ w2.heap.size ≤ k) h5 (fun k hk => hk)
  replace hv := MR.mono _ hw2 hv
  refine fr ([va, u, .int .i64 (0), u, u, v5, It n, .int .i64 (0)] ++ us 9) ?_
  refine nx ?_
  refine wp_block ?_
  refine wp_loop_ghost (fun nn ac3 w3 => ∃ (i : Nat), nn = n - i ∧ (i ≤ n ∧ ∀ j, j < i → a j = 0) ∧ ∃ tt3 : Nat → Value, ac3 = ⟨List.toArray (va :: u :: (tt3 2) :: (tt3 3) :: (tt3 4) :: v5 :: It n :: It i :: (tt3 8) :: (tt3 9) :: (tt3 10) :: (tt3 11) :: (tt3 12) :: (tt3 13) :: (tt3 14) :: (tt3 15) :: (tt3 16) :: []), []⟩ ∧ Grow w w3 ∧ (MR.vec (fun k => w.heap.size ≤ k) (a) (n)).R w3 va ∧ (MR.vec (fun k => (w.heap.size ≤ k) ∨ w2.heap.size ≤ k) (a) (n)).R w3 v5) (n - 0) ⟨0, rfl, ⟨Nat.zero_le _, fun j hj => by omega⟩, fun d => ((.int .i64 (0) :: u :: u :: v5 :: It n :: .int .i64 (0) :: u :: u :: u :: u :: u :: u :: u :: u :: u :: []) : List Value).getD (d - 2) undef, by kernel_rfl, W2, hv, h5⟩ ?_
  clear hv h5
  rintro nn3 _ w3 ⟨i, hnn3, ⟨hin, heq⟩, tt3, rfl, W3, hv, h5⟩
  refine wp_seq ?_
  refine rg (fun c d v a w h => NL c d v a w h) [(8, .eq (.bool (decide ((((i : Nat) : Int) : Int) < (((n : Nat) : Int) : Int)))))] [] [] [] 17 1 ?_ ?_
  · exact so [] (fun w4 hw4 => .fin (yld_lss rfl rfl rfl ⟨Grow.refl _, rfl⟩)) (.nil _ _)
  rintro w4 hw4 _ rfl -
  have W4 : Grow w w4 := W3.trans hw4
  have z4 : w3.heap.size ≤ w4.heap.size := hw4.size
  replace hv := MR.mono _ hw4 hv
  replace h5 := MR.mono _ hw4 h5
  refine fr (va :: u :: (tt3 2) :: (tt3 3) :: (tt3 4) :: v5 :: It n :: It i :: .bool (decide ((((i : Nat) : Int) : Int) < (((n : Nat) : Int) : Int))) :: (tt3 9) :: (tt3 10) :: (tt3 11) :: (tt3 12) :: (tt3 13) :: (tt3 14) :: (tt3 15) :: (tt3 16) :: []) ?_
  refine nx ?_
  refine wp_seq ?_
  refine wp_cond_split (t := decide ((((i : Nat) : Int) : Int) < (((n : Nat) : Int) : Int))) rfl (fun hc => ?_) (fun hc => ?_)
  · have hlt : i < n := by have := of_decide_eq_true hc; omega
    refine wp_skip ?_
    change Code.wp _ _ _ ⟨_, []⟩ _
    refine wp_seq ?_
    refine wp_block ?_
    refine wp_seq ?_
    refine rg (fun c d v a w h => NL c d v a w h) [(9, .eq (.int .i64 (((i : Nat) : Int)))), (10, .eptr (fun k => (w.heap.size ≤ k) ∨ w2.heap.size ≤ k) 3 (.rat (a i))), (11, .rat (a i)), (4, .ptr 35 (.rat (0))), (3, .eq (.int .i64 (((i : Nat) : Int))))] [3] [] [] 17 5 ?_ ?_
    · refine so [] (fun w5 hw5 => .fin (yld_move rfl ⟨Grow.refl _, rfl⟩)) ?_
      refine so [] (fun w5 hw5 => .fin (yld_indexV (k := i) Try.underlying25 rfl (MR.mono _ hw5 h5) rfl rfl (hlt))) ?_
      refine soP [(10, .eptr (fun k => (w.heap.size ≤ k) ∨ w2.heap.size ≤ k) 3 (.rat (a i)))] (fun w5 hw5 => by rintro v10 h10; exact .fin (yld_loadQ rfl h10)) ?_
      refine sn [] (fun w5 hw5 => .fin (yld_newAlloc rfl zeroRat zRat)) ?_
      exact so [0] (fun w5 hw5 => by rintro _ rfl; exact .fin (yld_assign rfl ⟨Grow.refl _, rfl⟩)) (.nil _ _)
    rintro w5 hw5 v9 - v10 - v11 h11 _ ⟨b4, rfl, B4⟩ _ rfl hN
    have W5 : Grow w w5 := W4.trans hw5
    have z5 : w4.heap.size ≤ w5.heap.size := hw5.size
    have g_b4 : w.heap.size ≤ b4 := Nat.le_trans W4.size hN.1.1
    have y_b4 : w4.heap.size ≤ b4 ∧ b4 < w5.heap.size := hN.1
    clear hN
    replace hv := MR.mono _ hw5 hv
    replace h5 := MR.mono _ hw5 h5
    have KK : Kept [] w5 w5 := fun _ _ => rfl
    refine fr (va :: u :: (tt3 2) :: It i :: pt b4 :: v5 :: It n :: It i :: .bool (decide ((((i : Nat) : Int) : Int) < (((n : Nat) : Int) : Int))) :: v9 :: v10 :: v11 :: (tt3 12) :: (tt3 13) :: (tt3 14) :: (tt3 15) :: (tt3 16) :: []) ?_
    change wpListS _ _ _ _ [_] ⟨_, []⟩ _
    refine wpListS_yld rfl ?_
    refine yld_storeBox (R' := .rat (a i)) (b := b4) rfl rfl aggRat.size B4 (shRat _) h11 (shRat _) (St.rat _) (by decide) g_b4 fun w6 P6 E6 B' => ⟨fun _ => Kept.put KK P6 (fun _ hk => (by cases hk)), ?_⟩
    replace KK := Kept.put KK P6 (fun _ hk => (by cases hk))
    have W6 : Grow w w6 := W5.put P6 g_b4
    have z6 : w5.heap.size ≤ w6.heap.size := Nat.le_of_eq P6.size.symm
    replace hv := StF.vec (Put.extB P6 B4 (by decide) g_b4) hv
    replace h5 := StF.vec (Put.extB P6 B4 (by decide) (Or.inl g_b4)) h5
    replace B4 := B'; clear B'
    refine nx ?_
    refine wp_seq ?_
    refine rg (fun c d v a w h => NL c d v a w h) [(12, .rat (a i)), (13, .eq (.bool (decide ((a i) = 0)))), (14, .eq (.bool (!(decide ((a i) = 0)))))] [] [] [] 17 3 ?_ ?_
    · refine so [] (fun w7 hw7 => .fin (yld_loadBox rfl rfl aggRat (B4.grow hw7) (shRat _))) ?_
      refine so [0] (fun w7 hw7 => by rintro v12 h12; exact .fin (yld_call rfl cal_rat_Rat_Zero rfl (cRatZero h12))) ?_
      exact so [1] (fun w7 hw7 => by rintro _ rfl; exact .fin (yld_not rfl rfl ⟨Grow.refl _, rfl⟩)) (.nil _ _)
    rintro w7 hw7 v12 - v13 - _ rfl -
    have W7 : Grow w w7 := W6.trans hw7
    have z7 : w6.heap.size ≤ w7.heap.size := hw7.size
    replace hv := MR.mono _ hw7 hv
    replace h5 := MR.mono _ hw7 h5
    refine fr (va :: u :: (tt3 2) :: It i :: pt b4 :: v5 :: It n :: It i :: .bool (decide ((((i : Nat) : Int) : Int) < (((n : Nat) : Int) : Int))) :: v9 :: v10 :: v11 :: v12 :: v13 :: .bool (!(decide ((a i) = 0))) :: (tt3 15) :: (tt3 16) :: []) ?_
    refine nx ?_
    refine wp_cond_split (t := !(decide ((a i) = 0))) rfl (fun hd => ?_) (fun hd => ?_)
    · refine wp_seq ?_
      refine rg (fun c d v a w h => NL c d v a w h) [(15, .eq (.int .i64 (((i : Nat) : Int)))), (2, .eq (.int .i64 (((i : Nat) : Int))))] [] [] [] 17 2 ?_ ?_
      · refine so [] (fun w8 hw8 => .fin (yld_move rfl ⟨Grow.refl _, rfl⟩)) ?_
        exact so [0] (fun w8 hw8 => by rintro _ rfl; exact .fin (yld_assign rfl ⟨Grow.refl _, rfl⟩)) (.nil _ _)
      rintro w8 hw8 v15 - _ rfl -
      have W8 : Grow w w8 := W7.trans hw8
      have z8 : w7.heap.size ≤ w8.heap.size := hw8.size
      replace hv := MR.mono _ hw8 hv
      replace h5 := MR.mono _ hw8 h5
      refine fr (va :: u :: It i :: It i :: pt b4 :: v5 :: It n :: It i :: .bool (decide ((((i : Nat) : Int) : Int) < (((n : Nat) : Int) : Int))) :: v9 :: v10 :: v11 :: v12 :: v13 :: .bool (!(decide ((a i) = 0))) :: v15 :: (tt3 16) :: []) ?_
      refine nx ?_
      refine wp_ret ?_
      change bodyPost Try.prog Try.f61 (Ret (.eq (.int .i64 (firstV a n))) w) .ret _ _
      exact body_slot rfl (by show Value.int _ _ = Value.int _ _; rw [show ((((i : Nat) : Int) : Int)) = (firstV a n) from (by first | exact (firstV_at hlt heq hd).symm | exact (firstV_end heq hge).symm)]) rfl W8
    · refine wp_skip ?_
      change Code.wp _ _ _ ⟨_, []⟩ _
      refine rg (fun c d v a w h => NL c d v a w h) [(16, .eq (.int .i64 (((i + 1 : Nat) : Int))))] [] [] [] 17 1 ?_ ?_
      · exact so [] (fun w9 hw9 => .fin (yld_add rfl rfl rfl (r := ((i + 1 : Nat) : Int)) (by rw [IntKind.wrap_i64]; omega) ⟨Grow.refl _, rfl⟩)) (.nil _ _)
      rintro w9 hw9 _ rfl -
      have W9 : Grow w w9 := W7.trans hw9
      have z9 : w7.heap.size ≤ w9.heap.size := hw9.size
      replace hv := MR.mono _ hw9 hv
      replace h5 := MR.mono _ hw9 h5
      have KK : Kept [] w9 w9 := fun _ _ => rfl
      refine fr (va :: u :: (tt3 2) :: It i :: pt b4 :: v5 :: It n :: It i :: .bool (decide ((((i : Nat) : Int) : Int) < (((n : Nat) : Int) : Int))) :: v9 :: v10 :: v11 :: v12 :: v13 :: .bool (!(decide ((a i) = 0))) :: (tt3 15) :: It (i + 1) :: []) ?_
      change wpListS _ _ _ _ [_] ⟨_, []⟩ _
      refine wpListS_yld rfl ?_
      refine yld_move rfl ⟨fun _ => KK, ?_⟩
      refine wpListS_nil ?_
      refine ⟨_, ?_, i + 1, rfl, ⟨by omega, zero_step heq hd⟩, fun d => (((tt3 2) :: It i :: pt b4 :: v5 :: It n :: It (i + 1) :: .bool (decide ((((i : Nat) : Int) : Int) < (((n : Nat) : Int) : Int))) :: v9 :: v10 :: v11 :: v12 :: v13 :: .bool (!(decide ((a i) = 0))) :: (tt3 15) :: It (i + 1) :: []) : List Value).getD (d - 2) undef, by kernel_rfl, W9, hv, h5⟩
      rw [hnn3]; omega
  · have hge : n ≤ i := by have := of_decide_eq_false hc; omega
    refine wp_exit ?_
    change Code.wp _ _ _ ⟨_, []⟩ _
    refine wp_seq ?_
    refine rg (fun c d v a w h => NL c d v a w h) [(2, .eq (.int .i64 (-1)))] [] [] [] 17 1 ?_ ?_
    · exact so [] (fun w10 hw10 => .fin (yld_assign rfl ⟨Grow.refl _, rfl⟩)) (.nil _ _)
    rintro w10 hw10 _ rfl -
    have W10 : Grow w w10 := W4.trans hw10
    have z10 : w4.heap.size ≤ w10.heap.size := hw10.size
    replace hv := MR.mono _ hw10 hv
    refine fr (va :: u :: .int .i64 (-1) :: (tt3 3) :: (tt3 4) :: v5 :: It n :: It i :: .bool (decide ((((i : Nat) : Int) : Int) < (((n : Nat) : Int) : Int))) :: (tt3 9) :: (tt3 10) :: (tt3 11) :: (tt3 12) :: (tt3 13) :: (tt3 14) :: (tt3 15) :: (tt3 16) :: []) ?_
    refine nx ?_
    refine wp_ret ?_
    change bodyPost Try.prog Try.f61 (Ret (.eq (.int .i64 (firstV a n))) w) .ret _ _
    exact body_slot rfl (by show Value.int _ _ = Value.int _ _; rw [show ((-1 : Int)) = (firstV a n) from (by first | exact (firstV_at hlt heq hd).symm | exact (firstV_end heq hge).symm)]) rfl W10
set_option maxRecDepth 100000 in
set_option maxHeartbeats 2000000 in
theorem cVecZero {a : Nat → Rat} {n : Nat} {va : Value} {w : World}  (hv : (MR.vec (fun _ => False) (a) (n)).R w va)  : Calls Try.prog 25 #[va] w (Ret (.eq (.bool (decide (firstV a n < 0)))) w) := by
  refine calls_enter (a := ⟨List.toArray ([va] ++ us 5), []⟩) Try.func25 rfl (by kernel_rfl) ?_
  have NL : NoLook (bodyPost Try.prog Try.f25 (Ret (.eq (.bool (decide (firstV a n < 0)))) w)) := noLook_body
  refine wp_seq ?_
  refine rg (fun c d v a w h => NL c d v a w h) [(2, .eq (.bool (false)))] [] [] [] 6 1 ?_ ?_
  · exact so [] (fun w1 hw1 => .fin (yld_assign rfl ⟨Grow.refl _, rfl⟩)) (.nil _ _)
  rintro w1 hw1 _ rfl -
  have W1 : Grow w w1 := (Grow.refl w).trans hw1
  have z1 : w.heap.size ≤ w1.heap.size := hw1.size
  replace hv := MR.mono _ hw1 hv
  refine fr ([va, u, .bool (false)] ++ us 3) ?_
  refine nx ?_
  refine wp_seq ?_
  refine rg (fun c d v a w h => NL c d v a w h) [(3, .vec (fun _ => False) (a) (n)), (4, .eq (.int .i64 (firstV a n))), (5, .eq (.bool (decide ((firstV a n : Int) < (0 : Int))))), (2, .eq (.bool (decide ((firstV a n : Int) < (0 : Int)))))] [] [] [] 6 4 ?_ ?_
  · refine so [] (fun w2 hw2 => .fin (yld_move rfl ⟨Grow.refl _, (MR.mono _ hw2 hv)⟩)) ?_
    refine soP [(3, .vec (fun _ => False) (a) (n))] (fun w2 hw2 => by rintro v3 h3; exact .fin (yld_call rfl cal_vec_Vec_First rfl (cFirst (vec0 h3)))) ?_
    refine so [1] (fun w2 hw2 => by rintro _ rfl; exact .fin (yld_lss rfl rfl rfl ⟨Grow.refl _, rfl⟩)) ?_
    exact so [2] (fun w2 hw2 => by rintro _ rfl; exact .fin (yld_assign rfl ⟨Grow.refl _, rfl⟩)) (.nil _ _)
  rintro w2 hw2 v3 - v4 - v5 - _ rfl -
  have W2 : Grow w w2 := W1.trans hw2
  have z2 : w1.heap.size ≤ w2.heap.size := hw2.size
  replace hv := MR.mono _ hw2 hv
  refine fr [va, u, .bool (decide ((firstV a n : Int) < (0 : Int))), v3, v4, v5] ?_
  refine nx ?_
  refine wp_ret ?_
  change bodyPost Try.prog Try.f25 (Ret (.eq (.bool (decide (firstV a n < 0)))) w) .ret _ _
  exact body_slot rfl (by show Value.bool _ = Value.bool _; rw [show (decide ((firstV a n : Int) < (0 : Int))) = (decide (firstV a n < 0)) from (by first | rfl | omega | (simp; done))]) rfl W2
set_option maxRecDepth 100000 in
set_option maxHeartbeats 2000000 in
theorem cVecCmp {a b : Nat → Rat} {n m : Nat} {va : Value} {vb : Value} {w : World}  (hv : (MR.vec (fun _ => False) (a) (n)).R w va) (hv2 : (MR.vec (fun _ => False) (b) (m)).R w vb) (hs : ∀ i, i < n → i < m → szq (a i) + szq (b i) ≤ 17179869184) : Calls Try.prog 13 #[va, vb] w (Ret (.eq (.int .i64 (cmpVec a n b m))) w) := by
  have hl1 := vec_len hv
  have hl2 := vec_len hv2
  refine calls_enter (a := ⟨List.toArray ([va, vb] ++ us 38), []⟩) Try.func13 rfl (by kernel_rfl) ?_
  have NL : NoLook (bodyPost Try.prog Try.f13 (Ret (.eq (.int .i64 (cmpVec a n b m))) w)) := noLook_body
  replace hv := sl_own (F' := fun k => w.heap.size ≤ k) hv (fun k hk => .inr hk)
  replace hv2 := sl_own (F' := fun k => w.heap.size ≤ k) hv2 (fun k hk => .inr hk)
  refine wp_seq ?_
  refine rg (fun c d v a w h => NL c d v a w h) [(4, .eq (.int .i64 (0)))] [] [] [] 40 1 ?_ ?_
  · exact so [] (fun w1 hw1 => .fin (yld_assign rfl ⟨Grow.refl _, rfl⟩)) (.nil _ _)
  rintro w1 hw1 _ rfl -
  have W1 : Grow w w1 := (Grow.refl w).trans hw1
  have z1 : w.heap.size ≤ w1.heap.size := hw1.size
  replace hv := MR.mono _ hw1 hv
  replace hv2 := MR.mono _ hw1 hv2
  refine fr ([va, vb, u, u, .int .i64 (0)] ++ us 35) ?_
  refine nx ?_
  refine wp_seq ?_
  refine wp_seq ?_
  refine rg (fun c d v a w h => NL c d v a w h) [(7, .vec (fun k => w.heap.size ≤ k) (a) (n)), (8, .eq (.int .i64 (((n : Nat) : Int)))), (9, .vec (fun k => w.heap.size ≤ k) (b) (m)), (10, .eq (.int .i64 (((m : Nat) : Int)))), (11, .eq (.int .i64 (min (((n : Nat) : Int) : Int) (((m : Nat) : Int) : Int)))), (12, .eq (.int .i64 (0)))] [] [] [] 40 6 ?_ ?_
  · refine so [] (fun w2 hw2 => .fin (yld_move rfl ⟨Grow.refl _, (MR.mono _ hw2 hv)⟩)) ?_
    refine soP [(7, .vec (fun k => w.heap.size ≤ k) (a) (n))] (fun w2 hw2 => by rintro v7 h7; exact .fin (yld_lenS Try.underlying25 rfl h7)) ?_
    refine so [] (fun w2 hw2 => .fin (yld_move rfl ⟨Grow.refl _, (MR.mono _ hw2 hv2)⟩)) ?_
    refine soP [(9, .vec (fun k => w.heap.size ≤ k) (b) (m))] (fun w2 hw2 => by rintro v9 h9; exact .fin (yld_lenS Try.underlying25 rfl h9)) ?_
    refine so [1, 3] (fun w2 hw2 => by rintro _ rfl _ rfl; exact .fin (yld_min rfl rfl rfl ⟨Grow.refl _, rfl⟩)) ?_
    exact so [] (fun w2 hw2 => .fin (yld_move rfl ⟨Grow.refl _, rfl⟩)) (.nil _ _)
  rintro w2 hw2 v7 - v8 - v9 - v10 - _ rfl _ rfl -
  have W2 : Grow w w2 := W1.trans hw2
  have z2 : w1.heap.size ≤ w2.heap.size := hw2.size
  replace hv := MR.mono _ hw2 hv
  replace hv2 := MR.mono _ hw2 hv2
  refine fr ((va :: vb :: u :: u :: .int .i64 (0) :: u :: u :: v7 :: v8 :: v9 :: v10 :: .int .i64 (min (((n : Nat) : Int) : Int) (((m : Nat) : Int) : Int)) :: .int .i64 (0) :: []) ++ us 27) ?_
  refine nx ?_
  refine wp_block ?_
  refine wp_loop_ghost (fun nn ac3 w3 => ∃ (i : Nat), nn = n - i ∧ (i ≤ n ∧ i ≤ m ∧ ∀ j, j < i → a j = b j) ∧ ∃ tt3 : Nat → Value, ac3 = ⟨List.toArray ((va :: vb :: u :: u :: (tt3 4) :: (tt3 5) :: (tt3 6) :: v7 :: v8 :: v9 :: v10 :: .int .i64 (min (((n : Nat) : Int) : Int) (((m : Nat) : Int) : Int)) :: It i :: (tt3 13) :: (tt3 14) :: (tt3 15) :: (tt3 16) :: (tt3 17) :: (tt3 18) :: (tt3 19) :: (tt3 20) :: (tt3 21) :: (tt3 22) :: (tt3 23) :: (tt3 24) :: (tt3 25) :: (tt3 26) :: (tt3 27) :: []) ++ us 12), []⟩ ∧ Grow w w3 ∧ (MR.vec (fun k => w.heap.size ≤ k) (a) (n)).R w3 va ∧ (MR.vec (fun k => w.heap.size ≤ k) (b) (m)).R w3 vb) (n - 0) ⟨0, rfl, ⟨Nat.zero_le _, Nat.zero_le _, fun j hj => by omega⟩, fun d => ((.int .i64 (0) :: u :: u :: v7 :: v8 :: v9 :: v10 :: .int .i64 (min (((n : Nat) : Int) : Int) (((m : Nat) : Int) : Int)) :: .int .i64 (0) :: u :: u :: u :: u :: u :: u :: u :: u :: u :: u :: u :: u :: u :: u :: u :: []) : List Value).getD (d - 4) undef, by kernel_rfl, W2, hv, hv2⟩ ?_
  clear hv hv2
  rintro nn3 _ w3 ⟨i, hnn3, ⟨hin, him, heq⟩, tt3, rfl, W3, hv, hv2⟩
  refine wp_seq ?_
  refine rg (fun c d v a w h => NL c d v a w h) [(13, .eq (.bool (decide ((((i : Nat) : Int) : Int) < (min (((n : Nat) : Int) : Int) (((m : Nat) : Int) : Int) : Int)))))] [] [] [] 40 1 ?_ ?_
  · exact so [] (fun w4 hw4 => .fin (yld_lss rfl rfl rfl ⟨Grow.refl _, rfl⟩)) (.nil _ _)
  rintro w4 hw4 _ rfl -
  have W4 : Grow w w4 := W3.trans hw4
  have z4 : w3.heap.size ≤ w4.heap.size := hw4.size
  replace hv := MR.mono _ hw4 hv
  replace hv2 := MR.mono _ hw4 hv2
  refine fr ((va :: vb :: u :: u :: (tt3 4) :: (tt3 5) :: (tt3 6) :: v7 :: v8 :: v9 :: v10 :: .int .i64 (min (((n : Nat) : Int) : Int) (((m : Nat) : Int) : Int)) :: It i :: .bool (decide ((((i : Nat) : Int) : Int) < (min (((n : Nat) : Int) : Int) (((m : Nat) : Int) : Int) : Int))) :: (tt3 14) :: (tt3 15) :: (tt3 16) :: (tt3 17) :: (tt3 18) :: (tt3 19) :: (tt3 20) :: (tt3 21) :: (tt3 22) :: (tt3 23) :: (tt3 24) :: (tt3 25) :: (tt3 26) :: (tt3 27) :: []) ++ us 12) ?_
  refine nx ?_
  refine wp_seq ?_
  refine wp_cond_split (t := decide ((((i : Nat) : Int) : Int) < (min (((n : Nat) : Int) : Int) (((m : Nat) : Int) : Int) : Int))) rfl (fun hc => ?_) (fun hc => ?_)
  · have hlt : i < n := (min_lt hc).1
    have hlt2 : i < m := (min_lt hc).2
    refine wp_skip ?_
    change Code.wp _ _ _ ⟨_, []⟩ _
    refine wp_seq ?_
    refine wp_block ?_
    refine wp_seq ?_
    refine rg (fun c d v a w h => NL c d v a w h) [(14, .eq (.int .i64 (((i : Nat) : Int)))), (5, .eq (.int .i64 (((i : Nat) : Int))))] [] [] [] 40 2 ?_ ?_
    · refine so [] (fun w5 hw5 => .fin (yld_move rfl ⟨Grow.refl _, rfl⟩)) ?_
      exact so [0] (fun w5 hw5 => by rintro _ rfl; exact .fin (yld_assign rfl ⟨Grow.refl _, rfl⟩)) (.nil _ _)
    rintro w5 hw5 v14 - _ rfl -
    have W5 : Grow w w5 := W4.trans hw5
    have z5 : w4.heap.size ≤ w5.heap.size := hw5.size
    replace hv := MR.mono _ hw5 hv
    replace hv2 := MR.mono _ hw5 hv2
    refine fr ((va :: vb :: u :: u :: (tt3 4) :: It i :: (tt3 6) :: v7 :: v8 :: v9 :: v10 :: .int .i64 (min (((n : Nat) : Int) : Int) (((m : Nat) : Int) : Int)) :: It i :: .bool (decide ((((i : Nat) : Int) : Int) < (min (((n : Nat) : Int) : Int) (((m : Nat) : Int) : Int) : Int))) :: v14 :: (tt3 15) :: (tt3 16) :: (tt3 17) :: (tt3 18) :: (tt3 19) :: (tt3 20) :: (tt3 21) :: (tt3 22) :: (tt3 23) :: (tt3 24) :: (tt3 25) :: (tt3 26) :: (tt3 27) :: []) ++ us 12) ?_
    refine nx ?_
    refine wp_seq ?_
    refine rg (fun c d v a w h => NL c d v a w h) [(15, .vec (fun k => w.heap.size ≤ k) (a) (n)), (16, .eq (.int .i64 (((i : Nat) : Int)))), (17, .eptr (fun k => w.heap.size ≤ k) 3 (.rat (a i))), (18, .rat (a i)), (19, .vec (fun k => w.heap.size ≤ k) (b) (m)), (20, .eq (.int .i64 (((i : Nat) : Int)))), (21, .eptr (fun k => w.heap.size ≤ k) 3 (.rat (b i))), (22, .rat (b i)), (23, .eq (.int .i64 (cmpQ (a i) (b i)))), (6, .eq (.int .i64 (cmpQ (a i) (b i))))] [] [] [] 40 10 ?_ ?_
    · refine so [] (fun w6 hw6 => .fin (yld_move rfl ⟨Grow.refl _, (MR.mono _ hw6 hv)⟩)) ?_
      refine so [] (fun w6 hw6 => .fin (yld_move rfl ⟨Grow.refl _, rfl⟩)) ?_
      refine soP [(15, .vec (fun k => w.heap.size ≤ k) (a) (n)), (16, .eq (.int .i64 (((i : Nat) : Int))))] (fun w6 hw6 => by rintro v15 h15 _ rfl; exact .fin (yld_indexV (k := i) Try.underlying25 rfl h15 rfl rfl (hlt))) ?_
      refine soP [(17, .eptr (fun k => w.heap.size ≤ k) 3 (.rat (a i)))] (fun w6 hw6 => by rintro v17 h17; exact .fin (yld_loadQ rfl h17)) ?_
      refine so [] (fun w6 hw6 => .fin (yld_move rfl ⟨Grow.refl _, (MR.mono _ hw6 hv2)⟩)) ?_
      refine so [] (fun w6 hw6 => .fin (yld_move rfl ⟨Grow.refl _, rfl⟩)) ?_
      refine soP [(19, .vec (fun k => w.heap.size ≤ k) (b) (m)), (20, .eq (.int .i64 (((i : Nat) : Int))))] (fun w6 hw6 => by rintro v19 h19 _ rfl; exact .fin (yld_indexV (k := i) Try.underlying25 rfl h19 rfl rfl (hlt2))) ?_
      refine soP [(21, .eptr (fun k => w.heap.size ≤ k) 3 (.rat (b i)))] (fun w6 hw6 => by rintro v21 h21; exact .fin (yld_loadQ rfl h21)) ?_
      refine so [3, 7] (fun w6 hw6 => by rintro v18 h18 v22 h22; exact .fin (yld_call rfl cal_rat_Cmp rfl (cRatCmp h18 h22 (hs i hlt hlt2)))) ?_
      exact so [8] (fun w6 hw6 => by rintro _ rfl; exact .fin (yld_assign rfl ⟨Grow.refl _, rfl⟩)) (.nil _ _)
    rintro w6 hw6 v15 - v16 - v17 - v18 - v19 - v20 - v21 - v22 - v23 - _ rfl -
    have W6 : Grow w w6 := W5.trans hw6
    have z6 : w5.heap.size ≤ w6.heap.size := hw6.size
    replace hv := MR.mono _ hw6 hv
    replace hv2 := MR.mono _ hw6 hv2
    refine fr ((va :: vb :: u :: u :: (tt3 4) :: It i :: .int .i64 (cmpQ (a i) (b i)) :: v7 :: v8 :: v9 :: v10 :: .int .i64 (min (((n : Nat) : Int) : Int) (((m : Nat) : Int) : Int)) :: It i :: .bool (decide ((((i : Nat) : Int) : Int) < (min (((n : Nat) : Int) : Int) (((m : Nat) : Int) : Int) : Int))) :: v14 :: v15 :: v16 :: v17 :: v18 :: v19 :: v20 :: v21 :: v22 :: v23 :: (tt3 24) :: (tt3 25) :: (tt3 26) :: (tt3 27) :: []) ++ us 12) ?_
    refine nx ?_
    refine wp_seq ?_
    refine rg (fun c d v a w h => NL c d v a w h) [(24, .eq (.int .i64 (cmpQ (a i) (b i)))), (25, .eq (.bool ((cmpQ (a i) (b i) : Int) != (0 : Int))))] [] [] [] 40 2 ?_ ?_
    · refine so [] (fun w7 hw7 => .fin (yld_move rfl ⟨Grow.refl _, rfl⟩)) ?_
      exact so [0] (fun w7 hw7 => by rintro _ rfl; exact .fin (yld_neq rfl rfl rfl ⟨Grow.refl _, rfl⟩)) (.nil _ _)
    rintro w7 hw7 v24 - _ rfl -
    have W7 : Grow w w7 := W6.trans hw7
    have z7 : w6.heap.size ≤ w7.heap.size := hw7.size
    replace hv := MR.mono _ hw7 hv
    replace hv2 := MR.mono _ hw7 hv2
    refine fr ((va :: vb :: u :: u :: (tt3 4) :: It i :: .int .i64 (cmpQ (a i) (b i)) :: v7 :: v8 :: v9 :: v10 :: .int .i64 (min (((n : Nat) : Int) : Int) (((m : Nat) : Int) : Int)) :: It i :: .bool (decide ((((i : Nat) : Int) : Int) < (min (((n : Nat) : Int) : Int) (((m : Nat) : Int) : Int) : Int))) :: v14 :: v15 :: v16 :: v17 :: v18 :: v19 :: v20 :: v21 :: v22 :: v23 :: v24 :: .bool ((cmpQ (a i) (b i) : Int) != (0 : Int)) :: (tt3 26) :: (tt3 27) :: []) ++ us 12) ?_
    refine nx ?_
    refine wp_cond_split (t := (cmpQ (a i) (b i) : Int) != (0 : Int)) rfl (fun hd => ?_) (fun hd => ?_)
    · have hd0 := cmp_nz hd
      refine wp_seq ?_
      refine rg (fun c d v a w h => NL c d v a w h) [(26, .eq (.int .i64 (cmpQ (a i) (b i)))), (4, .eq (.int .i64 (cmpQ (a i) (b i))))] [] [] [] 40 2 ?_ ?_
      · refine so [] (fun w8 hw8 => .fin (yld_move rfl ⟨Grow.refl _, rfl⟩)) ?_
        exact so [0] (fun w8 hw8 => by rintro _ rfl; exact .fin (yld_assign rfl ⟨Grow.refl _, rfl⟩)) (.nil _ _)
      rintro w8 hw8 v26 - _ rfl -
      have W8 : Grow w w8 := W7.trans hw8
      have z8 : w7.heap.size ≤ w8.heap.size := hw8.size
      replace hv := MR.mono _ hw8 hv
      replace hv2 := MR.mono _ hw8 hv2
      refine fr ((va :: vb :: u :: u :: .int .i64 (cmpQ (a i) (b i)) :: It i :: .int .i64 (cmpQ (a i) (b i)) :: v7 :: v8 :: v9 :: v10 :: .int .i64 (min (((n : Nat) : Int) : Int) (((m : Nat) : Int) : Int)) :: It i :: .bool (decide ((((i : Nat) : Int) : Int) < (min (((n : Nat) : Int) : Int) (((m : Nat) : Int) : Int) : Int))) :: v14 :: v15 :: v16 :: v17 :: v18 :: v19 :: v20 :: v21 :: v22 :: v23 :: v24 :: .bool ((cmpQ (a i) (b i) : Int) != (0 : Int)) :: v26 :: (tt3 27) :: []) ++ us 12) ?_
      refine nx ?_
      refine wp_ret ?_
      change bodyPost Try.prog Try.f13 (Ret (.eq (.int .i64 (cmpVec a n b m))) w) .ret _ _
      exact body_slot rfl (by show Value.int _ _ = Value.int _ _; rw [show ((cmpQ (a i) (b i) : Int)) = (cmpVec a n b m) from (by first | exact (cmpVec_at hlt hlt2 heq hd0).symm | exact (cmpVec_end hin him hmin heq (by first | exact .inl ⟨rfl, h1⟩ | exact .inr (.inl ⟨rfl, h1, h2⟩) | exact .inr (.inr ⟨rfl, h1, h2⟩))).symm)]) rfl W8
    · refine wp_skip ?_
      change Code.wp _ _ _ ⟨_, []⟩ _
      refine rg (fun c d v a w h => NL c d v a w h) [(27, .eq (.int .i64 (((i + 1 : Nat) : Int))))] [] [] [] 40 1 ?_ ?_
      · exact so [] (fun w9 hw9 => .fin (yld_add rfl rfl rfl (r := ((i + 1 : Nat) : Int)) (by rw [IntKind.wrap_i64]; omega) ⟨Grow.refl _, rfl⟩)) (.nil _ _)
      rintro w9 hw9 _ rfl -
      have W9 : Grow w w9 := W7.trans hw9
      have z9 : w7.heap.size ≤ w9.heap.size := hw9.size
      replace hv := MR.mono _ hw9 hv
      replace hv2 := MR.mono _ hw9 hv2
      have KK : Kept [] w9 w9 := fun _ _ => rfl
      refine fr ((va :: vb :: u :: u :: (tt3 4) :: It i :: .int .i64 (cmpQ (a i) (b i)) :: v7 :: v8 :: v9 :: v10 :: .int .i64 (min (((n : Nat) : Int) : Int) (((m : Nat) : Int) : Int)) :: It i :: .bool (decide ((((i : Nat) : Int) : Int) < (min (((n : Nat) : Int) : Int) (((m : Nat) : Int) : Int) : Int))) :: v14 :: v15 :: v16 :: v17 :: v18 :: v19 :: v20 :: v21 :: v22 :: v23 :: v24 :: .bool ((cmpQ (a i) (b i) : Int) != (0 : Int)) :: (tt3 26) :: It (i + 1) :: []) ++ us 12) ?_
      change wpListS _ _ _ _ [_] ⟨_, []⟩ _
      refine wpListS_yld rfl ?_
      refine yld_move rfl ⟨fun _ => KK, ?_⟩
      refine wpListS_nil ?_
      refine ⟨_, ?_, i + 1, rfl, ⟨by omega, by omega, eq_step heq (cmp_zero hd)⟩, fun d => (((tt3 4) :: It i :: .int .i64 (cmpQ (a i) (b i)) :: v7 :: v8 :: v9 :: v10 :: .int .i64 (min (((n : Nat) : Int) : Int) (((m : Nat) : Int) : Int)) :: It (i + 1) :: .bool (decide ((((i : Nat) : Int) : Int) < (min (((n : Nat) : Int) : Int) (((m : Nat) : Int) : Int) : Int))) :: v14 :: v15 :: v16 :: v17 :: v18 :: v19 :: v20 :: v21 :: v22 :: v23 :: v24 :: .bool ((cmpQ (a i) (b i) : Int) != (0 : Int)) :: (tt3 26) :: It (i + 1) :: []) : List Value).getD (d - 4) undef, by kernel_rfl, W9, hv, hv2⟩
      rw [hnn3]; omega
  · have hmin := min_ge hc
    refine wp_exit ?_
    change Code.wp _ _ _ ⟨_, []⟩ _
    refine wp_seq ?_
    refine wp_block ?_
    refine wp_seq ?_
    refine rg (fun c d v a w h => NL c d v a w h) [(29, .vec (fun k => w.heap.size ≤ k) (a) (n)), (30, .eq (.int .i64 (((n : Nat) : Int)))), (31, .vec (fun k => w.heap.size ≤ k) (b) (m)), (32, .eq (.int .i64 (((m : Nat) : Int)))), (33, .eq (.bool (decide ((((n : Nat) : Int) : Int) < (((m : Nat) : Int) : Int))))), (28, .eq (.bool (decide ((((n : Nat) : Int) : Int) < (((m : Nat) : Int) : Int)))))] [] [] [] 40 6 ?_ ?_
    · refine so [] (fun w10 hw10 => .fin (yld_move rfl ⟨Grow.refl _, (MR.mono _ hw10 hv)⟩)) ?_
      refine soP [(29, .vec (fun k => w.heap.size ≤ k) (a) (n))] (fun w10 hw10 => by rintro v29 h29; exact .fin (yld_lenS Try.underlying25 rfl h29)) ?_
      refine so [] (fun w10 hw10 => .fin (yld_move rfl ⟨Grow.refl _, (MR.mono _ hw10 hv2)⟩)) ?_
      refine soP [(31, .vec (fun k => w.heap.size ≤ k) (b) (m))] (fun w10 hw10 => by rintro v31 h31; exact .fin (yld_lenS Try.underlying25 rfl h31)) ?_
      refine so [1, 3] (fun w10 hw10 => by rintro _ rfl _ rfl; exact .fin (yld_lss rfl rfl rfl ⟨Grow.refl _, rfl⟩)) ?_
      exact so [4] (fun w10 hw10 => by rintro _ rfl; exact .fin (yld_assign rfl ⟨Grow.refl _, rfl⟩)) (.nil _ _)
    rintro w10 hw10 v29 - v30 - v31 - v32 - v33 - _ rfl -
    have W10 : Grow w w10 := W4.trans hw10
    have z10 : w4.heap.size ≤ w10.heap.size := hw10.size
    replace hv := MR.mono _ hw10 hv
    replace hv2 := MR.mono _ hw10 hv2
    refine fr ((va :: vb :: u :: u :: (tt3 4) :: (tt3 5) :: (tt3 6) :: v7 :: v8 :: v9 :: v10 :: .int .i64 (min (((n : Nat) : Int) : Int) (((m : Nat) : Int) : Int)) :: It i :: .bool (decide ((((i : Nat) : Int) : Int) < (min (((n : Nat) : Int) : Int) (((m : Nat) : Int) : Int) : Int))) :: (tt3 14) :: (tt3 15) :: (tt3 16) :: (tt3 17) :: (tt3 18) :: (tt3 19) :: (tt3 20) :: (tt3 21) :: (tt3 22) :: (tt3 23) :: (tt3 24) :: (tt3 25) :: (tt3 26) :: (tt3 27) :: .bool (decide ((((n : Nat) : Int) : Int) < (((m : Nat) : Int) : Int))) :: v29 :: v30 :: v31 :: v32 :: v33 :: []) ++ us 6) ?_
    refine nx ?_
    refine wp_cond_split (t := decide ((((n : Nat) : Int) : Int) < (((m : Nat) : Int) : Int))) rfl (fun h1 => ?_) (fun h1 => ?_)
    · refine wp_seq ?_
      refine rg (fun c d v a w h => NL c d v a w h) [(4, .eq (.int .i64 (-1)))] [] [] [] 40 1 ?_ ?_
      · exact so [] (fun w11 hw11 => .fin (yld_assign rfl ⟨Grow.refl _, rfl⟩)) (.nil _ _)
      rintro w11 hw11 _ rfl -
      have W11 : Grow w w11 := W10.trans hw11
      have z11 : w10.heap.size ≤ w11.heap.size := hw11.size
      replace hv := MR.mono _ hw11 hv
      replace hv2 := MR.mono _ hw11 hv2
      refine fr ((va :: vb :: u :: u :: .int .i64 (-1) :: (tt3 5) :: (tt3 6) :: v7 :: v8 :: v9 :: v10 :: .int .i64 (min (((n : Nat) : Int) : Int) (((m : Nat) : Int) : Int)) :: It i :: .bool (decide ((((i : Nat) : Int) : Int) < (min (((n : Nat) : Int) : Int) (((m : Nat) : Int) : Int) : Int))) :: (tt3 14) :: (tt3 15) :: (tt3 16) :: (tt3 17) :: (tt3 18) :: (tt3 19) :: (tt3 20) :: (tt3 21) :: (tt3 22) :: (tt3 23) :: (tt3 24) :: (tt3 25) :: (tt3 26) :: (tt3 27) :: .bool (decide ((((n : Nat) : Int) : Int) < (((m : Nat) : Int) : Int))) :: v29 :: v30 :: v31 :: v32 :: v33 :: []) ++ us 6) ?_
      refine nx ?_
      refine wp_ret ?_
      change bodyPost Try.prog Try.f13 (Ret (.eq (.int .i64 (cmpVec a n b m))) w) .ret _ _
      exact body_slot rfl (by show Value.int _ _ = Value.int _ _; rw [show ((-1 : Int)) = (cmpVec a n b m) from (by first | exact (cmpVec_at hlt hlt2 heq hd0).symm | exact (cmpVec_end hin him hmin heq (by first | exact .inl ⟨rfl, h1⟩ | exact .inr (.inl ⟨rfl, h1, h2⟩) | exact .inr (.inr ⟨rfl, h1, h2⟩))).symm)]) rfl W11
    · refine wp_seq ?_
      refine rg (fun c d v a w h => NL c d v a w h) [(35, .vec (fun k => w.heap.size ≤ k) (a) (n)), (36, .eq (.int .i64 (((n : Nat) : Int)))), (37, .vec (fun k => w.heap.size ≤ k) (b) (m)), (38, .eq (.int .i64 (((m : Nat) : Int)))), (39, .eq (.bool (decide ((((n : Nat) : Int) : Int) > (((m : Nat) : Int) : Int))))), (34, .eq (.bool (decide ((((n : Nat) : Int) : Int) > (((m : Nat) : Int) : Int)))))] [] [] [] 40 6 ?_ ?_
      · refine so [] (fun w12 hw12 => .fin (yld_move rfl ⟨Grow.refl _, (MR.mono _ hw12 hv)⟩)) ?_
        refine soP [(35, .vec (fun k => w.heap.size ≤ k) (a) (n))] (fun w12 hw12 => by rintro v35 h35; exact .fin (yld_lenS Try.underlying25 rfl h35)) ?_
        refine so [] (fun w12 hw12 => .fin (yld_move rfl ⟨Grow.refl _, (MR.mono _ hw12 hv2)⟩)) ?_
        refine soP [(37, .vec (fun k => w.heap.size ≤ k) (b) (m))] (fun w12 hw12 => by rintro v37 h37; exact .fin (yld_lenS Try.underlying25 rfl h37)) ?_
        refine so [1, 3] (fun w12 hw12 => by rintro _ rfl _ rfl; exact .fin (yld_gtr rfl rfl rfl ⟨Grow.refl _, rfl⟩)) ?_
        exact so [4] (fun w12 hw12 => by rintro _ rfl; exact .fin (yld_assign rfl ⟨Grow.refl _, rfl⟩)) (.nil _ _)
      rintro w12 hw12 v35 - v36 - v37 - v38 - v39 - _ rfl -
      have W12 : Grow w w12 := W10.trans hw12
      have z12 : w10.heap.size ≤ w12.heap.size := hw12.size
      replace hv := MR.mono _ hw12 hv
      replace hv2 := MR.mono _ hw12 hv2
      refine fr (va :: vb :: u :: u :: (tt3 4) :: (tt3 5) :: (tt3 6) :: v7 :: v8 :: v9 :: v10 :: .int .i64 (min (((n : Nat) : Int) : Int) (((m : Nat) : Int) : Int)) :: It i :: .bool (decide ((((i : Nat) : Int) : Int) < (min (((n : Nat) : Int) : Int) (((m : Nat) : Int) : Int) : Int))) :: (tt3 14) :: (tt3 15) :: (tt3 16) :: (tt3 17) :: (tt3 18) :: (tt3 19) :: (tt3 20) :: (tt3 21) :: (tt3 22) :: (tt3 23) :: (tt3 24) :: (tt3 25) :: (tt3 26) :: (tt3 27) :: .bool (decide ((((n : Nat) : Int) : Int) < (((m : Nat) : Int) : Int))) :: v29 :: v30 :: v31 :: v32 :: v33 :: .bool (decide ((((n : Nat) : Int) : Int) > (((m : Nat) : Int) : Int))) :: v35 :: v36 :: v37 :: v38 :: v39 :: []) ?_
      refine nx ?_
      refine wp_cond_split (t := decide ((((n : Nat) : Int) : Int) > (((m : Nat) : Int) : Int))) rfl (fun h2 => ?_) (fun h2 => ?_)
      · refine wp_seq ?_
        refine rg (fun c d v a w h => NL c d v a w h) [(4, .eq (.int .i64 (1)))] [] [] [] 40 1 ?_ ?_
        · exact so [] (fun w13 hw13 => .fin (yld_assign rfl ⟨Grow.refl _, rfl⟩)) (.nil _ _)
        rintro w13 hw13 _ rfl -
        have W13 : Grow w w13 := W12.trans hw13
        have z13 : w12.heap.size ≤ w13.heap.size := hw13.size
        replace hv := MR.mono _ hw13 hv
        replace hv2 := MR.mono _ hw13 hv2
        refine fr (va :: vb :: u :: u :: .int .i64 (1) :: (tt3 5) :: (tt3 6) :: v7 :: v8 :: v9 :: v10 :: .int .i64 (min (((n : Nat) : Int) : Int) (((m : Nat) : Int) : Int)) :: It i :: .bool (decide ((((i : Nat) : Int) : Int) < (min (((n : Nat) : Int) : Int) (((m : Nat) : Int) : Int) : Int))) :: (tt3 14) :: (tt3 15) :: (tt3 16) :: (tt3 17) :: (tt3 18) :: (tt3 19) :: (tt3 20) :: (tt3 21) :: (tt3 22) :: (tt3 23) :: (tt3 24) :: (tt3 25) :: (tt3 26) :: (tt3 27) :: .bool (decide ((((n : Nat) : Int) : Int) < (((m : Nat) : Int) : Int))) :: v29 :: v30 :: v31 :: v32 :: v33 :: .bool (decide ((((n : Nat) : Int) : Int) > (((m : Nat) : Int) : Int))) :: v35 :: v36 :: v37 :: v38 :: v39 :: []) ?_
        refine nx ?_
        refine wp_ret ?_
        change bodyPost Try.prog Try.f13 (Ret (.eq (.int .i64 (cmpVec a n b m))) w) .ret _ _
        exact body_slot rfl (by show Value.int _ _ = Value.int _ _; rw [show ((1 : Int)) = (cmpVec a n b m) from (by first | exact (cmpVec_at hlt hlt2 heq hd0).symm | exact (cmpVec_end hin him hmin heq (by first | exact .inl ⟨rfl, h1⟩ | exact .inr (.inl ⟨rfl, h1, h2⟩) | exact .inr (.inr ⟨rfl, h1, h2⟩))).symm)]) rfl W13
      · refine wp_skip ?_
        change Code.wp _ _ _ ⟨_, []⟩ _
        refine wp_seq ?_
        refine rg (fun c d v a w h => NL c d v a w h) [(4, .eq (.int .i64 (0)))] [] [] [] 40 1 ?_ ?_
        · exact so [] (fun w14 hw14 => .fin (yld_assign rfl ⟨Grow.refl _, rfl⟩)) (.nil _ _)
        rintro w14 hw14 _ rfl -
        have W14 : Grow w w14 := W12.trans hw14
        have z14 : w12.heap.size ≤ w14.heap.size := hw14.size
        replace hv := MR.mono _ hw14 hv
        replace hv2 := MR.mono _ hw14 hv2
        refine fr (va :: vb :: u :: u :: .int .i64 (0) :: (tt3 5) :: (tt3 6) :: v7 :: v8 :: v9 :: v10 :: .int .i64 (min (((n : Nat) : Int) : Int) (((m : Nat) : Int) : Int)) :: It i :: .bool (decide ((((i : Nat) : Int) : Int) < (min (((n : Nat) : Int) : Int) (((m : Nat) : Int) : Int) : Int))) :: (tt3 14) :: (tt3 15) :: (tt3 16) :: (tt3 17) :: (tt3 18) :: (tt3 19) :: (tt3 20) :: (tt3 21) :: (tt3 22) :: (tt3 23) :: (tt3 24) :: (tt3 25) :: (tt3 26) :: (tt3 27) :: .bool (decide ((((n : Nat) : Int) : Int) < (((m : Nat) : Int) : Int))) :: v29 :: v30 :: v31 :: v32 :: v33 :: .bool (decide ((((n : Nat) : Int) : Int) > (((m : Nat) : Int) : Int))) :: v35 :: v36 :: v37 :: v38 :: v39 :: []) ?_
        refine nx ?_
        refine wp_ret ?_
        change bodyPost Try.prog Try.f13 (Ret (.eq (.int .i64 (cmpVec a n b m))) w) .ret _ _
        exact body_slot rfl (by show Value.int _ _ = Value.int _ _; rw [show ((0 : Int)) = (cmpVec a n b m) from (by first | exact (cmpVec_at hlt hlt2 heq hd0).symm | exact (cmpVec_end hin him hmin heq (by first | exact .inl ⟨rfl, h1⟩ | exact .inr (.inl ⟨rfl, h1, h2⟩) | exact .inr (.inr ⟨rfl, h1, h2⟩))).symm)]) rfl W14
set_option maxRecDepth 100000 in
set_option maxHeartbeats 2000000 in
theorem cVecSame {a b : Nat → Rat} {n m : Nat} {va : Value} {vb : Value} {w : World}  (hv : (MR.vec (fun _ => False) (a) (n)).R w va) (hv2 : (MR.vec (fun _ => False) (b) (m)).R w vb) (hs : ∀ i, i < n → i < m → szq (a i) + szq (b i) ≤ 17179869184) : Calls Try.prog 17 #[va, vb] w (Ret (.eq (.bool (decide (cmpVec a n b m = 0)))) w) := by
  refine calls_enter (a := ⟨List.toArray ([va, vb] ++ us 7), []⟩) Try.func17 rfl (by kernel_rfl) ?_
  have NL : NoLook (bodyPost Try.prog Try.f17 (Ret (.eq (.bool (decide (cmpVec a n b m = 0)))) w)) := noLook_body
  refine wp_seq ?_
  refine rg (fun c d v a w h => NL c d v a w h) [(4, .eq (.bool (false)))] [] [] [] 9 1 ?_ ?_
  · exact so [] (fun w1 hw1 => .fin (yld_assign rfl ⟨Grow.refl _, rfl⟩)) (.nil _ _)
  rintro w1 hw1 _ rfl -
  have W1 : Grow w w1 := (Grow.refl w).trans hw1
  have z1 : w.heap.size ≤ w1.heap.size := hw1.size
  replace hv := MR.mono _ hw1 hv
  replace hv2 := MR.mono _ hw1 hv2
  refine fr ([va, vb, u, u, .bool (false)] ++ us 4) ?_
  refine nx ?_
  refine wp_seq ?_
  refine rg (fun c d v a w h => NL c d v a w h) [(5, .vec (fun _ => False) (a) (n)), (6, .vec (fun _ => False) (b) (m)), (7, .eq (.int .i64 (cmpVec a n b m))), (8, .eq (.bool ((cmpVec a n b m : Int) == (0 : Int)))), (4, .eq (.bool ((cmpVec a n b m : Int) == (0 : Int))))] [] [] [] 9 5 ?_ ?_
  · refine so [] (fun w2 hw2 => .fin (yld_move rfl ⟨Grow.refl _, (MR.mono _ hw2 hv)⟩)) ?_
    refine so [] (fun w2 hw2 => .fin (yld_move rfl ⟨Grow.refl _, (MR.mono _ hw2 hv2)⟩)) ?_
    refine soP [(5, .vec (fun _ => False) (a) (n)), (6, .vec (fun _ => False) (b) (m))] (fun w2 hw2 => by rintro v5 h5 v6 h6; exact .fin (yld_call rfl cal_vec_Cmp rfl (cVecCmp (vec0 h5) (vec0 h6) hs))) ?_
    refine so [2] (fun w2 hw2 => by rintro _ rfl; exact .fin (yld_eql rfl rfl rfl ⟨Grow.refl _, rfl⟩)) ?_
    exact so [3] (fun w2 hw2 => by rintro _ rfl; exact .fin (yld_assign rfl ⟨Grow.refl _, rfl⟩)) (.nil _ _)
  rintro w2 hw2 v5 - v6 - v7 - v8 - _ rfl -
  have W2 : Grow w w2 := W1.trans hw2
  have z2 : w1.heap.size ≤ w2.heap.size := hw2.size
  replace hv := MR.mono _ hw2 hv
  replace hv2 := MR.mono _ hw2 hv2
  refine fr [va, vb, u, u, .bool ((cmpVec a n b m : Int) == (0 : Int)), v5, v6, v7, v8] ?_
  refine nx ?_
  refine wp_ret ?_
  change bodyPost Try.prog Try.f17 (Ret (.eq (.bool (decide (cmpVec a n b m = 0)))) w) .ret _ _
  exact body_slot rfl (by show Value.bool _ = Value.bool _; rw [show ((cmpVec a n b m : Int) == (0 : Int)) = (decide (cmpVec a n b m = 0)) from (rfl)]) rfl W2
end Go.Proofs.Ytngghjhmfpmilaa
/- package vec (c). -/
namespace Go.Proofs.Ytngghjhmfpmilaa
open Go.RowKit
theorem cal_vec_AddTimes : Callable Try.prog 20 := callable_of Try.func20 rfl (by kernel_rfl)
set_option maxRecDepth 100000 in
set_option maxHeartbeats 2000000 in
theorem cDot {a b : Nat → Rat} {n m : Nat} {va : Value} {vb : Value} {w : World}  (hv : (MR.vec (fun _ => False) (a) (n)).R w va) (hv2 : (MR.vec (fun _ => False) (b) (m)).R w vb) (hs : ∀ i, i < n → i < m → szq (a i) + szq (b i) ≤ 17179869184 ∧ szq (dotQ a b i) + szq (a i * b i) ≤ 17179869184) : Calls Try.prog 22 #[va, vb] w (Ret (.tup2 (.rat (if n = m then dotQ a b n else 0)) (.eq (.bool (decide (n = m))))) w) := by
  have hl1 := vec_len hv
  have hl2 := vec_len hv2
  refine calls_enter (a := ⟨List.toArray ([va, vb] ++ us 44), []⟩) Try.func22 rfl (by kernel_rfl) ?_
  have NL : NoLook (bodyPost Try.prog Try.f22 (Ret (.tup2 (.rat (if n = m then dotQ a b n else 0)) (.eq (.bool (decide (n = m))))) w)) := noLook_body
  replace hv := sl_own (F' := fun k => w.heap.size ≤ k) hv (fun k hk => .inr hk)
  replace hv2 := sl_own (F' := fun k => w.heap.size ≤ k) hv2 (fun k hk => .inr hk)
  refine wp_seq ?_
  refine rg (fun c d v a w h => NL c d v a w h) [(4, .ptr 35 (.rat (0))), (5, .eq (.bool (false)))] [0] [] [] 46 2 ?_ ?_
  · refine sn [] (fun w1 hw1 => .fin (yld_newAlloc rfl zeroRat zRat)) ?_
    exact so [] (fun w1 hw1 => .fin (yld_assign rfl ⟨Grow.refl _, rfl⟩)) (.nil _ _)
  rintro w1 hw1 _ ⟨b4, rfl, B4⟩ _ rfl hN
  have W1 : Grow w w1 := (Grow.refl w).trans hw1
  have z1 : w.heap.size ≤ w1.heap.size := hw1.size
  have g_b4 : w.heap.size ≤ b4 := Nat.le_trans (Grow.refl w).size hN.1.1
  have y_b4 : w.heap.size ≤ b4 ∧ b4 < w1.heap.size := hN.1
  clear hN
  replace hv := MR.mono _ hw1 hv
  replace hv2 := MR.mono _ hw1 hv2
  refine fr ([va, vb, u, u, pt b4, .bool (false)] ++ us 40) ?_
  refine nx ?_
  refine wp_seq ?_
  refine wp_seq ?_
  refine rg (fun c d v a w h => NL c d v a w h) [(8, .vec (fun k => w.heap.size ≤ k) (a) (n)), (9, .eq (.int .i64 (((n : Nat) : Int)))), (10, .vec (fun k => w.heap.size ≤ k) (b) (m)), (11, .eq (.int .i64 (((m : Nat) : Int)))), (12, .eq (.bool ((((n : Nat) : Int) : Int) != (((m : Nat) : Int) : Int))))] [] [] [] 46 5 ?_ ?_
  · refine so [] (fun w2 hw2 => .fin (yld_move rfl ⟨Grow.refl _, (MR.mono _ hw2 hv)⟩)) ?_
    refine soP [(8, .vec (fun k => w.heap.size ≤ k) (a) (n))] (fun w2 hw2 => by rintro v8 h8; exact .fin (yld_lenS Try.underlying25 rfl h8)) ?_
    refine so [] (fun w2 hw2 => .fin (yld_move rfl ⟨Grow.refl _, (MR.mono _ hw2 hv2)⟩)) ?_
    refine soP [(10, .vec (fun k => w.heap.size ≤ k) (b) (m))] (fun w2 hw2 => by rintro v10 h10; exact .fin (yld_lenS Try.underlying25 rfl h10)) ?_
    exact so [1, 3] (fun w2 hw2 => by rintro _ rfl _ rfl; exact .fin (yld_neq rfl rfl rfl ⟨Grow.refl _, rfl⟩)) (.nil _ _)
  rintro w2 hw2 v8 - v9 - v10 - v11 - _ rfl -
  have W2 : Grow w w2 := W1.trans hw2
  have z2 : w1.heap.size ≤ w2.heap.size := hw2.size
  replace B4 := B4.grow hw2
  replace hv := MR.mono _ hw2 hv
  replace hv2 := MR.mono _ hw2 hv2
  refine fr ((va :: vb :: u :: u :: pt b4 :: .bool (false) :: u :: u :: v8 :: v9 :: v10 :: v11 :: .bool ((((n : Nat) : Int) : Int) != (((m : Nat) : Int) : Int)) :: []) ++ us 33) ?_
  refine nx ?_
  refine wp_cond_split (t := (((n : Nat) : Int) : Int) != (((m : Nat) : Int) : Int)) rfl (fun hd => ?_) (fun hd => ?_)
  · refine wp_seq ?_
    refine rg (fun c d v a w h => NL c d v a w h) [(13, .rat (0))] [] [] [] 46 1 ?_ ?_
    · exact so [] (fun w3 hw3 => .fin (yld_build (ps := []) rfl rfl (by kernel_rfl) ⟨Grow.refl _, zRat _⟩)) (.nil _ _)
    rintro w3 hw3 v13 h13 -
    have W3 : Grow w w3 := W2.trans hw3
    have z3 : w2.heap.size ≤ w3.heap.size := hw3.size
    replace B4 := B4.grow hw3
    replace hv := MR.mono _ hw3 hv
    replace hv2 := MR.mono _ hw3 hv2
    have KK : Kept [] w3 w3 := fun _ _ => rfl
    refine fr ((va :: vb :: u :: u :: pt b4 :: .bool (false) :: u :: u :: v8 :: v9 :: v10 :: v11 :: .bool ((((n : Nat) : Int) : Int) != (((m : Nat) : Int) : Int)) :: v13 :: []) ++ us 32) ?_
    change wpListS _ _ _ _ [_, _] ⟨_, []⟩ _
    refine wpListS_yld rfl ?_
    refine yld_storeBox (R' := .rat (0)) (b := b4) rfl rfl aggRat.size B4 (shRat _) h13 (shRat _) (St.rat _) (by decide) g_b4 fun w4 P4 E4 B' => ⟨fun _ => Kept.put KK P4 (fun _ hk => (by cases hk)), ?_⟩
    replace KK := Kept.put KK P4 (fun _ hk => (by cases hk))
    have W4 : Grow w w4 := W3.put P4 g_b4
    have z4 : w3.heap.size ≤ w4.heap.size := Nat.le_of_eq P4.size.symm
    replace hv := StF.vec (Put.extB P4 B4 (by decide) g_b4) hv
    replace hv2 := StF.vec (Put.extB P4 B4 (by decide) g_b4) hv2
    replace B4 := B'; clear B'
    change wpListS _ _ _ _ [_] ⟨_, []⟩ _
    refine wpListS_yld rfl ?_
    refine yld_assign rfl ⟨fun _ => KK, ?_⟩
    refine wpListS_nil ?_
    change Code.wp _ _ _ ⟨List.toArray (List.set _ 5 _), []⟩ _
    have BR : Box w4 b4 35 (.rat (if n = m then dotQ a b n else 0)) := (by have e : (0 : Rat) = if n = m then dotQ a b n else 0 := (by first | (exact (decide_eq_false (by simp at hd; omega)).symm) | exact (decide_eq_true hnm).symm | (rw [if_neg (by simp at hd; omega)]; done) | (rw [if_pos hnm, hin]; done)); rw [← e]; exact B4)
    refine wp_ret ?_
    change bodyPost Try.prog Try.f22 (Ret (.tup2 (.rat (if n = m then dotQ a b n else 0)) (.eq (.bool (decide (n = m))))) w) .ret _ _
    exact body_cell_slot (b := b4) rfl rfl aggRat BR (shRat _) (by show Value.bool _ = Value.bool _; rw [show (false) = (decide (n = m)) from (by first | (exact (decide_eq_false (by simp at hd; omega)).symm) | exact (decide_eq_true hnm).symm | (rw [if_neg (by simp at hd; omega)]; done) | (rw [if_pos hnm, hin]; done))]) rfl W4
  · have hnm : n = m := by simp at hd; omega
    refine wp_skip ?_
    change Code.wp _ _ _ ⟨_, []⟩ _
    refine wp_seq ?_
    refine rg (fun c d v a w h => NL c d v a w h) [(6, .ptr 35 (.rat (0)))] [0] [] [] 46 1 ?_ ?_
    · exact sn [] (fun w5 hw5 => .fin (yld_newAlloc rfl zeroRat zRat)) (.nil _ _)
    rintro w5 hw5 _ ⟨b6, rfl, B6⟩ hN
    have W5 : Grow w w5 := W2.trans hw5
    have z5 : w2.heap.size ≤ w5.heap.size := hw5.size
    have g_b6 : w.heap.size ≤ b6 := Nat.le_trans W2.size hN.1.1
    have y_b6 : w2.heap.size ≤ b6 ∧ b6 < w5.heap.size := hN.1
    have n_b4_b6 : b4 ≠ b6 := Nat.ne_of_lt (Nat.lt_of_lt_of_le B4.lt hN.1.1)
    clear hN
    replace B4 := B4.grow hw5
    replace hv := MR.mono _ hw5 hv
    replace hv2 := MR.mono _ hw5 hv2
    refine fr ((va :: vb :: u :: u :: pt b4 :: .bool (false) :: pt b6 :: u :: v8 :: v9 :: v10 :: v11 :: .bool ((((n : Nat) : Int) : Int) != (((m : Nat) : Int) : Int)) :: []) ++ us 33) ?_
    refine nx ?_
    refine wp_seq ?_
    refine wp_seq ?_
    refine rg (fun c d v a w h => NL c d v a w h) [(14, .vec (fun k => w.heap.size ≤ k) (a) (n)), (15, .eq (.int .i64 (((n : Nat) : Int)))), (16, .eq (.int .i64 (0)))] [] [] [] 46 3 ?_ ?_
    · refine so [] (fun w6 hw6 => .fin (yld_move rfl ⟨Grow.refl _, (MR.mono _ hw6 hv)⟩)) ?_
      refine soP [(14, .vec (fun k => w.heap.size ≤ k) (a) (n))] (fun w6 hw6 => by rintro v14 h14; exact .fin (yld_lenS Try.underlying25 rfl h14)) ?_
      exact so [] (fun w6 hw6 => .fin (yld_move rfl ⟨Grow.refl _, rfl⟩)) (.nil _ _)
    rintro w6 hw6 v14 - _ rfl _ rfl -
    have W6 : Grow w w6 := W5.trans hw6
    have z6 : w5.heap.size ≤ w6.heap.size := hw6.size
    replace B4 := B4.grow hw6
    replace B6 := B6.grow hw6
    replace hv := MR.mono _ hw6 hv
    replace hv2 := MR.mono _ hw6 hv2
    refine fr ((va :: vb :: u :: u :: pt b4 :: .bool (false) :: pt b6 :: u :: v8 :: v9 :: v10 :: v11 :: .bool ((((n : Nat) : Int) : Int) != (((m : Nat) : Int) : Int)) :: u :: v14 :: It n :: .int .i64 (0) :: []) ++ us 29) ?_
    refine nx ?_
    refine wp_block ?_
    refine wp_loop_ghost (fun nn ac7 w7 => ∃ (i : Nat), nn = n - i ∧ (i ≤ n) ∧ ∃ tt7 : Nat → Value, ac7 = ⟨List.toArray (va :: vb :: u :: u :: pt b4 :: .bool (false) :: pt b6 :: (tt7 7) :: v8 :: v9 :: v10 :: v11 :: .bool ((((n : Nat) : Int) : Int) != (((m : Nat) : Int) : Int)) :: u :: v14 :: It n :: It i :: (tt7 17) :: (tt7 18) :: (tt7 19) :: (tt7 20) :: (tt7 21) :: (tt7 22) :: (tt7 23) :: (tt7 24) :: (tt7 25) :: (tt7 26) :: (tt7 27) :: (tt7 28) :: (tt7 29) :: (tt7 30) :: (tt7 31) :: (tt7 32) :: (tt7 33) :: (tt7 34) :: (tt7 35) :: (tt7 36) :: (tt7 37) :: (tt7 38) :: (tt7 39) :: (tt7 40) :: (tt7 41) :: (tt7 42) :: (tt7 43) :: (tt7 44) :: u :: []), []⟩ ∧ Grow w w7 ∧ Box w7 b4 35 (.rat (0)) ∧ Box w7 b6 35 (.rat (dotQ a b i)) ∧ (MR.vec (fun k => w.heap.size ≤ k) (a) (n)).R w7 va ∧ (MR.vec (fun k => w.heap.size ≤ k) (b) (m)).R w7 vb) (n - 0) ⟨0, rfl, Nat.zero_le _, fun d => ((u :: v8 :: v9 :: v10 :: v11 :: .bool ((((n : Nat) : Int) : Int) != (((m : Nat) : Int) : Int)) :: u :: v14 :: It n :: .int .i64 (0) :: u :: u :: u :: u :: u :: u :: u :: u :: u :: u :: u :: u :: u :: u :: u :: u :: u :: u :: u :: u :: u :: u :: u :: u :: u :: u :: u :: u :: []) : List Value).getD (d - 7) undef, by kernel_rfl, W6, B4, B6, hv, hv2⟩ ?_
    clear B4 B6 hv hv2
    rintro nn7 _ w7 ⟨i, hnn7, hinv, tt7, rfl, W7, B4, B6, hv, hv2⟩
    refine wp_seq ?_
    refine rg (fun c d v a w h => NL c d v a w h) [(17, .eq (.bool (decide ((((i : Nat) : Int) : Int) < (((n : Nat) : Int) : Int)))))] [] [] [] 46 1 ?_ ?_
    · exact so [] (fun w8 hw8 => .fin (yld_lss rfl rfl rfl ⟨Grow.refl _, rfl⟩)) (.nil _ _)
    rintro w8 hw8 _ rfl -
    have W8 : Grow w w8 := W7.trans hw8
    have z8 : w7.heap.size ≤ w8.heap.size := hw8.size
    replace B4 := B4.grow hw8
    replace B6 := B6.grow hw8
    replace hv := MR.mono _ hw8 hv
    replace hv2 := MR.mono _ hw8 hv2
    refine fr (va :: vb :: u :: u :: pt b4 :: .bool (false) :: pt b6 :: (tt7 7) :: v8 :: v9 :: v10 :: v11 :: .bool ((((n : Nat) : Int) : Int) != (((m : Nat) : Int) : Int)) :: u :: v14 :: It n :: It i :: .bool (decide ((((i : Nat) : Int) : Int) < (((n : Nat) : Int) : Int))) :: (tt7 18) :: (tt7 19) :: (tt7 20) :: (tt7 21) :: (tt7 22) :: (tt7 23) :: (tt7 24) :: (tt7 25) :: (tt7 26) :: (tt7 27) :: (tt7 28) :: (tt7 29) :: (tt7 30) :: (tt7 31) :: (tt7 32) :: (tt7 33) :: (tt7 34) :: (tt7 35) :: (tt7 36) :: (tt7 37) :: (tt7 38) :: (tt7 39) :: (tt7 40) :: (tt7 41) :: (tt7 42) :: (tt7 43) :: (tt7 44) :: u :: []) ?_
    refine nx ?_
    refine wp_seq ?_
    refine wp_cond_split (t := decide ((((i : Nat) : Int) : Int) < (((n : Nat) : Int) : Int))) rfl (fun hc => ?_) (fun hc => ?_)
    · have hlt : i < n := by have := of_decide_eq_true hc; omega
      refine wp_skip ?_
      change Code.wp _ _ _ ⟨_, []⟩ _
      refine wp_seq ?_
      refine wp_block ?_
      refine wp_seq ?_
      refine rg (fun c d v a w h => NL c d v a w h) [(18, .eq (.int .i64 (((i : Nat) : Int)))), (7, .eq (.int .i64 (((i : Nat) : Int))))] [] [] [] 46 2 ?_ ?_
      · refine so [] (fun w9 hw9 => .fin (yld_move rfl ⟨Grow.refl _, rfl⟩)) ?_
        exact so [0] (fun w9 hw9 => by rintro _ rfl; exact .fin (yld_assign rfl ⟨Grow.refl _, rfl⟩)) (.nil _ _)
      rintro w9 hw9 v18 - _ rfl -
      have W9 : Grow w w9 := W8.trans hw9
      have z9 : w8.heap.size ≤ w9.heap.size := hw9.size
      replace B4 := B4.grow hw9
      replace B6 := B6.grow hw9
      replace hv := MR.mono _ hw9 hv
      replace hv2 := MR.mono _ hw9 hv2
      refine fr (va :: vb :: u :: u :: pt b4 :: .bool (false) :: pt b6 :: It i :: v8 :: v9 :: v10 :: v11 :: .bool ((((n : Nat) : Int) : Int) != (((m : Nat) : Int) : Int)) :: u :: v14 :: It n :: It i :: .bool (decide ((((i : Nat) : Int) : Int) < (((n : Nat) : Int) : Int))) :: v18 :: (tt7 19) :: (tt7 20) :: (tt7 21) :: (tt7 22) :: (tt7 23) :: (tt7 24) :: (tt7 25) :: (tt7 26) :: (tt7 27) :: (tt7 28) :: (tt7 29) :: (tt7 30) :: (tt7 31) :: (tt7 32) :: (tt7 33) :: (tt7 34) :: (tt7 35) :: (tt7 36) :: (tt7 37) :: (tt7 38) :: (tt7 39) :: (tt7 40) :: (tt7 41) :: (tt7 42) :: (tt7 43) :: (tt7 44) :: u :: []) ?_
      refine nx ?_
      refine wp_seq ?_
      obtain ⟨x11, ex11⟩ : ∃ c : Bool, c = (decide ((a i) = 0)) := ⟨_, rfl⟩
      obtain ⟨x12, ex12⟩ : ∃ c : Bool, c = (!x11) := ⟨_, rfl⟩
      obtain ⟨x13, ex13⟩ : ∃ c : Bool, c = (decide ((b i) = 0)) := ⟨_, rfl⟩
      obtain ⟨x14, ex14⟩ : ∃ c : Bool, c = (!x13) := ⟨_, rfl⟩
      obtain ⟨x15, ex15⟩ : ∃ c : Bool, c = ((x12 && x14)) := ⟨_, rfl⟩
      refine rg (fun c d v a w h => NL c d v a w h) ((19, .vec (fun k => w.heap.size ≤ k) (a) (n)) :: (20, .eq (.int .i64 (((i : Nat) : Int)))) :: (21, .eptr (fun k => w.heap.size ≤ k) 3 (.rat (a i))) :: (22, .rat (a i)) :: (23, .eq (.bool (x11))) :: (24, .eq (.bool (x12))) :: (25, .eq (.bool (x12))) :: (26, .opt ((x12 == true)) (.vec (fun k => w.heap.size ≤ k) (b) (m))) :: (27, .opt ((x12 == true)) (.eq (.int .i64 (((i : Nat) : Int))))) :: (28, .opt ((x12 == true)) (.eptr (fun k => w.heap.size ≤ k) 3 (.rat (b i)))) :: (29, .opt ((x12 == true)) (.rat (b i))) :: (30, .opt ((x12 == true)) (.eq (.bool (x13)))) :: (31, .opt ((x12 == true)) (.eq (.bool (x14)))) :: (32, .eq (.bool (x15))) :: []) [] [] [] 46 14 ?_ ?_
      · refine so [] (fun w10 hw10 => .fin (yld_move rfl ⟨Grow.refl _, (MR.mono _ hw10 hv)⟩)) ?_
        refine so [] (fun w10 hw10 => .fin (yld_move rfl ⟨Grow.refl _, rfl⟩)) ?_
        refine soP [(19, .vec (fun k => w.heap.size ≤ k) (a) (n)), (20, .eq (.int .i64 (((i : Nat) : Int))))] (fun w10 hw10 => by rintro v19 h19 _ rfl; exact .fin (yld_indexV (k := i) Try.underlying25 rfl h19 rfl rfl (hlt))) ?_
        refine soP [(21, .eptr (fun k => w.heap.size ≤ k) 3 (.rat (a i)))] (fun w10 hw10 => by rintro v21 h21; exact .fin (yld_loadQ rfl h21)) ?_
        refine so [3] (fun w10 hw10 => by rintro v22 h22; exact .fin (yld_eqTo (c := .bool (decide ((a i) = 0))) (yld_call rfl cal_rat_Rat_Zero rfl (cRatZero h22)) (congrArg Value.bool ex11.symm))) ?_
        refine so [4] (fun w10 hw10 => by rintro _ rfl; exact .fin (yld_eqTo (c := .bool (!x11)) (yld_not rfl rfl ⟨Grow.refl _, rfl⟩) (congrArg Value.bool ex12.symm))) ?_
        refine so [5] (fun w10 hw10 => by rintro _ rfl; exact .fin (yld_move rfl ⟨Grow.refl _, rfl⟩)) ?_
        refine sg (c := (x12 == true)) 25 [6] (fun w10 hw10 => by rintro _ rfl; exact .fin (⟨guard_eq, fun hc => yld_move rfl ⟨Grow.refl _, (MR.mono _ hw10 hv2)⟩⟩)) ?_
        refine sg (c := (x12 == true)) 25 [6] (fun w10 hw10 => by rintro _ rfl; exact .fin (⟨guard_eq, fun hc => yld_move rfl ⟨Grow.refl _, rfl⟩⟩)) ?_
        refine sgP (c := (x12 == true)) 25 [(25, .eq (.bool (x12))), (26, .opt ((x12 == true)) (.vec (fun k => w.heap.size ≤ k) (b) (m))), (27, .opt ((x12 == true)) (.eq (.int .i64 (((i : Nat) : Int)))))] (fun w10 hw10 => by rintro _ rfl v26 h26 v27 h27; exact .fin (⟨guard_eq, fun hc => yld_indexV (k := i) Try.underlying25 rfl (h26.1 (by revert hc; exact fun h => h)) (show v27 = .int .i64 (((i : Nat) : Int)) from (h27.1 (by revert hc; exact fun h => h))) rfl ((by omega))⟩)) ?_
        refine sgP (c := (x12 == true)) 25 [(25, .eq (.bool (x12))), (28, .opt ((x12 == true)) (.eptr (fun k => w.heap.size ≤ k) 3 (.rat (b i))))] (fun w10 hw10 => by rintro _ rfl v28 h28; exact .fin (⟨guard_eq, fun hc => yld_loadQ rfl (h28.1 (by revert hc; exact fun h => h))⟩)) ?_
        refine sg (c := (x12 == true)) 25 [6, 10] (fun w10 hw10 => by rintro _ rfl v29 h29; exact .fin (⟨guard_eq, fun hc => yld_eqTo (c := .bool (decide ((b i) = 0))) (yld_call rfl cal_rat_Rat_Zero rfl (cRatZero (h29.1 (by revert hc; exact fun h => h)))) (congrArg Value.bool ex13.symm)⟩)) ?_
        refine sg (c := (x12 == true)) 25 [6, 11] (fun w10 hw10 => by rintro _ rfl v30 h30; exact .fin (⟨guard_eq, fun hc => yld_eqTo (c := .bool (!x13)) (yld_not rfl (show v30 = .bool (x13) from (h30.1 (by revert hc; exact fun h => h))) ⟨Grow.refl _, rfl⟩) (congrArg Value.bool ex14.symm)⟩)) ?_
        exact so [6, 12] (fun w10 hw10 => by rintro _ rfl v31 h31; exact .fin (yld_eqTo (c := .bool ((x12 && x14))) (yld_pick_and rfl rfl (fun ht => h31.1 (by revert ht; cases x12 <;> decide)) rfl ⟨Grow.refl _, rfl⟩) (congrArg Value.bool ex15.symm))) (.nil _ _)
      rintro w10 hw10 v19 - v20 - v21 - v22 - _ rfl _ rfl _ rfl v26 - v27 - v28 - v29 - v30 - v31 - _ rfl -
      have W10 : Grow w w10 := W9.trans hw10
      have z10 : w9.heap.size ≤ w10.heap.size := hw10.size
      replace B4 := B4.grow hw10
      replace B6 := B6.grow hw10
      replace hv := MR.mono _ hw10 hv
      replace hv2 := MR.mono _ hw10 hv2
      subst ex11
      subst ex12
      subst ex13
      subst ex14
      subst ex15
      refine fr (va :: vb :: u :: u :: pt b4 :: .bool (false) :: pt b6 :: It i :: v8 :: v9 :: v10 :: v11 :: .bool ((((n : Nat) : Int) : Int) != (((m : Nat) : Int) : Int)) :: u :: v14 :: It n :: It i :: .bool (decide ((((i : Nat) : Int) : Int) < (((n : Nat) : Int) : Int))) :: v18 :: v19 :: v20 :: v21 :: v22 :: .bool ((decide ((a i) = 0))) :: .bool ((!(decide ((a i) = 0)))) :: .bool ((!(decide ((a i) = 0)))) :: v26 :: v27 :: v28 :: v29 :: v30 :: v31 :: .bool ((((!(decide ((a i) = 0))) && (!(decide ((b i) = 0)))))) :: (tt7 33) :: (tt7 34) :: (tt7 35) :: (tt7 36) :: (tt7 37) :: (tt7 38) :: (tt7 39) :: (tt7 40) :: (tt7 41) :: (tt7 42) :: (tt7 43) :: (tt7 44) :: u :: []) ?_
      refine nx ?_
      refine wp_cond_split (t := (((!(decide ((a i) = 0))) && (!(decide ((b i) = 0)))))) rfl (fun hnz => ?_) (fun hnz => ?_)
      · refine rg (fun c d v a w h => NL c d v a w h) [(33, .rat (dotQ a b i)), (34, .vec (fun k => w.heap.size ≤ k) (a) (n)), (35, .eq (.int .i64 (((i : Nat) : Int)))), (36, .eptr (fun k => w.heap.size ≤ k) 3 (.rat (a i))), (37, .rat (a i)), (38, .vec (fun k => w.heap.size ≤ k) (b) (m)), (39, .eq (.int .i64 (((i : Nat) : Int)))), (40, .eptr (fun k => w.heap.size ≤ k) 3 (.rat (b i))), (41, .rat (b i)), (42, .rat ((a i) * (b i))), (43, .rat ((dotQ a b i) + ((a i) * (b i))))] [] [] [] 46 11 ?_ ?_
        · refine so [] (fun w16 hw16 => .fin (yld_loadBox rfl rfl aggRat (B6.grow hw16) (shRat _))) ?_
          refine so [] (fun w16 hw16 => .fin (yld_move rfl ⟨Grow.refl _, (MR.mono _ hw16 hv)⟩)) ?_
          refine so [] (fun w16 hw16 => .fin (yld_move rfl ⟨Grow.refl _, rfl⟩)) ?_
          refine soP [(34, .vec (fun k => w.heap.size ≤ k) (a) (n)), (35, .eq (.int .i64 (((i : Nat) : Int))))] (fun w16 hw16 => by rintro v34 h34 _ rfl; exact .fin (yld_indexV (k := i) Try.underlying25 rfl h34 rfl rfl (hlt))) ?_
          refine soP [(36, .eptr (fun k => w.heap.size ≤ k) 3 (.rat (a i)))] (fun w16 hw16 => by rintro v36 h36; exact .fin (yld_loadQ rfl h36)) ?_
          refine so [] (fun w16 hw16 => .fin (yld_move rfl ⟨Grow.refl _, (MR.mono _ hw16 hv2)⟩)) ?_
          refine so [] (fun w16 hw16 => .fin (yld_move rfl ⟨Grow.refl _, rfl⟩)) ?_
          refine soP [(38, .vec (fun k => w.heap.size ≤ k) (b) (m)), (39, .eq (.int .i64 (((i : Nat) : Int))))] (fun w16 hw16 => by rintro v38 h38 _ rfl; exact .fin (yld_indexV (k := i) Try.underlying25 rfl h38 rfl rfl ((by omega)))) ?_
          refine soP [(40, .eptr (fun k => w.heap.size ≤ k) 3 (.rat (b i)))] (fun w16 hw16 => by rintro v40 h40; exact .fin (yld_loadQ rfl h40)) ?_
          refine so [4, 8] (fun w16 hw16 => by rintro v37 h37 v41 h41; exact .fin (yld_call rfl cal_rat_Mul rfl (cRatMul h37 h41 (hs i hlt (by omega)).1))) ?_
          exact so [0, 9] (fun w16 hw16 => by rintro v33 h33 v42 h42; exact .fin (yld_call rfl cal_rat_Add rfl (cRatAdd h33 h42 (hs i hlt (by omega)).2))) (.nil _ _)
        rintro w16 hw16 v33 - v34 - v35 - v36 - v37 - v38 - v39 - v40 - v41 - v42 - v43 h43 -
        have W16 : Grow w w16 := W10.trans hw16
        have z16 : w10.heap.size ≤ w16.heap.size := hw16.size
        replace B4 := B4.grow hw16
        replace B6 := B6.grow hw16
        replace hv := MR.mono _ hw16 hv
        replace hv2 := MR.mono _ hw16 hv2
        have KK : Kept [] w16 w16 := fun _ _ => rfl
        refine fr (va :: vb :: u :: u :: pt b4 :: .bool (false) :: pt b6 :: It i :: v8 :: v9 :: v10 :: v11 :: .bool ((((n : Nat) : Int) : Int) != (((m : Nat) : Int) : Int)) :: u :: v14 :: It n :: It i :: .bool (decide ((((i : Nat) : Int) : Int) < (((n : Nat) : Int) : Int))) :: v18 :: v19 :: v20 :: v21 :: v22 :: .bool ((decide ((a i) = 0))) :: .bool ((!(decide ((a i) = 0)))) :: .bool ((!(decide ((a i) = 0)))) :: v26 :: v27 :: v28 :: v29 :: v30 :: v31 :: .bool ((((!(decide ((a i) = 0))) && (!(decide ((b i) = 0)))))) :: v33 :: v34 :: v35 :: v36 :: v37 :: v38 :: v39 :: v40 :: v41 :: v42 :: v43 :: (tt7 44) :: u :: []) ?_
        change wpListS _ _ _ _ [_] ⟨_, []⟩ _
        refine wpListS_yld rfl ?_
        refine yld_storeBox (R' := .rat ((dotQ a b i) + ((a i) * (b i)))) (b := b6) rfl rfl aggRat.size B6 (shRat _) h43 (shRat _) (St.rat _) (by decide) g_b6 fun w17 P17 E17 B' => ⟨fun _ => Kept.put KK P17 (fun _ hk => (by cases hk)), ?_⟩
        replace KK := Kept.put KK P17 (fun _ hk => (by cases hk))
        have W17 : Grow w w17 := W16.put P17 g_b6
        have z17 : w16.heap.size ≤ w17.heap.size := Nat.le_of_eq P17.size.symm
        replace hv := StF.vec (Put.extB P17 B6 (by decide) g_b6) hv
        replace hv2 := StF.vec (Put.extB P17 B6 (by decide) g_b6) hv2
        replace B4 := B4.put (St.rat _) P17 E17 n_b4_b6
        replace B6 := B'; clear B'
        refine wpListS_nil ?_
        change Code.wp _ _ _ ⟨_, []⟩ _
        refine rg (fun c d v a w h => NL c d v a w h) [(44, .eq (.int .i64 (((i + 1 : Nat) : Int))))] [] [] [] 46 1 ?_ ?_
        · exact so [] (fun w18 hw18 => .fin (yld_add rfl rfl rfl (r := ((i + 1 : Nat) : Int)) (by rw [IntKind.wrap_i64]; omega) ⟨Grow.refl _, rfl⟩)) (.nil _ _)
        rintro w18 hw18 _ rfl -
        have W18 : Grow w w18 := W17.trans hw18
        have z18 : w17.heap.size ≤ w18.heap.size := hw18.size
        replace B4 := B4.grow hw18
        replace B6 := B6.grow hw18
        replace hv := MR.mono _ hw18 hv
        replace hv2 := MR.mono _ hw18 hv2
        have KK : Kept [] w18 w18 := fun _ _ => rfl
        refine fr (va :: vb :: u :: u :: pt b4 :: .bool (false) :: pt b6 :: It i :: v8 :: v9 :: v10 :: v11 :: .bool ((((n : Nat) : Int) : Int) != (((m : Nat) : Int) : Int)) :: u :: v14 :: It n :: It i :: .bool (decide ((((i : Nat) : Int) : Int) < (((n : Nat) : Int) : Int))) :: v18 :: v19 :: v20 :: v21 :: v22 :: .bool ((decide ((a i) = 0))) :: .bool ((!(decide ((a i) = 0)))) :: .bool ((!(decide ((a i) = 0)))) :: v26 :: v27 :: v28 :: v29 :: v30 :: v31 :: .bool ((((!(decide ((a i) = 0))) && (!(decide ((b i) = 0)))))) :: v33 :: v34 :: v35 :: v36 :: v37 :: v38 :: v39 :: v40 :: v41 :: v42 :: v43 :: It (i + 1) :: u :: []) ?_
        change wpListS _ _ _ _ [_] ⟨_, []⟩ _
        refine wpListS_yld rfl ?_
        refine yld_move rfl ⟨fun _ => KK, ?_⟩
        refine wpListS_nil ?_
        refine ⟨_, ?_, i + 1, rfl, (by omega), fun d => ((It i :: v8 :: v9 :: v10 :: v11 :: .bool ((((n : Nat) : Int) : Int) != (((m : Nat) : Int) : Int)) :: u :: v14 :: It n :: It (i + 1) :: .bool (decide ((((i : Nat) : Int) : Int) < (((n : Nat) : Int) : Int))) :: v18 :: v19 :: v20 :: v21 :: v22 :: .bool ((decide ((a i) = 0))) :: .bool ((!(decide ((a i) = 0)))) :: .bool ((!(decide ((a i) = 0)))) :: v26 :: v27 :: v28 :: v29 :: v30 :: v31 :: .bool ((((!(decide ((a i) = 0))) && (!(decide ((b i) = 0)))))) :: v33 :: v34 :: v35 :: v36 :: v37 :: v38 :: v39 :: v40 :: v41 :: v42 :: v43 :: It (i + 1) :: []) : List Value).getD (d - 7) undef, by kernel_rfl, W18, B4, (by first | exact B6 | exact dot_skip hnz ▸ B6), hv, hv2⟩
        rw [hnn7]; omega
      · refine wp_skip ?_
        change Code.wp _ _ _ ⟨_, []⟩ _
        refine rg (fun c d v a w h => NL c d v a w h) [(44, .eq (.int .i64 (((i + 1 : Nat) : Int))))] [] [] [] 46 1 ?_ ?_
        · exact so [] (fun w19 hw19 => .fin (yld_add rfl rfl rfl (r := ((i + 1 : Nat) : Int)) (by rw [IntKind.wrap_i64]; omega) ⟨Grow.refl _, rfl⟩)) (.nil _ _)
        rintro w19 hw19 _ rfl -
        have W19 : Grow w w19 := W10.trans hw19
        have z19 : w10.heap.size ≤ w19.heap.size := hw19.size
        replace B4 := B4.grow hw19
        replace B6 := B6.grow hw19
        replace hv := MR.mono _ hw19 hv
        replace hv2 := MR.mono _ hw19 hv2
        have KK : Kept [] w19 w19 := fun _ _ => rfl
        refine fr (va :: vb :: u :: u :: pt b4 :: .bool (false) :: pt b6 :: It i :: v8 :: v9 :: v10 :: v11 :: .bool ((((n : Nat) : Int) : Int) != (((m : Nat) : Int) : Int)) :: u :: v14 :: It n :: It i :: .bool (decide ((((i : Nat) : Int) : Int) < (((n : Nat) : Int) : Int))) :: v18 :: v19 :: v20 :: v21 :: v22 :: .bool ((decide ((a i) = 0))) :: .bool ((!(decide ((a i) = 0)))) :: .bool ((!(decide ((a i) = 0)))) :: v26 :: v27 :: v28 :: v29 :: v30 :: v31 :: .bool ((((!(decide ((a i) = 0))) && (!(decide ((b i) = 0)))))) :: (tt7 33) :: (tt7 34) :: (tt7 35) :: (tt7 36) :: (tt7 37) :: (tt7 38) :: (tt7 39) :: (tt7 40) :: (tt7 41) :: (tt7 42) :: (tt7 43) :: It (i + 1) :: u :: []) ?_
        change wpListS _ _ _ _ [_] ⟨_, []⟩ _
        refine wpListS_yld rfl ?_
        refine yld_move rfl ⟨fun _ => KK, ?_⟩
        refine wpListS_nil ?_
        refine ⟨_, ?_, i + 1, rfl, (by omega), fun d => ((It i :: v8 :: v9 :: v10 :: v11 :: .bool ((((n : Nat) : Int) : Int) != (((m : Nat) : Int) : Int)) :: u :: v14 :: It n :: It (i + 1) :: .bool (decide ((((i : Nat) : Int) : Int) < (((n : Nat) : Int) : Int))) :: v18 :: v19 :: v20 :: v21 :: v22 :: .bool ((decide ((a i) = 0))) :: .bool ((!(decide ((a i) = 0)))) :: .bool ((!(decide ((a i) = 0)))) :: v26 :: v27 :: v28 :: v29 :: v30 :: v31 :: .bool ((((!(decide ((a i) = 0))) && (!(decide ((b i) = 0)))))) :: (tt7 33) :: (tt7 34) :: (tt7 35) :: (tt7 36) :: (tt7 37) :: (tt7 38) :: (tt7 39) :: (tt7 40) :: (tt7 41) :: (tt7 42) :: (tt7 43) :: It (i + 1) :: []) : List Value).getD (d - 7) undef, by kernel_rfl, W19, B4, (by first | exact B6 | exact dot_skip hnz ▸ B6), hv, hv2⟩
        rw [hnn7]; omega
    · have hin : i = n := by have := of_decide_eq_false hc; omega
      refine wp_exit ?_
      change Code.wp _ _ _ ⟨_, []⟩ _
      refine wp_seq ?_
      refine rg (fun c d v a w h => NL c d v a w h) [(45, .rat (dotQ a b i))] [] [] [] 46 1 ?_ ?_
      · exact so [] (fun w20 hw20 => .fin (yld_loadBox rfl rfl aggRat (B6.grow hw20) (shRat _))) (.nil _ _)
      rintro w20 hw20 v45 h45 -
      have W20 : Grow w w20 := W8.trans hw20
      have z20 : w8.heap.size ≤ w20.heap.size := hw20.size
      replace B4 := B4.grow hw20
      replace hv := MR.mono _ hw20 hv
      replace hv2 := MR.mono _ hw20 hv2
      have KK : Kept [] w20 w20 := fun _ _ => rfl
      refine fr (va :: vb :: u :: u :: pt b4 :: .bool (false) :: pt b6 :: (tt7 7) :: v8 :: v9 :: v10 :: v11 :: .bool ((((n : Nat) : Int) : Int) != (((m : Nat) : Int) : Int)) :: u :: v14 :: It n :: It i :: .bool (decide ((((i : Nat) : Int) : Int) < (((n : Nat) : Int) : Int))) :: (tt7 18) :: (tt7 19) :: (tt7 20) :: (tt7 21) :: (tt7 22) :: (tt7 23) :: (tt7 24) :: (tt7 25) :: (tt7 26) :: (tt7 27) :: (tt7 28) :: (tt7 29) :: (tt7 30) :: (tt7 31) :: (tt7 32) :: (tt7 33) :: (tt7 34) :: (tt7 35) :: (tt7 36) :: (tt7 37) :: (tt7 38) :: (tt7 39) :: (tt7 40) :: (tt7 41) :: (tt7 42) :: (tt7 43) :: (tt7 44) :: v45 :: []) ?_
      change wpListS _ _ _ _ [_, _] ⟨_, []⟩ _
      refine wpListS_yld rfl ?_
      refine yld_storeBox (R' := .rat (dotQ a b i)) (b := b4) rfl rfl aggRat.size B4 (shRat _) h45 (shRat _) (St.rat _) (by decide) g_b4 fun w21 P21 E21 B' => ⟨fun _ => Kept.put KK P21 (fun _ hk => (by cases hk)), ?_⟩
      replace KK := Kept.put KK P21 (fun _ hk => (by cases hk))
      have W21 : Grow w w21 := W20.put P21 g_b4
      have z21 : w20.heap.size ≤ w21.heap.size := Nat.le_of_eq P21.size.symm
      replace hv := StF.vec (Put.extB P21 B4 (by decide) g_b4) hv
      replace hv2 := StF.vec (Put.extB P21 B4 (by decide) g_b4) hv2
      replace B4 := B'; clear B'
      change wpListS _ _ _ _ [_] ⟨_, []⟩ _
      refine wpListS_yld rfl ?_
      refine yld_assign rfl ⟨fun _ => KK, ?_⟩
      refine wpListS_nil ?_
      change Code.wp _ _ _ ⟨List.toArray (List.set _ 5 _), []⟩ _
      have BR : Box w21 b4 35 (.rat (if n = m then dotQ a b n else 0)) := (by have e : (dotQ a b i : Rat) = if n = m then dotQ a b n else 0 := (by first | (exact (decide_eq_false (by simp at hd; omega)).symm) | exact (decide_eq_true hnm).symm | (rw [if_neg (by simp at hd; omega)]; done) | (rw [if_pos hnm, hin]; done)); rw [← e]; exact B4)
      refine wp_ret ?_
      change bodyPost Try.prog Try.f22 (Ret (.tup2 (.rat (if n = m then dotQ a b n else 0)) (.eq (.bool (decide (n = m))))) w) .ret _ _
      exact body_cell_slot (b := b4) rfl rfl aggRat BR (shRat _) (by show Value.bool _ = Value.bool _; rw [show (true) = (decide (n = m)) from (by first | (exact (decide_eq_false (by simp at hd; omega)).symm) | exact (decide_eq_true hnm).symm | (rw [if_neg (by simp at hd; omega)]; done) | (rw [if_pos hnm, hin]; done))]) rfl W21
set_option maxRecDepth 100000 in
set_option maxHeartbeats 2000000 in
theorem cVecAdd {B : Nat} {F : Nat → Prop} {a b : Nat → Rat} {n m : Nat} {va : Value} {vb : Value} {w : World} (hB : B ≤ w.heap.size) (hF : ∀ k, F k → k < w.heap.size) (hv : (MR.vec (fun _ => False) (a) (n)).R w va) (hv2 : (MR.vec (fun _ => False) (b) (m)).R w vb) (hn : n ≤ 68719476736) (hs : ∀ i, i < n → i < m → szq (((1 : Int) : Rat)) + szq (b i) ≤ 17179869184 ∧ szq (a i) + szq (((1 : Int) : Rat) * b i) ≤ 17179869184) : Calls Try.prog 26 #[va, vb] w (Ret (.tup2 (.ownv (B) (fun k => F k) (fun i => a i + b i) (if n = m then n else 0)) (.eq (.bool (decide (n = m))))) w) := by
  have _ := 1
  have _ := 1
  refine calls_enter (a := ⟨List.toArray ([va, vb] ++ us 10), []⟩) Try.func26 rfl (by kernel_rfl) ?_
  have NL : NoLook (bodyPost Try.prog Try.f26 (Ret (.tup2 (.ownv (B) (fun k => F k) (fun i => a i + b i) (if n = m then n else 0)) (.eq (.bool (decide (n = m))))) w)) := noLook_body
  refine wp_seq ?_
  refine rg (fun c d v a w h => NL c d v a w h) [(4, .eq (.slice none 0 0)), (5, .eq (.bool (false)))] [] [] [] 12 2 ?_ ?_
  · refine so [] (fun w1 hw1 => .fin (yld_assign rfl ⟨Grow.refl _, rfl⟩)) ?_
    exact so [] (fun w1 hw1 => .fin (yld_assign rfl ⟨Grow.refl _, rfl⟩)) (.nil _ _)
  rintro w1 hw1 _ rfl _ rfl -
  have W1 : Grow w w1 := (Grow.refl w).trans hw1
  have z1 : w.heap.size ≤ w1.heap.size := hw1.size
  replace hv := MR.mono _ hw1 hv
  replace hv2 := MR.mono _ hw1 hv2
  refine fr ([va, vb, u, u, .slice none 0 0, .bool (false)] ++ us 6) ?_
  refine nx ?_
  refine wp_seq ?_
  refine rg (fun c d v a w h => NL c d v a w h) [(6, .vec (fun _ => False) (a) (n)), (7, .rat (((1 : Int) : Rat))), (8, .vec (fun _ => False) (b) (m)), (9, .tup2 (.ownv (w.heap.size) (fun k => F k) (fun i => a i + (((1 : Int) : Rat)) * b i) (if n = m then n else 0)) (.eq (.bool (decide (n = m))))), (10, .ownv (w.heap.size) (fun k => F k) (fun i => a i + (((1 : Int) : Rat)) * b i) (if n = m then n else 0)), (11, .eq (.bool (decide (n = m)))), (4, .ownv (w.heap.size) (fun k => F k) (fun i => a i + (((1 : Int) : Rat)) * b i) (if n = m then n else 0)), (5, .eq (.bool (decide (n = m))))] [] [] [] 12 8 ?_ ?_
  · refine so [] (fun w2 hw2 => .fin (yld_move rfl ⟨Grow.refl _, (MR.mono _ hw2 hv)⟩)) ?_
    refine so [] (fun w2 hw2 => .fin (yld_call rfl cal_rat_Int rfl (cRatInt (x := 1) (by omega) (by omega)))) ?_
    refine so [] (fun w2 hw2 => .fin (yld_move rfl ⟨Grow.refl _, (MR.mono _ hw2 hv2)⟩)) ?_
    refine soP [(6, .vec (fun _ => False) (a) (n)), (7, .rat (((1 : Int) : Rat))), (8, .vec (fun _ => False) (b) (m))] (fun w2 hw2 => by rintro v6 h6 v7 h7 v8 h8; exact .fin (yld_call rfl cal_vec_AddTimes rfl (cAddTimes (B := w.heap.size) (F := fun k => F k) (Grow.trans W1 hw2).size (fun k hk => (fun h => Nat.lt_of_lt_of_le (hF k h) (Grow.trans W1 hw2).size) hk) (vec0 h6) h7 (vec0 h8) (hn) hs))) ?_
    refine soP [(9, .tup2 (.ownv (w.heap.size) (fun k => F k) (fun i => a i + (((1 : Int) : Rat)) * b i) (if n = m then n else 0)) (.eq (.bool (decide (n = m)))))] (fun w2 hw2 => by rintro _ ⟨x9_0, x9_1, rfl, hx9_0, hx9_1⟩; exact .fin (yld_extract rfl rfl rfl ⟨Grow.refl _, hx9_0⟩)) ?_
    refine soP [(9, .tup2 (.ownv (w.heap.size) (fun k => F k) (fun i => a i + (((1 : Int) : Rat)) * b i) (if n = m then n else 0)) (.eq (.bool (decide (n = m)))))] (fun w2 hw2 => by rintro _ ⟨x9_0, x9_1, rfl, hx9_0, hx9_1⟩; exact .fin (yld_extract rfl rfl rfl ⟨Grow.refl _, hx9_1⟩)) ?_
    refine soP [(10, .ownv (w.heap.size) (fun k => F k) (fun i => a i + (((1 : Int) : Rat)) * b i) (if n = m then n else 0))] (fun w2 hw2 => by rintro v10 h10; exact .fin (yld_assign rfl ⟨Grow.refl _, h10⟩)) ?_
    exact so [5] (fun w2 hw2 => by rintro _ rfl; exact .fin (yld_assign rfl ⟨Grow.refl _, rfl⟩)) (.nil _ _)
  rintro w2 hw2 v6 - v7 - v8 - v9 - v10 - v11 - v4 h4 _ rfl -
  have W2 : Grow w w2 := W1.trans hw2
  have z2 : w1.heap.size ≤ w2.heap.size := hw2.size
  replace h4 := ownv_own (F' := fun k => (F k) ∨ w2.heap.size ≤ k) h4 (fun k hk => hk)
  replace hv := MR.mono _ hw2 hv
  replace hv2 := MR.mono _ hw2 hv2
  refine fr (va :: vb :: u :: u :: v4 :: .bool (decide (n = m)) :: v6 :: v7 :: v8 :: v9 :: v10 :: v11 :: []) ?_
  refine nx ?_
  refine wp_ret ?_
  change bodyPost Try.prog Try.f26 (Ret (.tup2 (.ownv (B) (fun k => F k) (fun i => a i + b i) (if n = m then n else 0)) (.eq (.bool (decide (n = m))))) w) .ret _ _
  exact body_slot2 rfl (ownv_cast h4 hB (fun k hk => (Or.inl hk)) (fun i hi => by show _ + _ * _ = _; (first | rw [show ((1 : Int) : Rat) = 1 from rfl] | rw [show ((-1 : Int) : Rat) = -1 from rfl]); grind)) rfl rfl W2
set_option maxRecDepth 100000 in
set_option maxHeartbeats 2000000 in
theorem cVecSub {B : Nat} {F : Nat → Prop} {a b : Nat → Rat} {n m : Nat} {va : Value} {vb : Value} {w : World} (hB : B ≤ w.heap.size) (hF : ∀ k, F k → k < w.heap.size) (hv : (MR.vec (fun _ => False) (a) (n)).R w va) (hv2 : (MR.vec (fun _ => False) (b) (m)).R w vb) (hn : n ≤ 68719476736) (hs : ∀ i, i < n → i < m → szq (((-1 : Int) : Rat)) + szq (b i) ≤ 17179869184 ∧ szq (a i) + szq (((-1 : Int) : Rat) * b i) ≤ 17179869184) : Calls Try.prog 27 #[va, vb] w (Ret (.tup2 (.ownv (B) (fun k => F k) (fun i => a i - b i) (if n = m then n else 0)) (.eq (.bool (decide (n = m))))) w) := by
  refine calls_enter (a := ⟨List.toArray ([va, vb] ++ us 10), []⟩) Try.func27 rfl (by kernel_rfl) ?_
  have NL : NoLook (bodyPost Try.prog Try.f27 (Ret (.tup2 (.ownv (B) (fun k => F k) (fun i => a i - b i) (if n = m then n else 0)) (.eq (.bool (decide (n = m))))) w)) := noLook_body
  refine wp_seq ?_
  refine rg (fun c d v a w h => NL c d v a w h) [(4, .eq (.slice none 0 0)), (5, .eq (.bool (false)))] [] [] [] 12 2 ?_ ?_
  · refine so [] (fun w1 hw1 => .fin (yld_assign rfl ⟨Grow.refl _, rfl⟩)) ?_
    exact so [] (fun w1 hw1 => .fin (yld_assign rfl ⟨Grow.refl _, rfl⟩)) (.nil _ _)
  rintro w1 hw1 _ rfl _ rfl -
  have W1 : Grow w w1 := (Grow.refl w).trans hw1
  have z1 : w.heap.size ≤ w1.heap.size := hw1.size
  replace hv := MR.mono _ hw1 hv
  replace hv2 := MR.mono _ hw1 hv2
  refine fr ([va, vb, u, u, .slice none 0 0, .bool (false)] ++ us 6) ?_
  refine nx ?_
  refine wp_seq ?_
  refine rg (fun c d v a w h => NL c d v a w h) [(6, .vec (fun _ => False) (a) (n)), (7, .rat (((-1 : Int) : Rat))), (8, .vec (fun _ => False) (b) (m)), (9, .tup2 (.ownv (w.heap.size) (fun k => F k) (fun i => a i + (((-1 : Int) : Rat)) * b i) (if n = m then n else 0)) (.eq (.bool (decide (n = m))))), (10, .ownv (w.heap.size) (fun k => F k) (fun i => a i + (((-1 : Int) : Rat)) * b i) (if n = m then n else 0)), (11, .eq (.bool (decide (n = m)))), (4, .ownv (w.heap.size) (fun k => F k) (fun i => a i + (((-1 : Int) : Rat)) * b i) (if n = m then n else 0)), (5, .eq (.bool (decide (n = m))))] [] [] [] 12 8 ?_ ?_
  · refine so [] (fun w2 hw2 => .fin (yld_move rfl ⟨Grow.refl _, (MR.mono _ hw2 hv)⟩)) ?_
    refine so [] (fun w2 hw2 => .fin (yld_call rfl cal_rat_Int rfl (cRatInt (x := -1) (by omega) (by omega)))) ?_
    refine so [] (fun w2 hw2 => .fin (yld_move rfl ⟨Grow.refl _, (MR.mono _ hw2 hv2)⟩)) ?_
    refine soP [(6, .vec (fun _ => False) (a) (n)), (7, .rat (((-1 : Int) : Rat))), (8, .vec (fun _ => False) (b) (m))] (fun w2 hw2 => by rintro v6 h6 v7 h7 v8 h8; exact .fin (yld_call rfl cal_vec_AddTimes rfl (cAddTimes (B := w.heap.size) (F := fun k => F k) (Grow.trans W1 hw2).size (fun k hk => (fun h => Nat.lt_of_lt_of_le (hF k h) (Grow.trans W1 hw2).size) hk) (vec0 h6) h7 (vec0 h8) (hn) hs))) ?_
    refine soP [(9, .tup2 (.ownv (w.heap.size) (fun k => F k) (fun i => a i + (((-1 : Int) : Rat)) * b i) (if n = m then n else 0)) (.eq (.bool (decide (n = m)))))] (fun w2 hw2 => by rintro _ ⟨x9_0, x9_1, rfl, hx9_0, hx9_1⟩; exact .fin (yld_extract rfl rfl rfl ⟨Grow.refl _, hx9_0⟩)) ?_
    refine soP [(9, .tup2 (.ownv (w.heap.size) (fun k => F k) (fun i => a i + (((-1 : Int) : Rat)) * b i) (if n = m then n else 0)) (.eq (.bool (decide (n = m)))))] (fun w2 hw2 => by rintro _ ⟨x9_0, x9_1, rfl, hx9_0, hx9_1⟩; exact .fin (yld_extract rfl rfl rfl ⟨Grow.refl _, hx9_1⟩)) ?_
    refine soP [(10, .ownv (w.heap.size) (fun k => F k) (fun i => a i + (((-1 : Int) : Rat)) * b i) (if n = m then n else 0))] (fun w2 hw2 => by rintro v10 h10; exact .fin (yld_assign rfl ⟨Grow.refl _, h10⟩)) ?_
    exact so [5] (fun w2 hw2 => by rintro _ rfl; exact .fin (yld_assign rfl ⟨Grow.refl _, rfl⟩)) (.nil _ _)
  rintro w2 hw2 v6 - v7 - v8 - v9 - v10 - v11 - v4 h4 _ rfl -
  have W2 : Grow w w2 := W1.trans hw2
  have z2 : w1.heap.size ≤ w2.heap.size := hw2.size
  replace h4 := ownv_own (F' := fun k => (F k) ∨ w2.heap.size ≤ k) h4 (fun k hk => hk)
  replace hv := MR.mono _ hw2 hv
  replace hv2 := MR.mono _ hw2 hv2
  refine fr (va :: vb :: u :: u :: v4 :: .bool (decide (n = m)) :: v6 :: v7 :: v8 :: v9 :: v10 :: v11 :: []) ?_
  refine nx ?_
  refine wp_ret ?_
  change bodyPost Try.prog Try.f27 (Ret (.tup2 (.ownv (B) (fun k => F k) (fun i => a i - b i) (if n = m then n else 0)) (.eq (.bool (decide (n = m))))) w) .ret _ _
  exact body_slot2 rfl (ownv_cast h4 hB (fun k hk => (Or.inl hk)) (fun i hi => by show _ + _ * _ = _; (first | rw [show ((1 : Int) : Rat) = 1 from rfl] | rw [show ((-1 : Int) : Rat) = -1 from rfl]); grind)) rfl rfl W2
set_option maxRecDepth 100000 in
set_option maxHeartbeats 2000000 in
theorem cNought {B : Nat} {F : Nat → Prop} {z : Int}  {w : World} (hB : B ≤ w.heap.size) (hF : ∀ k, F k → k < w.heap.size)   : Calls Try.prog 72 #[.int .i64 (z)] w (Ret (.tup2 (.ownv (B) (fun k => F k) (fun _ => 0) (if 0 ≤ z ∧ z ≤ 64 then z.toNat else 0)) (.eq (.bool (decide (0 ≤ z ∧ z ≤ 64))))) w) := by
  refine calls_enter (a := ⟨List.toArray ([.int .i64 (z)] ++ us 11), []⟩) Try.func72 rfl (by kernel_rfl) ?_
  have NL : NoLook (bodyPost Try.prog Try.f72 (Ret (.tup2 (.ownv (B) (fun k => F k) (fun _ => 0) (if 0 ≤ z ∧ z ≤ 64 then z.toNat else 0)) (.eq (.bool (decide (0 ≤ z ∧ z ≤ 64))))) w)) := noLook_body
  refine wp_seq ?_
  refine rg (fun c d v a w h => NL c d v a w h) [(2, .eq (.slice none 0 0)), (3, .eq (.bool (false)))] [] [] [] 12 2 ?_ ?_
  · refine so [] (fun w1 hw1 => .fin (yld_assign rfl ⟨Grow.refl _, rfl⟩)) ?_
    exact so [] (fun w1 hw1 => .fin (yld_assign rfl ⟨Grow.refl _, rfl⟩)) (.nil _ _)
  rintro w1 hw1 _ rfl _ rfl -
  have W1 : Grow w w1 := (Grow.refl w).trans hw1
  have z1 : w.heap.size ≤ w1.heap.size := hw1.size
  refine fr ([.int .i64 (z), u, .slice none 0 0, .bool (false)] ++ us 8) ?_
  refine nx ?_
  refine wp_seq ?_
  refine wp_seq ?_
  obtain ⟨x3, ex3⟩ : ∃ c : Bool, c = (decide ((z : Int) < (0 : Int))) := ⟨_, rfl⟩
  obtain ⟨x4, ex4⟩ : ∃ c : Bool, c = (decide ((z : Int) > (64 : Int))) := ⟨_, rfl⟩
  obtain ⟨x5, ex5⟩ : ∃ c : Bool, c = ((x3 || x4)) := ⟨_, rfl⟩
  refine rg (fun c d v a w h => NL c d v a w h) [(4, .eq (.int .i64 (z))), (5, .eq (.bool (x3))), (6, .eq (.bool (x3))), (7, .opt ((x3 == false)) (.eq (.int .i64 (z)))), (8, .opt ((x3 == false)) (.eq (.bool (x4)))), (9, .eq (.bool (x5)))] [] [] [] 12 6 ?_ ?_
  · refine so [] (fun w2 hw2 => .fin (yld_move rfl ⟨Grow.refl _, rfl⟩)) ?_
    refine so [0] (fun w2 hw2 => by rintro _ rfl; exact .fin (yld_eqTo (c := .bool (decide ((z : Int) < (0 : Int)))) (yld_lss rfl rfl rfl ⟨Grow.refl _, rfl⟩) (congrArg Value.bool ex3.symm))) ?_
    refine so [1] (fun w2 hw2 => by rintro _ rfl; exact .fin (yld_move rfl ⟨Grow.refl _, rfl⟩)) ?_
    refine sg (c := (x3 == false)) 6 [2] (fun w2 hw2 => by rintro _ rfl; exact .fin (⟨guard_eq, fun hc => yld_move rfl ⟨Grow.refl _, rfl⟩⟩)) ?_
    refine sg (c := (x3 == false)) 6 [2, 3] (fun w2 hw2 => by rintro _ rfl v7 h7; exact .fin (⟨guard_eq, fun hc => yld_eqTo (c := .bool (decide ((z : Int) > (64 : Int)))) (yld_gtr rfl (show v7 = .int .i64 (z) from (h7.1 (by revert hc; exact fun h => h))) rfl ⟨Grow.refl _, rfl⟩) (congrArg Value.bool ex4.symm)⟩)) ?_
    exact so [2, 4] (fun w2 hw2 => by rintro _ rfl v8 h8; exact .fin (yld_eqTo (c := .bool ((x3 || x4))) (yld_pick_or rfl rfl rfl (fun ht => h8.1 (by revert ht; cases x3 <;> decide)) ⟨Grow.refl _, rfl⟩) (congrArg Value.bool ex5.symm))) (.nil _ _)
  rintro w2 hw2 v4 - _ rfl _ rfl v7 - v8 - _ rfl -
  have W2 : Grow w w2 := W1.trans hw2
  have z2 : w1.heap.size ≤ w2.heap.size := hw2.size
  subst ex3
  subst ex4
  subst ex5
  refine fr (.int .i64 (z) :: u :: .slice none 0 0 :: .bool (false) :: v4 :: .bool ((decide ((z : Int) < (0 : Int)))) :: .bool ((decide ((z : Int) < (0 : Int)))) :: v7 :: v8 :: .bool ((((decide ((z : Int) < (0 : Int))) || (decide ((z : Int) > (64 : Int)))))) :: u :: u :: []) ?_
  refine nx ?_
  refine wp_cond_split (t := (((decide ((z : Int) < (0 : Int))) || (decide ((z : Int) > (64 : Int)))))) rfl (fun hd => ?_) (fun hd => ?_)
  · refine wp_seq ?_
    refine rg (fun c d v a w h => NL c d v a w h) [(2, .eq (.slice none 0 0)), (3, .eq (.bool (false)))] [] [] [] 12 2 ?_ ?_
    · refine so [] (fun w6 hw6 => .fin (yld_assign rfl ⟨Grow.refl _, rfl⟩)) ?_
      exact so [] (fun w6 hw6 => .fin (yld_assign rfl ⟨Grow.refl _, rfl⟩)) (.nil _ _)
    rintro w6 hw6 _ rfl _ rfl -
    have W6 : Grow w w6 := W2.trans hw6
    have z6 : w2.heap.size ≤ w6.heap.size := hw6.size
    refine fr (.int .i64 (z) :: u :: .slice none 0 0 :: .bool (false) :: v4 :: .bool ((decide ((z : Int) < (0 : Int)))) :: .bool ((decide ((z : Int) < (0 : Int)))) :: v7 :: v8 :: .bool ((((decide ((z : Int) < (0 : Int))) || (decide ((z : Int) > (64 : Int)))))) :: u :: u :: []) ?_
    refine nx ?_
    refine wp_ret ?_
    change bodyPost Try.prog Try.f72 (Ret (.tup2 (.ownv (B) (fun k => F k) (fun _ => 0) (if 0 ≤ z ∧ z ≤ 64 then z.toNat else 0)) (.eq (.bool (decide (0 ≤ z ∧ z ≤ 64))))) w) .ret _ _
    exact body_slot2 rfl (by rw [if_neg (nought_yes hd)]; exact ownv_nil) (by show Value.bool _ = Value.bool _; rw [show (false) = (decide (0 ≤ z ∧ z ≤ 64)) from (by first | exact (decide_eq_false (nought_yes hd)).symm | exact (decide_eq_true hz).symm)]) rfl W6
  · have hz := nought_no hd
    have hzn : z = ((z.toNat : Nat) : Int) := by omega
    refine wp_skip ?_
    change Code.wp _ _ _ ⟨_, []⟩ _
    refine wp_seq ?_
    refine rg (fun c d v a w h => NL c d v a w h) [(10, .eq (.int .i64 (z))), (11, .ownv (w.heap.size) (fun k => F k) (fun _ => 0) (z.toNat)), (2, .ownv (w.heap.size) (fun k => F k) (fun _ => 0) (z.toNat)), (3, .eq (.bool (true)))] [] [] [] 12 4 ?_ ?_
    · refine so [] (fun w7 hw7 => .fin (yld_move rfl ⟨Grow.refl _, rfl⟩)) ?_
      refine so [0] (fun w7 hw7 => by rintro _ rfl; exact .fin (yld_makeV (B := w.heap.size) (F := fun k => F k) Try.underlying25 rfl (by show Value.int _ _ = _; rw [← hzn]) (by show Value.int _ _ = _; rw [← hzn]) (by omega) (Grow.trans W2 hw7).size (fun k hk => (fun h => Nat.lt_of_lt_of_le (hF k h) (Grow.trans W2 hw7).size) hk))) ?_
      refine soP [(11, .ownv (w.heap.size) (fun k => F k) (fun _ => 0) (z.toNat))] (fun w7 hw7 => by rintro v11 h11; exact .fin (yld_assign rfl ⟨Grow.refl _, h11⟩)) ?_
      exact so [] (fun w7 hw7 => .fin (yld_assign rfl ⟨Grow.refl _, rfl⟩)) (.nil _ _)
    rintro w7 hw7 v10 - v11 - v2 h2 _ rfl -
    have W7 : Grow w w7 := W2.trans hw7
    have z7 : w2.heap.size ≤ w7.heap.size := hw7.size
    replace h2 := ownv_own (F' := fun k => (F k) ∨ w7.heap.size ≤ k) h2 (fun k hk => hk)
    refine fr (.int .i64 (z) :: u :: v2 :: .bool (true) :: v4 :: .bool ((decide ((z : Int) < (0 : Int)))) :: .bool ((decide ((z : Int) < (0 : Int)))) :: v7 :: v8 :: .bool ((((decide ((z : Int) < (0 : Int))) || (decide ((z : Int) > (64 : Int)))))) :: v10 :: v11 :: []) ?_
    refine nx ?_
    refine wp_ret ?_
    change bodyPost Try.prog Try.f72 (Ret (.tup2 (.ownv (B) (fun k => F k) (fun _ => 0) (if 0 ≤ z ∧ z ≤ 64 then z.toNat else 0)) (.eq (.bool (decide (0 ≤ z ∧ z ≤ 64))))) w) .ret _ _
    exact body_slot2 rfl (ownv_cast (ownv_n (if_pos hz).symm h2) hB (fun k hk => (Or.inl hk)) (fun _ _ => rfl)) (by show Value.bool _ = Value.bool _; rw [show (true) = (decide (0 ≤ z ∧ z ≤ 64)) from (by first | exact (decide_eq_false (nought_yes hd)).symm | exact (decide_eq_true hz).symm)]) rfl W7
end Go.Proofs.Ytngghjhmfpmilaa
/- Slices that are typed: of whole numbers, of rows; a row out of a slice of rows; what Combine reckons. -/
namespace Go.Proofs.Ytngghjhmfpmilaa
open Go.RowKit
section
variable {o : Oper} {ρ : Operand → Value} {w : World} {x y z : Operand} {F G : Nat → Prop} {a b c : Int} {q q' : Nat → Rat} {n n' : Nat} {T : TypeId}
theorem ints_new (t : TypeId) {cs : Array Value} {l : List Int} (hc : ∀ i, i < l.length → cs[i]? = some (.int .i64 (l.getD i 0))) (hl : l.length ≤ maxLen) : (MR.ints (fun _ => False) (fun i => l.getD i 0) l.length).R (w.alloc (.cells cs t)) (.slice (some ⟨w.heap.size, 0, none⟩) l.length l.length) :=
  ⟨_, _, rfl, (fun e => by cases e), Nat.le_refl _, hl, fun i hi => ⟨w.heap.size, 0, rfl, id, by simp, .int .i64 (l.getD i 0), rfl, rfl, fun j v hj => by
    have hj0 : j = 0 := by
      have := (Array.getElem?_eq_some_iff.1 hj).1
      simp only [Value.cells, List.size_toArray, List.length_cons, List.length_nil] at this
      omega
    subst hj0
    rw [(Blk.new w t cs).cell, show 0 + 1 * i + 0 = i by omega, hc i hi]
    exact hj⟩⟩
theorem yld_litI1 (h : o.op = .buildSlice 94 1 #[(0, x)]) (hx : ρ x = .int .i64 a) : Yld Try.prog o ρ w (fun v w' => Grow w w' ∧ (MR.ints (fun _ => False) (fun i => [a].getD i 0) 1).R w' v) := by
  obtain ⟨i0, hi0, hz0, hz1, hz2⟩ := infoParts intInfo
  have hrun : (Instr.buildSlice 94 1 #[(0, .int .i64 a)]).run Try.prog w = .ok (.slice (some ⟨w.heap.size, 0, none⟩) 1 1) (w.alloc (.cells #[.int .i64 a] 3)) :=
    run_buildSlice w 94 3 1 _ _ i0 _ Try.underlying94 hi0 hz0 (by rw [hz1]; decide) (by rw [hz1]; decide) (by rw [hz1, show Array.range (1 * 1) = #[0] from by decide]; simp [Instr.fill, Value.cells])
  unfold Yld execOp
  rw [h]
  have e : (#[(0, x)] : Array (Nat × Operand)).map (fun (i, x) => (i, ρ x)) = #[(0, .int .i64 a)] := by simp [hx]
  simp only [e, Sem.run_bind, hrun, Result.andThen_ok]
  exact ⟨(Grow.refl w).alloc _, ints_new (l := [a]) _ (fun i hi => by obtain rfl : i = 0 := (by simpa using hi); rfl) (show 1 ≤ maxLen by unfold maxLen; decide)⟩
theorem yld_litI2 (h : o.op = .buildSlice 94 2 #[(0, x), (1, y)]) (hx : ρ x = .int .i64 a) (hy : ρ y = .int .i64 b) : Yld Try.prog o ρ w (fun v w' => Grow w w' ∧ (MR.ints (fun _ => False) (fun i => [a, b].getD i 0) 2).R w' v) := by
  obtain ⟨i0, hi0, hz0, hz1, hz2⟩ := infoParts intInfo
  have hrun : (Instr.buildSlice 94 2 #[(0, .int .i64 a), (1, .int .i64 b)]).run Try.prog w = .ok (.slice (some ⟨w.heap.size, 0, none⟩) 2 2) (w.alloc (.cells #[.int .i64 a, .int .i64 b] 3)) :=
    run_buildSlice w 94 3 2 _ _ i0 _ Try.underlying94 hi0 hz0 (by rw [hz1]; decide) (by rw [hz1]; decide) (by rw [hz1, show Array.range (2 * 1) = #[0, 1] from by decide]; simp [Instr.fill, Value.cells])
  unfold Yld execOp
  rw [h]
  have e : (#[(0, x), (1, y)] : Array (Nat × Operand)).map (fun (i, x) => (i, ρ x)) = #[(0, .int .i64 a), (1, .int .i64 b)] := by simp [hx, hy]
  simp only [e, Sem.run_bind, hrun, Result.andThen_ok]
  refine ⟨(Grow.refl w).alloc _, ints_new (l := [a, b]) _ (fun i hi => ?_) (show 2 ≤ maxLen by unfold maxLen; decide)⟩
  have : i = 0 ∨ i = 1 := by simp at hi; omega
  rcases this with rfl | rfl <;> rfl
theorem yld_litI3 (h : o.op = .buildSlice 94 3 #[(0, x), (1, y), (2, z)]) (hx : ρ x = .int .i64 a) (hy : ρ y = .int .i64 b) (hz : ρ z = .int .i64 c) : Yld Try.prog o ρ w (fun v w' => Grow w w' ∧ (MR.ints (fun _ => False) (fun i => [a, b, c].getD i 0) 3).R w' v) := by
  obtain ⟨i0, hi0, hz0, hz1, hz2⟩ := infoParts intInfo
  have hrun : (Instr.buildSlice 94 3 #[(0, .int .i64 a), (1, .int .i64 b), (2, .int .i64 c)]).run Try.prog w = .ok (.slice (some ⟨w.heap.size, 0, none⟩) 3 3) (w.alloc (.cells #[.int .i64 a, .int .i64 b, .int .i64 c] 3)) :=
    run_buildSlice w 94 3 3 _ _ i0 _ Try.underlying94 hi0 hz0 (by rw [hz1]; decide) (by rw [hz1]; decide) (by rw [hz1, show Array.range (3 * 1) = #[0, 1, 2] from by decide]; simp [Instr.fill, Value.cells])
  unfold Yld execOp
  rw [h]
  have e : (#[(0, x), (1, y), (2, z)] : Array (Nat × Operand)).map (fun (i, x) => (i, ρ x)) = #[(0, .int .i64 a), (1, .int .i64 b), (2, .int .i64 c)] := by simp [hx, hy, hz]
  simp only [e, Sem.run_bind, hrun, Result.andThen_ok]
  refine ⟨(Grow.refl w).alloc _, ints_new (l := [a, b, c]) _ (fun i hi => ?_) (show 3 ≤ maxLen by unfold maxLen; decide)⟩
  have : i = 0 ∨ i = 1 ∨ i = 2 := by simp at hi; omega
  rcases this with rfl | rfl | rfl <;> rfl
theorem vecInfo : (Try.prog.info? 25).map (fun i => (i.zero, i.size, i.bytes)) = some (some (.slice none 0 0), 1, 24) := by kernel_rfl
/-- two rows, typed -/
theorem yld_litV2 (h : o.op = .buildSlice 41 2 #[(0, x), (1, y)]) (hx : (MR.vec (fun _ => False) q n).R w (ρ x)) (hy : (MR.vec (fun _ => False) q' n').R w (ρ y)) :
    Yld Try.prog o ρ w (fun v w' => Grow w w' ∧ (MR.sl (fun _ => False) 1 (fun i => .vec (fun _ => False) (if i = 0 then q else q') (if i = 0 then n else n')) 2).R w' v) := by
  obtain ⟨i0, hi0, hz0, hz1, hz2⟩ := infoParts vecInfo
  obtain ⟨A, cA, ex, _⟩ := id hx
  obtain ⟨A', cA', ey, _⟩ := id hy
  have hrun : (Instr.buildSlice 41 2 #[(0, ρ x), (1, ρ y)]).run Try.prog w = .ok (.slice (some ⟨w.heap.size, 0, none⟩) 2 2) (w.alloc (.cells #[ρ x, ρ y] 25)) :=
    run_buildSlice w 41 25 2 _ _ i0 _ Try.underlying41 hi0 hz0 (by rw [hz1]; decide) (by rw [hz1]; decide) (by rw [hz1, show Array.range (2 * 1) = #[0, 1] from by decide, ex, ey]; simp [Instr.fill, Value.cells])
  unfold Yld execOp
  rw [h]
  have e : (#[(0, x), (1, y)] : Array (Nat × Operand)).map (fun (i, x) => (i, ρ x)) = #[(0, ρ x), (1, ρ y)] := by simp
  simp only [e, Sem.run_bind, hrun, Result.andThen_ok]
  have hg : Grow w (w.alloc (.cells #[ρ x, ρ y] 25)) := (Grow.refl w).alloc _
  refine ⟨hg, _, _, rfl, (fun e => by cases e), Nat.le_refl _, by unfold maxLen; decide, fun i hi => ⟨w.heap.size, 0, rfl, id, by simp, ?_⟩⟩
  have hb := Blk.new w 25 #[ρ x, ρ y]
  have : i = 0 ∨ i = 1 := by omega
  rcases this with rfl | rfl
  · refine ⟨ρ x, by rw [ex]; rfl, MR.mono _ hg hx, fun j v hj => ?_⟩
    rw [hb.cell]
    rw [ex] at hj ⊢
    have : j = 0 := by
      have := (Array.getElem?_eq_some_iff.1 hj).1
      simp only [Value.cells, List.size_toArray, List.length_cons, List.length_nil] at this
      omega
    subst this
    exact hj
  · refine ⟨ρ y, by rw [ey]; rfl, MR.mono _ hg hy, fun j v hj => ?_⟩
    rw [hb.cell]
    rw [ey] at hj ⊢
    have : j = 0 := by
      have := (Array.getElem?_eq_some_iff.1 hj).1
      simp only [Value.cells, List.size_toArray, List.length_cons, List.length_nil] at this
      omega
    subst this
    exact hj
/-- a row, out of a slice of rows -/
theorem yld_loadVV (hT : ∃ d, Try.prog.underlying T = some d ∧ d.isRow = false) (h : o.op = .load T x) (hx : (MR.eptr F 1 (.vec G q n)).R w (ρ x)) : Yld Try.prog o ρ w (fun v w' => Grow w w' ∧ (MR.vec G q n).R w' v) := by
  obtain ⟨g, oo, ev, hf, hl, e, hs, hR, hc⟩ := hx
  obtain ⟨A, c, ee, _⟩ := id hR
  have hcell : w.cell? ⟨g, oo, none⟩ = some e := hc 0 _ (by rw [ee]; rfl)
  obtain ⟨d, hu, hd⟩ := hT
  have hagg : (isAgg T).run Try.prog w = .ok false w := by
    unfold isAgg
    rw [Sem.run_bind, run_underlying hu w]
    cases d <;> simp_all
  exact yld_load (v := e) h (by rw [ev]; simp [Instr.loadAt, Instr.sureAddr, loadVar, Sem.run_bind, hagg, hcell]) ⟨Grow.refl _, hR⟩
end
/-- the sum of the first so many rows, each so often -/
def combV (q : Nat → Rat) (v : Nat → Nat → Rat) : Nat → Nat → Rat
  | 0 => fun _ => 0
  | i + 1 => fun j => combV q v i j + q i * v i j
theorem comb_no {n k : Nat} {P : Prop} (h : (((((n : Nat) : Int) : Int) != (((k : Nat) : Int) : Int)) || ((((k : Nat) : Int) : Int) == (0 : Int))) = true) : ¬ (n = k ∧ 0 < k ∧ P) := by
  simp only [Bool.or_eq_true, bne_iff_ne, beq_iff_eq] at h
  rintro ⟨rfl, h2, _⟩
  omega
theorem comb_yes {n k : Nat} (h : (((((n : Nat) : Int) : Int) != (((k : Nat) : Int) : Int)) || ((((k : Nat) : Int) : Int) == (0 : Int))) = false) : n = k ∧ 0 < k := by
  simp only [Bool.or_eq_false_iff, bne_eq_false_iff_eq, beq_eq_false_iff_ne] at h
  omega
theorem same_step {m : Nat → Nat} {i : Nat} (h : ∀ j, j < i → m j = m 0) (e : m 0 = m i) : ∀ j, j < i + 1 → m j = m 0 := fun j hj => by
  by_cases hji : j = i
  · subst hji; exact e.symm
  · exact h j (by omega)
end Go.Proofs.Ytngghjhmfpmilaa
/- package vec (d). -/
namespace Go.Proofs.Ytngghjhmfpmilaa
open Go.RowKit
theorem cal_vec_Nought : Callable Try.prog 72 := callable_of Try.func72 rfl (by kernel_rfl)
set_option maxRecDepth 100000 in
set_option maxHeartbeats 2000000 in
theorem cUnit {B : Nat} {F : Nat → Prop} {z k : Int}  {w : World} (hB : B ≤ w.heap.size) (hF : ∀ k, F k → k < w.heap.size)   : Calls Try.prog 47 #[.int .i64 (z), .int .i64 (k)] w (Ret (.tup2 (.ownv (B) (fun k => F k) (updQ (fun _ => 0) k.toNat ((1 : Int) : Rat)) (if (0 ≤ z ∧ z ≤ 64) ∧ 0 ≤ k ∧ k < z then z.toNat else 0)) (.eq (.bool (decide ((0 ≤ z ∧ z ≤ 64) ∧ 0 ≤ k ∧ k < z))))) w) := by
  refine calls_enter (a := ⟨List.toArray ([.int .i64 (z), .int .i64 (k)] ++ us 27), []⟩) Try.func47 rfl (by kernel_rfl) ?_
  have NL : NoLook (bodyPost Try.prog Try.f47 (Ret (.tup2 (.ownv (B) (fun k => F k) (updQ (fun _ => 0) k.toNat ((1 : Int) : Rat)) (if (0 ≤ z ∧ z ≤ 64) ∧ 0 ≤ k ∧ k < z then z.toNat else 0)) (.eq (.bool (decide ((0 ≤ z ∧ z ≤ 64) ∧ 0 ≤ k ∧ k < z))))) w)) := noLook_body
  refine wp_seq ?_
  refine rg (fun c d v a w h => NL c d v a w h) [(4, .eq (.slice none 0 0)), (5, .eq (.bool (false)))] [] [] [] 29 2 ?_ ?_
  · refine so [] (fun w1 hw1 => .fin (yld_assign rfl ⟨Grow.refl _, rfl⟩)) ?_
    exact so [] (fun w1 hw1 => .fin (yld_assign rfl ⟨Grow.refl _, rfl⟩)) (.nil _ _)
  rintro w1 hw1 _ rfl _ rfl -
  have W1 : Grow w w1 := (Grow.refl w).trans hw1
  have z1 : w.heap.size ≤ w1.heap.size := hw1.size
  refine fr ([.int .i64 (z), .int .i64 (k), u, u, .slice none 0 0, .bool (false)] ++ us 23) ?_
  refine nx ?_
  refine wp_seq ?_
  refine rg (fun c d v a w h => NL c d v a w h) [(9, .eq (.int .i64 (z))), (10, .tup2 (.ownv (w.heap.size) (fun k => F k) (fun _ => 0) (if 0 ≤ z ∧ z ≤ 64 then Int.toNat z else 0)) (.eq (.bool (decide (0 ≤ z ∧ z ≤ 64))))), (8, .tup2 (.ownv (w.heap.size) (fun k => F k) (fun _ => 0) (if 0 ≤ z ∧ z ≤ 64 then Int.toNat z else 0)) (.eq (.bool (decide (0 ≤ z ∧ z ≤ 64))))), (11, .ownv (w.heap.size) (fun k => F k) (fun _ => 0) (if 0 ≤ z ∧ z ≤ 64 then Int.toNat z else 0)), (12, .eq (.bool (decide (0 ≤ z ∧ z ≤ 64)))), (6, .ownv (w.heap.size) (fun k => F k) (fun _ => 0) (if 0 ≤ z ∧ z ≤ 64 then Int.toNat z else 0)), (7, .eq (.bool (decide (0 ≤ z ∧ z ≤ 64))))] [] [] [] 29 7 ?_ ?_
  · refine so [] (fun w2 hw2 => .fin (yld_move rfl ⟨Grow.refl _, rfl⟩)) ?_
    refine so [0] (fun w2 hw2 => by rintro _ rfl; exact .fin (yld_call rfl cal_vec_Nought rfl (cNought (z := z) (B := w.heap.size) (F := fun k => F k) (Grow.trans W1 hw2).size (fun k hk => (fun h => Nat.lt_of_lt_of_le (hF k h) (Grow.trans W1 hw2).size) hk)))) ?_
    refine soP [(10, .tup2 (.ownv (w.heap.size) (fun k => F k) (fun _ => 0) (if 0 ≤ z ∧ z ≤ 64 then Int.toNat z else 0)) (.eq (.bool (decide (0 ≤ z ∧ z ≤ 64)))))] (fun w2 hw2 => by rintro _ ⟨x10_0, x10_1, rfl, hx10_0, hx10_1⟩; exact .fin (yld_move rfl ⟨Grow.refl _, ⟨x10_0, x10_1, rfl, hx10_0, hx10_1⟩⟩)) ?_
    refine soP [(8, .tup2 (.ownv (w.heap.size) (fun k => F k) (fun _ => 0) (if 0 ≤ z ∧ z ≤ 64 then Int.toNat z else 0)) (.eq (.bool (decide (0 ≤ z ∧ z ≤ 64)))))] (fun w2 hw2 => by rintro _ ⟨x8_0, x8_1, rfl, hx8_0, hx8_1⟩; exact .fin (yld_extract rfl rfl rfl ⟨Grow.refl _, hx8_0⟩)) ?_
    refine soP [(8, .tup2 (.ownv (w.heap.size) (fun k => F k) (fun _ => 0) (if 0 ≤ z ∧ z ≤ 64 then Int.toNat z else 0)) (.eq (.bool (decide (0 ≤ z ∧ z ≤ 64)))))] (fun w2 hw2 => by rintro _ ⟨x8_0, x8_1, rfl, hx8_0, hx8_1⟩; exact .fin (yld_extract rfl rfl rfl ⟨Grow.refl _, hx8_1⟩)) ?_
    refine soP [(11, .ownv (w.heap.size) (fun k => F k) (fun _ => 0) (if 0 ≤ z ∧ z ≤ 64 then Int.toNat z else 0))] (fun w2 hw2 => by rintro v11 h11; exact .fin (yld_assign rfl ⟨Grow.refl _, h11⟩)) ?_
    exact so [4] (fun w2 hw2 => by rintro _ rfl; exact .fin (yld_assign rfl ⟨Grow.refl _, rfl⟩)) (.nil _ _)
  rintro w2 hw2 v9 - v10 - v8 - v11 - v12 - v6 h6 _ rfl -
  have W2 : Grow w w2 := W1.trans hw2
  have z2 : w1.heap.size ≤ w2.heap.size := hw2.size
  replace h6 := ownv_own (F' := fun k => (F k) ∨ w2.heap.size ≤ k) h6 (fun k hk => hk)
  refine fr ((.int .i64 (z) :: .int .i64 (k) :: u :: u :: .slice none 0 0 :: .bool (false) :: v6 :: .bool (decide (0 ≤ z ∧ z ≤ 64)) :: v8 :: v9 :: v10 :: v11 :: v12 :: []) ++ us 16) ?_
  refine nx ?_
  refine wp_seq ?_
  refine wp_seq ?_
  obtain ⟨x4, ex4⟩ : ∃ c : Bool, c = (decide (0 ≤ z ∧ z ≤ 64)) := ⟨_, rfl⟩
  obtain ⟨x5, ex5⟩ : ∃ c : Bool, c = (!x4) := ⟨_, rfl⟩
  obtain ⟨x6, ex6⟩ : ∃ c : Bool, c = (decide ((k : Int) < (0 : Int))) := ⟨_, rfl⟩
  obtain ⟨x7, ex7⟩ : ∃ c : Bool, c = ((x5 || x6)) := ⟨_, rfl⟩
  obtain ⟨x8, ex8⟩ : ∃ c : Bool, c = (decide ((k : Int) ≥ (z : Int))) := ⟨_, rfl⟩
  obtain ⟨x9, ex9⟩ : ∃ c : Bool, c = ((x7 || x8)) := ⟨_, rfl⟩
  refine rg (fun c d v a w h => NL c d v a w h) [(13, .eq (.bool (x4))), (14, .eq (.bool (x5))), (15, .eq (.bool (x5))), (16, .opt ((x5 == false)) (.eq (.int .i64 (k)))), (17, .opt ((x5 == false)) (.eq (.bool (x6)))), (18, .eq (.bool (x7))), (19, .eq (.bool (x7))), (20, .opt ((x7 == false)) (.eq (.int .i64 (k)))), (21, .opt ((x7 == false)) (.eq (.int .i64 (z)))), (22, .opt ((x7 == false)) (.eq (.bool (x8)))), (23, .eq (.bool (x9)))] [] [] [] 29 11 ?_ ?_
  · refine so [] (fun w3 hw3 => .fin (yld_eqTo (c := .bool (decide (0 ≤ z ∧ z ≤ 64))) (yld_move rfl ⟨Grow.refl _, rfl⟩) (congrArg Value.bool ex4.symm))) ?_
    refine so [0] (fun w3 hw3 => by rintro _ rfl; exact .fin (yld_eqTo (c := .bool (!x4)) (yld_not rfl rfl ⟨Grow.refl _, rfl⟩) (congrArg Value.bool ex5.symm))) ?_
    refine so [1] (fun w3 hw3 => by rintro _ rfl; exact .fin (yld_move rfl ⟨Grow.refl _, rfl⟩)) ?_
    refine sg (c := (x5 == false)) 15 [2] (fun w3 hw3 => by rintro _ rfl; exact .fin (⟨guard_eq, fun hc => yld_move rfl ⟨Grow.refl _, rfl⟩⟩)) ?_
    refine sg (c := (x5 == false)) 15 [2, 3] (fun w3 hw3 => by rintro _ rfl v16 h16; exact .fin (⟨guard_eq, fun hc => yld_eqTo (c := .bool (decide ((k : Int) < (0 : Int)))) (yld_lss rfl (show v16 = .int .i64 (k) from (h16.1 (by revert hc; exact fun h => h))) rfl ⟨Grow.refl _, rfl⟩) (congrArg Value.bool ex6.symm)⟩)) ?_
    refine so [2, 4] (fun w3 hw3 => by rintro _ rfl v17 h17; exact .fin (yld_eqTo (c := .bool ((x5 || x6))) (yld_pick_or rfl rfl rfl (fun ht => h17.1 (by revert ht; cases x5 <;> decide)) ⟨Grow.refl _, rfl⟩) (congrArg Value.bool ex7.symm))) ?_
    refine so [5] (fun w3 hw3 => by rintro _ rfl; exact .fin (yld_move rfl ⟨Grow.refl _, rfl⟩)) ?_
    refine sg (c := (x7 == false)) 19 [6] (fun w3 hw3 => by rintro _ rfl; exact .fin (⟨guard_eq, fun hc => yld_move rfl ⟨Grow.refl _, rfl⟩⟩)) ?_
    refine sg (c := (x7 == false)) 19 [6] (fun w3 hw3 => by rintro _ rfl; exact .fin (⟨guard_eq, fun hc => yld_move rfl ⟨Grow.refl _, rfl⟩⟩)) ?_
    refine sg (c := (x7 == false)) 19 [6, 7, 8] (fun w3 hw3 => by rintro _ rfl v20 h20 v21 h21; exact .fin (⟨guard_eq, fun hc => yld_eqTo (c := .bool (decide ((k : Int) ≥ (z : Int)))) (yld_geq rfl (show v20 = .int .i64 (k) from (h20.1 (by revert hc; exact fun h => h))) (show v21 = .int .i64 (z) from (h21.1 (by revert hc; exact fun h => h))) ⟨Grow.refl _, rfl⟩) (congrArg Value.bool ex8.symm)⟩)) ?_
    exact so [6, 9] (fun w3 hw3 => by rintro _ rfl v22 h22; exact .fin (yld_eqTo (c := .bool ((x7 || x8))) (yld_pick_or rfl rfl rfl (fun ht => h22.1 (by revert ht; cases x7 <;> decide)) ⟨Grow.refl _, rfl⟩) (congrArg Value.bool ex9.symm))) (.nil _ _)
  rintro w3 hw3 _ rfl _ rfl _ rfl v16 - v17 - _ rfl _ rfl v20 - v21 - v22 - _ rfl -
  have W3 : Grow w w3 := W2.trans hw3
  have z3 : w2.heap.size ≤ w3.heap.size := hw3.size
  replace h6 := MR.mono _ hw3 h6
  subst ex4
  subst ex5
  subst ex6
  subst ex7
  subst ex8
  subst ex9
  refine fr ((.int .i64 (z) :: .int .i64 (k) :: u :: u :: .slice none 0 0 :: .bool (false) :: v6 :: .bool (decide (0 ≤ z ∧ z ≤ 64)) :: v8 :: v9 :: v10 :: v11 :: v12 :: .bool ((decide (0 ≤ z ∧ z ≤ 64))) :: .bool ((!(decide (0 ≤ z ∧ z ≤ 64)))) :: .bool ((!(decide (0 ≤ z ∧ z ≤ 64)))) :: v16 :: v17 :: .bool ((((!(decide (0 ≤ z ∧ z ≤ 64))) || (decide ((k : Int) < (0 : Int)))))) :: .bool ((((!(decide (0 ≤ z ∧ z ≤ 64))) || (decide ((k : Int) < (0 : Int)))))) :: v20 :: v21 :: v22 :: .bool ((((((!(decide (0 ≤ z ∧ z ≤ 64))) || (decide ((k : Int) < (0 : Int))))) || (decide ((k : Int) ≥ (z : Int)))))) :: []) ++ us 5) ?_
  refine nx ?_
  refine wp_cond_split (t := (((((!(decide (0 ≤ z ∧ z ≤ 64))) || (decide ((k : Int) < (0 : Int))))) || (decide ((k : Int) ≥ (z : Int)))))) rfl (fun hd => ?_) (fun hd => ?_)
  · refine wp_seq ?_
    refine rg (fun c d v a w h => NL c d v a w h) [(4, .eq (.slice none 0 0)), (5, .eq (.bool (false)))] [] [] [] 29 2 ?_ ?_
    · refine so [] (fun w10 hw10 => .fin (yld_assign rfl ⟨Grow.refl _, rfl⟩)) ?_
      exact so [] (fun w10 hw10 => .fin (yld_assign rfl ⟨Grow.refl _, rfl⟩)) (.nil _ _)
    rintro w10 hw10 _ rfl _ rfl -
    have W10 : Grow w w10 := W3.trans hw10
    have z10 : w3.heap.size ≤ w10.heap.size := hw10.size
    replace h6 := MR.mono _ hw10 h6
    refine fr ((.int .i64 (z) :: .int .i64 (k) :: u :: u :: .slice none 0 0 :: .bool (false) :: v6 :: .bool (decide (0 ≤ z ∧ z ≤ 64)) :: v8 :: v9 :: v10 :: v11 :: v12 :: .bool ((decide (0 ≤ z ∧ z ≤ 64))) :: .bool ((!(decide (0 ≤ z ∧ z ≤ 64)))) :: .bool ((!(decide (0 ≤ z ∧ z ≤ 64)))) :: v16 :: v17 :: .bool ((((!(decide (0 ≤ z ∧ z ≤ 64))) || (decide ((k : Int) < (0 : Int)))))) :: .bool ((((!(decide (0 ≤ z ∧ z ≤ 64))) || (decide ((k : Int) < (0 : Int)))))) :: v20 :: v21 :: v22 :: .bool ((((((!(decide (0 ≤ z ∧ z ≤ 64))) || (decide ((k : Int) < (0 : Int))))) || (decide ((k : Int) ≥ (z : Int)))))) :: []) ++ us 5) ?_
    refine nx ?_
    refine wp_ret ?_
    change bodyPost Try.prog Try.f47 (Ret (.tup2 (.ownv (B) (fun k => F k) (updQ (fun _ => 0) k.toNat ((1 : Int) : Rat)) (if (0 ≤ z ∧ z ≤ 64) ∧ 0 ≤ k ∧ k < z then z.toNat else 0)) (.eq (.bool (decide ((0 ≤ z ∧ z ≤ 64) ∧ 0 ≤ k ∧ k < z))))) w) .ret _ _
    exact body_slot2 rfl (by rw [if_neg (unit_yes hd)]; exact ownv_nil) (by show Value.bool _ = Value.bool _; rw [show (false) = (decide ((0 ≤ z ∧ z ≤ 64) ∧ 0 ≤ k ∧ k < z)) from (by first | exact (decide_eq_false (unit_yes hd)).symm | exact (decide_eq_true hz).symm)]) rfl W10
  · have hz := unit_no hd
    have hkn : k = ((k.toNat : Nat) : Int) := by omega
    have hlt : k.toNat < if 0 ≤ z ∧ z ≤ 64 then Int.toNat z else 0 := by rw [if_pos hz.1]; omega
    refine wp_skip ?_
    change Code.wp _ _ _ ⟨_, []⟩ _
    refine wp_seq ?_
    refine rg (fun c d v a w h => NL c d v a w h) [(24, .eq (v6)), (25, .eq (.int .i64 (k))), (26, .rat (((1 : Int) : Rat))), (27, .eq (elemPtr v6 (k.toNat)))] [] [] [] 29 4 ?_ ?_
    · refine so [] (fun w11 hw11 => .fin (yld_move rfl ⟨Grow.refl _, rfl⟩)) ?_
      refine so [] (fun w11 hw11 => .fin (yld_move rfl ⟨Grow.refl _, rfl⟩)) ?_
      refine so [] (fun w11 hw11 => .fin (yld_call rfl cal_rat_Int rfl (cRatInt (x := 1) (by omega) (by omega)))) ?_
      exact so [0, 1] (fun w11 hw11 => by rintro v24 e24 _ rfl; subst v24; exact .fin (yld_indexO (k := k.toNat) Try.underlying25 rfl rfl (MR.mono _ hw11 h6) rfl hkn (hlt))) (.nil _ _)
    rintro w11 hw11 v24 e24 v25 - v26 h26 _ rfl -
    have W11 : Grow w w11 := W3.trans hw11
    have z11 : w3.heap.size ≤ w11.heap.size := hw11.size
    subst v24
    replace h6 := MR.mono _ hw11 h6
    refine fr (.int .i64 (z) :: .int .i64 (k) :: u :: u :: .slice none 0 0 :: .bool (false) :: v6 :: .bool (decide (0 ≤ z ∧ z ≤ 64)) :: v8 :: v9 :: v10 :: v11 :: v12 :: .bool ((decide (0 ≤ z ∧ z ≤ 64))) :: .bool ((!(decide (0 ≤ z ∧ z ≤ 64)))) :: .bool ((!(decide (0 ≤ z ∧ z ≤ 64)))) :: v16 :: v17 :: .bool ((((!(decide (0 ≤ z ∧ z ≤ 64))) || (decide ((k : Int) < (0 : Int)))))) :: .bool ((((!(decide (0 ≤ z ∧ z ≤ 64))) || (decide ((k : Int) < (0 : Int)))))) :: v20 :: v21 :: v22 :: .bool ((((((!(decide (0 ≤ z ∧ z ≤ 64))) || (decide ((k : Int) < (0 : Int))))) || (decide ((k : Int) ≥ (z : Int)))))) :: v6 :: v25 :: v26 :: elemPtr v6 (k.toNat) :: u :: []) ?_
    change wpListS _ _ _ _ [_] ⟨_, []⟩ _
    refine wpListS_yld rfl ?_
    refine yld_storeO (k := k.toNat) (F' := fun k => F k) rfl rfl h6 (hlt) h26 (fun k hk => (fun h => (Or.inl h)) hk) fun w12 A12 H12 => ⟨fun _ => (fun _ hk => (by cases hk)), ?_⟩
    have W12 : Grow w w12 := A12.grow W11 (Nat.le_refl _)
    have z12 : w11.heap.size ≤ w12.heap.size := A12.size
    replace h6 := H12
    refine nx ?_
    refine wp_seq ?_
    refine rg (fun c d v a w h => NL c d v a w h) [(28, .eq (v6)), (4, .eq (v6)), (5, .eq (.bool (true)))] [] [] [] 29 3 ?_ ?_
    · refine so [] (fun w13 hw13 => .fin (yld_move rfl ⟨Grow.refl _, rfl⟩)) ?_
      refine so [0] (fun w13 hw13 => by rintro v28 e28; subst v28; exact .fin (yld_assign rfl ⟨Grow.refl _, rfl⟩)) ?_
      exact so [] (fun w13 hw13 => .fin (yld_assign rfl ⟨Grow.refl _, rfl⟩)) (.nil _ _)
    rintro w13 hw13 v28 e28 v4 e4 _ rfl -
    have W13 : Grow w w13 := W12.trans hw13
    have z13 : w12.heap.size ≤ w13.heap.size := hw13.size
    subst v28
    subst v4
    replace h6 := MR.mono _ hw13 h6
    refine fr (.int .i64 (z) :: .int .i64 (k) :: u :: u :: v6 :: .bool (true) :: v6 :: .bool (decide (0 ≤ z ∧ z ≤ 64)) :: v8 :: v9 :: v10 :: v11 :: v12 :: .bool ((decide (0 ≤ z ∧ z ≤ 64))) :: .bool ((!(decide (0 ≤ z ∧ z ≤ 64)))) :: .bool ((!(decide (0 ≤ z ∧ z ≤ 64)))) :: v16 :: v17 :: .bool ((((!(decide (0 ≤ z ∧ z ≤ 64))) || (decide ((k : Int) < (0 : Int)))))) :: .bool ((((!(decide (0 ≤ z ∧ z ≤ 64))) || (decide ((k : Int) < (0 : Int)))))) :: v20 :: v21 :: v22 :: .bool ((((((!(decide (0 ≤ z ∧ z ≤ 64))) || (decide ((k : Int) < (0 : Int))))) || (decide ((k : Int) ≥ (z : Int)))))) :: v6 :: v25 :: v26 :: elemPtr v6 (k.toNat) :: v6 :: []) ?_
    refine nx ?_
    refine wp_ret ?_
    change bodyPost Try.prog Try.f47 (Ret (.tup2 (.ownv (B) (fun k => F k) (updQ (fun _ => 0) k.toNat ((1 : Int) : Rat)) (if (0 ≤ z ∧ z ≤ 64) ∧ 0 ≤ k ∧ k < z then z.toNat else 0)) (.eq (.bool (decide ((0 ≤ z ∧ z ≤ 64) ∧ 0 ≤ k ∧ k < z))))) w) .ret _ _
    exact body_slot2 rfl (ownv_cast (ownv_n ((if_pos hz.1).trans (if_pos hz).symm) h6) hB (fun k hk => hk) (fun _ _ => rfl)) (by show Value.bool _ = Value.bool _; rw [show (true) = (decide ((0 ≤ z ∧ z ≤ 64) ∧ 0 ≤ k ∧ k < z)) from (by first | exact (decide_eq_false (unit_yes hd)).symm | exact (decide_eq_true hz).symm)]) rfl W13
set_option maxRecDepth 100000 in
set_option maxHeartbeats 2000000 in
theorem cCombine {B : Nat} {F : Nat → Prop} {q : Nat → Rat} {v : Nat → Nat → Rat} {m : Nat → Nat} {n k : Nat} {va : Value} {vb : Value} {w : World} (hB : B ≤ w.heap.size) (hF : ∀ k, F k → k < w.heap.size) (hv : (MR.vec (fun _ => False) (q) (n)).R w va) (hv2 : (MR.sl (fun _ => False) 1 (fun i => .vec (fun _ => False) (v i) (m i)) (k)).R w vb) (hm : m 0 ≤ 68719476736) (hs : ∀ i, i < k → ∀ j, j < m 0 → j < m i → szq (q i) + szq (v i j) ≤ 17179869184 ∧ szq (combV q v i j) + szq (q i * v i j) ≤ 17179869184) : Calls Try.prog 18 #[va, vb] w (Ret (.tup2 (.ownv (B) (fun k => F k) (combV q v k) (if n = k ∧ 0 < k ∧ ∀ i, i < k → m i = m 0 then m 0 else 0)) (.eq (.bool (decide (n = k ∧ 0 < k ∧ ∀ i, i < k → m i = m 0))))) w) := by
  have hl1 := vec_len hv
  have hl2 := vec_len hv2
  refine calls_enter (a := ⟨List.toArray ([va, vb] ++ us 44), []⟩) Try.func18 rfl (by kernel_rfl) ?_
  have NL : NoLook (bodyPost Try.prog Try.f18 (Ret (.tup2 (.ownv (B) (fun k => F k) (combV q v k) (if n = k ∧ 0 < k ∧ ∀ i, i < k → m i = m 0 then m 0 else 0)) (.eq (.bool (decide (n = k ∧ 0 < k ∧ ∀ i, i < k → m i = m 0))))) w)) := noLook_body
  refine wp_seq ?_
  refine rg (fun c d v a w h => NL c d v a w h) [(4, .eq (.slice none 0 0)), (5, .eq (.bool (false)))] [] [] [] 46 2 ?_ ?_
  · refine so [] (fun w1 hw1 => .fin (yld_assign rfl ⟨Grow.refl _, rfl⟩)) ?_
    exact so [] (fun w1 hw1 => .fin (yld_assign rfl ⟨Grow.refl _, rfl⟩)) (.nil _ _)
  rintro w1 hw1 _ rfl _ rfl -
  have W1 : Grow w w1 := (Grow.refl w).trans hw1
  have z1 : w.heap.size ≤ w1.heap.size := hw1.size
  replace hv := MR.mono _ hw1 hv
  replace hv2 := MR.mono _ hw1 hv2
  refine fr ([va, vb, u, u, .slice none 0 0, .bool (false)] ++ us 40) ?_
  refine nx ?_
  refine wp_seq ?_
  refine wp_seq ?_
  obtain ⟨x3, ex3⟩ : ∃ c : Bool, c = ((((n : Nat) : Int) : Int) != (((k : Nat) : Int) : Int)) := ⟨_, rfl⟩
  obtain ⟨x4, ex4⟩ : ∃ c : Bool, c = ((((k : Nat) : Int) : Int) == (0 : Int)) := ⟨_, rfl⟩
  obtain ⟨x5, ex5⟩ : ∃ c : Bool, c = ((x3 || x4)) := ⟨_, rfl⟩
  refine rg (fun c d v a w h => NL c d v a w h) [(10, .vec (fun _ => False) (q) (n)), (11, .eq (.int .i64 (((n : Nat) : Int)))), (12, .sl (fun _ => False) 1 (fun i => .vec (fun _ => False) (v i) (m i)) (k)), (13, .eq (.int .i64 (((k : Nat) : Int)))), (14, .eq (.bool (x3))), (15, .eq (.bool (x3))), (16, .opt ((x3 == false)) (.sl (fun _ => False) 1 (fun i => .vec (fun _ => False) (v i) (m i)) (k))), (17, .opt ((x3 == false)) (.eq (.int .i64 (((k : Nat) : Int))))), (18, .opt ((x3 == false)) (.eq (.bool (x4)))), (19, .eq (.bool (x5)))] [] [] [] 46 10 ?_ ?_
  · refine so [] (fun w2 hw2 => .fin (yld_move rfl ⟨Grow.refl _, (MR.mono _ hw2 hv)⟩)) ?_
    refine soP [(10, .vec (fun _ => False) (q) (n))] (fun w2 hw2 => by rintro v10 h10; exact .fin (yld_lenS Try.underlying25 rfl h10)) ?_
    refine so [] (fun w2 hw2 => .fin (yld_move rfl ⟨Grow.refl _, (MR.mono _ hw2 hv2)⟩)) ?_
    refine soP [(12, .sl (fun _ => False) 1 (fun i => .vec (fun _ => False) (v i) (m i)) (k))] (fun w2 hw2 => by rintro v12 h12; exact .fin (yld_lenS Try.underlying41 rfl h12)) ?_
    refine so [1, 3] (fun w2 hw2 => by rintro _ rfl _ rfl; exact .fin (yld_eqTo (c := .bool ((((n : Nat) : Int) : Int) != (((k : Nat) : Int) : Int))) (yld_neq rfl rfl rfl ⟨Grow.refl _, rfl⟩) (congrArg Value.bool ex3.symm))) ?_
    refine so [4] (fun w2 hw2 => by rintro _ rfl; exact .fin (yld_move rfl ⟨Grow.refl _, rfl⟩)) ?_
    refine sg (c := (x3 == false)) 15 [5] (fun w2 hw2 => by rintro _ rfl; exact .fin (⟨guard_eq, fun hc => yld_move rfl ⟨Grow.refl _, (MR.mono _ hw2 hv2)⟩⟩)) ?_
    refine sgP (c := (x3 == false)) 15 [(15, .eq (.bool (x3))), (16, .opt ((x3 == false)) (.sl (fun _ => False) 1 (fun i => .vec (fun _ => False) (v i) (m i)) (k)))] (fun w2 hw2 => by rintro _ rfl v16 h16; exact .fin (⟨guard_eq, fun hc => yld_lenS Try.underlying41 rfl (h16.1 (by revert hc; exact fun h => h))⟩)) ?_
    refine sg (c := (x3 == false)) 15 [5, 7] (fun w2 hw2 => by rintro _ rfl v17 h17; exact .fin (⟨guard_eq, fun hc => yld_eqTo (c := .bool ((((k : Nat) : Int) : Int) == (0 : Int))) (yld_eql rfl (show v17 = .int .i64 (((k : Nat) : Int)) from (h17.1 (by revert hc; exact fun h => h))) rfl ⟨Grow.refl _, rfl⟩) (congrArg Value.bool ex4.symm)⟩)) ?_
    exact so [5, 8] (fun w2 hw2 => by rintro _ rfl v18 h18; exact .fin (yld_eqTo (c := .bool ((x3 || x4))) (yld_pick_or rfl rfl rfl (fun ht => h18.1 (by revert ht; cases x3 <;> decide)) ⟨Grow.refl _, rfl⟩) (congrArg Value.bool ex5.symm))) (.nil _ _)
  rintro w2 hw2 v10 - v11 - v12 - v13 - _ rfl _ rfl v16 - v17 - v18 - _ rfl -
  have W2 : Grow w w2 := W1.trans hw2
  have z2 : w1.heap.size ≤ w2.heap.size := hw2.size
  replace hv := MR.mono _ hw2 hv
  replace hv2 := MR.mono _ hw2 hv2
  subst ex3
  subst ex4
  subst ex5
  refine fr ((va :: vb :: u :: u :: .slice none 0 0 :: .bool (false) :: u :: u :: u :: u :: v10 :: v11 :: v12 :: v13 :: .bool (((((n : Nat) : Int) : Int) != (((k : Nat) : Int) : Int))) :: .bool (((((n : Nat) : Int) : Int) != (((k : Nat) : Int) : Int))) :: v16 :: v17 :: v18 :: .bool (((((((n : Nat) : Int) : Int) != (((k : Nat) : Int) : Int)) || ((((k : Nat) : Int) : Int) == (0 : Int))))) :: []) ++ us 26) ?_
  refine nx ?_
  refine wp_cond_split (t := ((((((n : Nat) : Int) : Int) != (((k : Nat) : Int) : Int)) || ((((k : Nat) : Int) : Int) == (0 : Int))))) rfl (fun hd => ?_) (fun hd => ?_)
  · refine wp_seq ?_
    refine rg (fun c d v a w h => NL c d v a w h) [(4, .eq (.slice none 0 0)), (5, .eq (.bool (false)))] [] [] [] 46 2 ?_ ?_
    · refine so [] (fun w6 hw6 => .fin (yld_assign rfl ⟨Grow.refl _, rfl⟩)) ?_
      exact so [] (fun w6 hw6 => .fin (yld_assign rfl ⟨Grow.refl _, rfl⟩)) (.nil _ _)
    rintro w6 hw6 _ rfl _ rfl -
    have W6 : Grow w w6 := W2.trans hw6
    have z6 : w2.heap.size ≤ w6.heap.size := hw6.size
    replace hv := MR.mono _ hw6 hv
    replace hv2 := MR.mono _ hw6 hv2
    refine fr ((va :: vb :: u :: u :: .slice none 0 0 :: .bool (false) :: u :: u :: u :: u :: v10 :: v11 :: v12 :: v13 :: .bool (((((n : Nat) : Int) : Int) != (((k : Nat) : Int) : Int))) :: .bool (((((n : Nat) : Int) : Int) != (((k : Nat) : Int) : Int))) :: v16 :: v17 :: v18 :: .bool (((((((n : Nat) : Int) : Int) != (((k : Nat) : Int) : Int)) || ((((k : Nat) : Int) : Int) == (0 : Int))))) :: []) ++ us 26) ?_
    refine nx ?_
    refine wp_ret ?_
    change bodyPost Try.prog Try.f18 (Ret (.tup2 (.ownv (B) (fun k => F k) (combV q v k) (if n = k ∧ 0 < k ∧ ∀ i, i < k → m i = m 0 then m 0 else 0)) (.eq (.bool (decide (n = k ∧ 0 < k ∧ ∀ i, i < k → m i = m 0))))) w) .ret _ _
    exact body_slot2 rfl (by rw [if_neg (by first | exact comb_no hd | exact fun h => hmn (h.2.2 i hlt).symm)]; exact ownv_nil) (by show Value.bool _ = Value.bool _; rw [show (false) = (decide (n = k ∧ 0 < k ∧ ∀ i, i < k → m i = m 0)) from (by first | exact (decide_eq_false (comb_no hd)).symm | exact (decide_eq_false fun h => hmn (h.2.2 i hlt).symm).symm | exact (decide_eq_true hfit).symm)]) rfl W6
  · obtain ⟨hnk, hk0⟩ := comb_yes hd
    refine wp_skip ?_
    change Code.wp _ _ _ ⟨_, []⟩ _
    refine wp_seq ?_
    refine rg (fun c d v a w h => NL c d v a w h) [(20, .sl (fun _ => False) 1 (fun i => .vec (fun _ => False) (v i) (m i)) (k)), (21, .eptr (fun _ => False) 1 (.vec (fun _ => False) (v 0) (m 0))), (22, .vec (fun _ => False) (v 0) (m 0)), (23, .eq (.int .i64 (((m 0 : Nat) : Int)))), (24, .ownv (w.heap.size) (fun k => F k) (fun _ => 0) (m 0)), (6, .ownv (w.heap.size) (fun k => F k) (fun _ => 0) (m 0)), (7, .eq (.bool (true)))] [] [] [] 46 7 ?_ ?_
    · refine so [] (fun w7 hw7 => .fin (yld_move rfl ⟨Grow.refl _, (MR.mono _ hw7 hv2)⟩)) ?_
      refine soP [(20, .sl (fun _ => False) 1 (fun i => .vec (fun _ => False) (v i) (m i)) (k))] (fun w7 hw7 => by rintro v20 h20; exact .fin (yld_indexS (E := fun i => .vec (fun _ => False) (v i) (m i)) (k := 0) Try.underlying41 (by kernel_rfl) rfl h20 rfl rfl (hk0))) ?_
      refine soP [(21, .eptr (fun _ => False) 1 (.vec (fun _ => False) (v 0) (m 0)))] (fun w7 hw7 => by rintro v21 h21; exact .fin (yld_loadVV ⟨_, Try.underlying25, rfl⟩ rfl h21)) ?_
      refine soP [(22, .vec (fun _ => False) (v 0) (m 0))] (fun w7 hw7 => by rintro v22 h22; exact .fin (yld_lenS Try.underlying25 rfl h22)) ?_
      refine so [3] (fun w7 hw7 => by rintro _ rfl; exact .fin (yld_makeV (B := w.heap.size) (F := fun k => F k) Try.underlying25 rfl rfl rfl (hm) (Grow.trans W2 hw7).size (fun k hk => (fun h => Nat.lt_of_lt_of_le (hF k h) (Grow.trans W2 hw7).size) hk))) ?_
      refine soP [(24, .ownv (w.heap.size) (fun k => F k) (fun _ => 0) (m 0))] (fun w7 hw7 => by rintro v24 h24; exact .fin (yld_assign rfl ⟨Grow.refl _, h24⟩)) ?_
      exact so [] (fun w7 hw7 => .fin (yld_assign rfl ⟨Grow.refl _, rfl⟩)) (.nil _ _)
    rintro w7 hw7 v20 - v21 - v22 - v23 - v24 - v6 h6 _ rfl -
    have W7 : Grow w w7 := W2.trans hw7
    have z7 : w2.heap.size ≤ w7.heap.size := hw7.size
    replace h6 := ownv_own (F' := fun k => (F k) ∨ w7.heap.size ≤ k) h6 (fun k hk => hk)
    replace hv := MR.mono _ hw7 hv
    replace hv2 := MR.mono _ hw7 hv2
    refine fr ((va :: vb :: u :: u :: .slice none 0 0 :: .bool (false) :: v6 :: .bool (true) :: u :: u :: v10 :: v11 :: v12 :: v13 :: .bool (((((n : Nat) : Int) : Int) != (((k : Nat) : Int) : Int))) :: .bool (((((n : Nat) : Int) : Int) != (((k : Nat) : Int) : Int))) :: v16 :: v17 :: v18 :: .bool (((((((n : Nat) : Int) : Int) != (((k : Nat) : Int) : Int)) || ((((k : Nat) : Int) : Int) == (0 : Int))))) :: v20 :: v21 :: v22 :: v23 :: v24 :: []) ++ us 21) ?_
    refine nx ?_
    refine wp_seq ?_
    refine wp_seq ?_
    refine rg (fun c d v a w h => NL c d v a w h) [(25, .sl (fun _ => False) 1 (fun i => .vec (fun _ => False) (v i) (m i)) (k)), (26, .eq (.int .i64 (((k : Nat) : Int)))), (27, .eq (.int .i64 (0)))] [] [] [] 46 3 ?_ ?_
    · refine so [] (fun w8 hw8 => .fin (yld_move rfl ⟨Grow.refl _, (MR.mono _ hw8 hv2)⟩)) ?_
      refine soP [(25, .sl (fun _ => False) 1 (fun i => .vec (fun _ => False) (v i) (m i)) (k))] (fun w8 hw8 => by rintro v25 h25; exact .fin (yld_lenS Try.underlying41 rfl h25)) ?_
      exact so [] (fun w8 hw8 => .fin (yld_move rfl ⟨Grow.refl _, rfl⟩)) (.nil _ _)
    rintro w8 hw8 v25 h25 _ rfl _ rfl -
    have W8 : Grow w w8 := W7.trans hw8
    have z8 : w7.heap.size ≤ w8.heap.size := hw8.size
    replace hv := MR.mono _ hw8 hv
    replace hv2 := MR.mono _ hw8 hv2
    replace h6 := MR.mono _ hw8 h6
    refine fr ((va :: vb :: u :: u :: .slice none 0 0 :: .bool (false) :: v6 :: .bool (true) :: u :: u :: v10 :: v11 :: v12 :: v13 :: .bool (((((n : Nat) : Int) : Int) != (((k : Nat) : Int) : Int))) :: .bool (((((n : Nat) : Int) : Int) != (((k : Nat) : Int) : Int))) :: v16 :: v17 :: v18 :: .bool (((((((n : Nat) : Int) : Int) != (((k : Nat) : Int) : Int)) || ((((k : Nat) : Int) : Int) == (0 : Int))))) :: v20 :: v21 :: v22 :: v23 :: v24 :: v25 :: It k :: .int .i64 (0) :: []) ++ us 18) ?_
    refine nx ?_
    refine wp_block ?_
    refine wp_loop_ghost (fun nn ac9 w9 => ∃ (i : Nat), nn = k - i ∧ (i ≤ k ∧ ∀ j, j < i → m j = m 0) ∧ ∃ (t6 : Value) (tt9 : Nat → Value), ac9 = ⟨List.toArray (va :: vb :: u :: u :: (tt9 4) :: (tt9 5) :: t6 :: (tt9 7) :: (tt9 8) :: (tt9 9) :: v10 :: v11 :: v12 :: v13 :: .bool (((((n : Nat) : Int) : Int) != (((k : Nat) : Int) : Int))) :: .bool (((((n : Nat) : Int) : Int) != (((k : Nat) : Int) : Int))) :: v16 :: v17 :: v18 :: .bool (((((((n : Nat) : Int) : Int) != (((k : Nat) : Int) : Int)) || ((((k : Nat) : Int) : Int) == (0 : Int))))) :: v20 :: v21 :: v22 :: v23 :: v24 :: v25 :: It k :: It i :: (tt9 28) :: (tt9 29) :: (tt9 30) :: (tt9 31) :: (tt9 32) :: (tt9 33) :: (tt9 34) :: (tt9 35) :: (tt9 36) :: (tt9 37) :: (tt9 38) :: (tt9 39) :: (tt9 40) :: (tt9 41) :: (tt9 42) :: (tt9 43) :: (tt9 44) :: u :: []), []⟩ ∧ Grow w w9 ∧ (MR.vec (fun _ => False) (q) (n)).R w9 va ∧ (MR.sl (fun _ => False) 1 (fun i => .vec (fun _ => False) (v i) (m i)) (k)).R w9 vb ∧ (MR.ownv (w.heap.size) (fun k => F k) (combV q v i) (m 0)).R w9 t6 ∧ (MR.sl (fun _ => False) 1 (fun i => .vec (fun _ => False) (v i) (m i)) (k)).R w9 v25) (k - 0) ⟨0, rfl, ⟨Nat.zero_le _, fun j hj => by omega⟩, v6, fun d => ((.slice none 0 0 :: .bool (false) :: v6 :: .bool (true) :: u :: u :: v10 :: v11 :: v12 :: v13 :: .bool (((((n : Nat) : Int) : Int) != (((k : Nat) : Int) : Int))) :: .bool (((((n : Nat) : Int) : Int) != (((k : Nat) : Int) : Int))) :: v16 :: v17 :: v18 :: .bool (((((((n : Nat) : Int) : Int) != (((k : Nat) : Int) : Int)) || ((((k : Nat) : Int) : Int) == (0 : Int))))) :: v20 :: v21 :: v22 :: v23 :: v24 :: v25 :: It k :: .int .i64 (0) :: u :: u :: u :: u :: u :: u :: u :: u :: u :: u :: u :: u :: u :: u :: u :: u :: u :: []) : List Value).getD (d - 4) undef, by kernel_rfl, W8, hv, hv2, (ownv_own h6 (fun k hk => .inl (.inl hk))), h25⟩ ?_
    clear hv hv2 h6 h25
    rintro nn9 _ w9 ⟨i, hnn9, ⟨hik, heq⟩, t6, tt9, rfl, W9, hv, hv2, h6, h25⟩
    refine wp_seq ?_
    refine rg (fun c d v a w h => NL c d v a w h) [(28, .eq (.bool (decide ((((i : Nat) : Int) : Int) < (((k : Nat) : Int) : Int)))))] [] [] [] 46 1 ?_ ?_
    · exact so [] (fun w10 hw10 => .fin (yld_lss rfl rfl rfl ⟨Grow.refl _, rfl⟩)) (.nil _ _)
    rintro w10 hw10 _ rfl -
    have W10 : Grow w w10 := W9.trans hw10
    have z10 : w9.heap.size ≤ w10.heap.size := hw10.size
    replace hv := MR.mono _ hw10 hv
    replace hv2 := MR.mono _ hw10 hv2
    replace h6 := MR.mono _ hw10 h6
    replace h25 := MR.mono _ hw10 h25
    refine fr (va :: vb :: u :: u :: (tt9 4) :: (tt9 5) :: t6 :: (tt9 7) :: (tt9 8) :: (tt9 9) :: v10 :: v11 :: v12 :: v13 :: .bool (((((n : Nat) : Int) : Int) != (((k : Nat) : Int) : Int))) :: .bool (((((n : Nat) : Int) : Int) != (((k : Nat) : Int) : Int))) :: v16 :: v17 :: v18 :: .bool (((((((n : Nat) : Int) : Int) != (((k : Nat) : Int) : Int)) || ((((k : Nat) : Int) : Int) == (0 : Int))))) :: v20 :: v21 :: v22 :: v23 :: v24 :: v25 :: It k :: It i :: .bool (decide ((((i : Nat) : Int) : Int) < (((k : Nat) : Int) : Int))) :: (tt9 29) :: (tt9 30) :: (tt9 31) :: (tt9 32) :: (tt9 33) :: (tt9 34) :: (tt9 35) :: (tt9 36) :: (tt9 37) :: (tt9 38) :: (tt9 39) :: (tt9 40) :: (tt9 41) :: (tt9 42) :: (tt9 43) :: (tt9 44) :: u :: []) ?_
    refine nx ?_
    refine wp_seq ?_
    refine wp_cond_split (t := decide ((((i : Nat) : Int) : Int) < (((k : Nat) : Int) : Int))) rfl (fun hc => ?_) (fun hc => ?_)
    · have hlt : i < k := by have := of_decide_eq_true hc; omega
      refine wp_skip ?_
      change Code.wp _ _ _ ⟨_, []⟩ _
      refine wp_seq ?_
      refine wp_block ?_
      refine wp_seq ?_
      refine rg (fun c d v a w h => NL c d v a w h) [(29, .eq (.int .i64 (((i : Nat) : Int)))), (30, .eptr (fun _ => False) 1 (.vec (fun _ => False) (v i) (m i))), (31, .vec (fun _ => False) (v i) (m i)), (8, .eq (.int .i64 (((i : Nat) : Int)))), (9, .vec (fun _ => False) (v i) (m i))] [] [] [] 46 5 ?_ ?_
      · refine so [] (fun w11 hw11 => .fin (yld_move rfl ⟨Grow.refl _, rfl⟩)) ?_
        refine so [] (fun w11 hw11 => .fin (yld_indexS (E := fun i => .vec (fun _ => False) (v i) (m i)) (k := i) Try.underlying41 (by kernel_rfl) rfl (MR.mono _ hw11 h25) rfl rfl (hlt))) ?_
        refine soP [(30, .eptr (fun _ => False) 1 (.vec (fun _ => False) (v i) (m i)))] (fun w11 hw11 => by rintro v30 h30; exact .fin (yld_loadVV ⟨_, Try.underlying25, rfl⟩ rfl h30)) ?_
        refine so [0] (fun w11 hw11 => by rintro _ rfl; exact .fin (yld_assign rfl ⟨Grow.refl _, rfl⟩)) ?_
        exact soP [(31, .vec (fun _ => False) (v i) (m i))] (fun w11 hw11 => by rintro v31 h31; exact .fin (yld_assign rfl ⟨Grow.refl _, h31⟩)) (.nil _ _)
      rintro w11 hw11 v29 - v30 - v31 - _ rfl v9 h9 -
      have W11 : Grow w w11 := W10.trans hw11
      have z11 : w10.heap.size ≤ w11.heap.size := hw11.size
      replace h9 := sl_own (F' := fun k => w11.heap.size ≤ k) h9 (fun k hk => .inr hk)
      replace hv := MR.mono _ hw11 hv
      replace hv2 := MR.mono _ hw11 hv2
      replace h6 := MR.mono _ hw11 h6
      replace h25 := MR.mono _ hw11 h25
      refine fr (va :: vb :: u :: u :: (tt9 4) :: (tt9 5) :: t6 :: (tt9 7) :: It i :: v9 :: v10 :: v11 :: v12 :: v13 :: .bool (((((n : Nat) : Int) : Int) != (((k : Nat) : Int) : Int))) :: .bool (((((n : Nat) : Int) : Int) != (((k : Nat) : Int) : Int))) :: v16 :: v17 :: v18 :: .bool (((((((n : Nat) : Int) : Int) != (((k : Nat) : Int) : Int)) || ((((k : Nat) : Int) : Int) == (0 : Int))))) :: v20 :: v21 :: v22 :: v23 :: v24 :: v25 :: It k :: It i :: .bool (decide ((((i : Nat) : Int) : Int) < (((k : Nat) : Int) : Int))) :: v29 :: v30 :: v31 :: (tt9 32) :: (tt9 33) :: (tt9 34) :: (tt9 35) :: (tt9 36) :: (tt9 37) :: (tt9 38) :: (tt9 39) :: (tt9 40) :: (tt9 41) :: (tt9 42) :: (tt9 43) :: (tt9 44) :: u :: []) ?_
      refine nx ?_
      refine wp_seq ?_
      refine rg (fun c d v a w h => NL c d v a w h) [(33, .eq (t6)), (34, .vec (fun _ => False) (q) (n)), (35, .eq (.int .i64 (((i : Nat) : Int)))), (36, .eptr (fun _ => False) 3 (.rat (q i))), (37, .rat (q i)), (38, .vec (fun k => w11.heap.size ≤ k) (v i) (m i)), (39, .tup2 (.ownv (w.heap.size) (fun k => F k) (fun j0 => (combV q v i) j0 + (q i) * (v i) j0) (if m 0 = m i then m 0 else 0)) (.eq (.bool (decide (m 0 = m i))))), (32, .tup2 (.ownv (w.heap.size) (fun k => F k) (fun j0 => (combV q v i) j0 + (q i) * (v i) j0) (if m 0 = m i then m 0 else 0)) (.eq (.bool (decide (m 0 = m i))))), (40, .ownv (w.heap.size) (fun k => F k) (fun j0 => (combV q v i) j0 + (q i) * (v i) j0) (if m 0 = m i then m 0 else 0)), (41, .eq (.bool (decide (m 0 = m i))))] [] [9] [] 46 10 ?_ ?_
      · refine so [] (fun w12 hw12 => .fin (yld_move rfl ⟨Grow.refl _, rfl⟩)) ?_
        refine so [] (fun w12 hw12 => .fin (yld_move rfl ⟨Grow.refl _, (MR.mono _ hw12 hv)⟩)) ?_
        refine so [] (fun w12 hw12 => .fin (yld_move rfl ⟨Grow.refl _, rfl⟩)) ?_
        refine soP [(34, .vec (fun _ => False) (q) (n)), (35, .eq (.int .i64 (((i : Nat) : Int))))] (fun w12 hw12 => by rintro v34 h34 _ rfl; exact .fin (yld_indexV (k := i) Try.underlying25 rfl h34 rfl rfl ((by omega)))) ?_
        refine soP [(36, .eptr (fun _ => False) 3 (.rat (q i)))] (fun w12 hw12 => by rintro v36 h36; exact .fin (yld_loadQ rfl h36)) ?_
        refine so [] (fun w12 hw12 => .fin (yld_move rfl ⟨Grow.refl _, (MR.mono _ hw12 h9)⟩)) ?_
        refine soP [(33, .eq (t6)), (37, .rat (q i)), (38, .vec (fun k => w11.heap.size ≤ k) (v i) (m i))] (fun w12 hw12 => by rintro v33 e33 v37 h37 v38 h38; subst v33; exact .fin (yld_call rfl cal_vec_AddTimes rfl (cAddTimes (B := w.heap.size) (F := fun k => F k) (Grow.trans W11 hw12).size (fun k hk => (fun h => Nat.lt_of_lt_of_le (hF k h) (Grow.trans W11 hw12).size) hk) (vec0 (ownv_vec (MR.mono _ hw12 h6))) h37 (vec0 h38) (hm) (hs i hlt)))) ?_
        refine soP [(39, .tup2 (.ownv (w.heap.size) (fun k => F k) (fun j0 => (combV q v i) j0 + (q i) * (v i) j0) (if m 0 = m i then m 0 else 0)) (.eq (.bool (decide (m 0 = m i)))))] (fun w12 hw12 => by rintro _ ⟨x39_0, x39_1, rfl, hx39_0, hx39_1⟩; exact .fin (yld_move rfl ⟨Grow.refl _, ⟨x39_0, x39_1, rfl, hx39_0, hx39_1⟩⟩)) ?_
        refine soP [(32, .tup2 (.ownv (w.heap.size) (fun k => F k) (fun j0 => (combV q v i) j0 + (q i) * (v i) j0) (if m 0 = m i then m 0 else 0)) (.eq (.bool (decide (m 0 = m i)))))] (fun w12 hw12 => by rintro _ ⟨x32_0, x32_1, rfl, hx32_0, hx32_1⟩; exact .fin (yld_extract rfl rfl rfl ⟨Grow.refl _, hx32_0⟩)) ?_
        exact slP [(32, .tup2 (.ownv (w.heap.size) (fun k => F k) (fun j0 => (combV q v i) j0 + (q i) * (v i) j0) (if m 0 = m i then m 0 else 0)) (.eq (.bool (decide (m 0 = m i)))))] (fun w12 hw12 => by rintro _ ⟨x32_0, x32_1, rfl, hx32_0, hx32_1⟩; exact .fin (⟨_, fun w2 _ => pure_extract rfl rfl rfl w2, hx32_1⟩)) (.nil _ _)
      rintro w12 hw12 v33 e33 v34 - v35 - v36 - v37 - v38 - v39 - v32 - v40 h40 _ rfl -
      have W12 : Grow w w12 := W11.trans hw12
      have z12 : w11.heap.size ≤ w12.heap.size := hw12.size
      subst v33
      replace h40 := ownv_own (F' := fun k => (F k) ∨ w12.heap.size ≤ k) h40 (fun k hk => hk)
      replace hv := MR.mono _ hw12 hv
      replace hv2 := MR.mono _ hw12 hv2
      replace h6 := MR.mono _ hw12 h6
      replace h25 := MR.mono _ hw12 h25
      have KK : Kept [] w12 w12 := fun _ _ => rfl
      refine fr (va :: vb :: u :: u :: (tt9 4) :: (tt9 5) :: t6 :: (tt9 7) :: It i :: v9 :: v10 :: v11 :: v12 :: v13 :: .bool (((((n : Nat) : Int) : Int) != (((k : Nat) : Int) : Int))) :: .bool (((((n : Nat) : Int) : Int) != (((k : Nat) : Int) : Int))) :: v16 :: v17 :: v18 :: .bool (((((((n : Nat) : Int) : Int) != (((k : Nat) : Int) : Int)) || ((((k : Nat) : Int) : Int) == (0 : Int))))) :: v20 :: v21 :: v22 :: v23 :: v24 :: v25 :: It k :: It i :: .bool (decide ((((i : Nat) : Int) : Int) < (((k : Nat) : Int) : Int))) :: v29 :: v30 :: v31 :: v32 :: t6 :: v34 :: v35 :: v36 :: v37 :: v38 :: v39 :: v40 :: .bool (decide (m 0 = m i)) :: (tt9 42) :: (tt9 43) :: (tt9 44) :: u :: []) ?_
      change wpListS _ _ _ _ [_, _] ⟨_, []⟩ _
      refine wpListS_yld rfl ?_
      refine yld_assign rfl ⟨fun _ => KK, ?_⟩
      change wpListS _ _ _ _ [_] ⟨List.toArray (List.set _ 6 _), []⟩ _
      refine wpListS_yld rfl ?_
      refine yld_assign rfl ⟨fun _ => KK, ?_⟩
      refine wpListS_nil ?_
      change Code.wp _ _ _ ⟨List.toArray (List.set _ 7 _), []⟩ _
      refine wp_seq ?_
      refine rg (fun c d v a w h => NL c d v a w h) [(42, .eq (.bool (decide (m 0 = m i)))), (43, .eq (.bool (!(decide (m 0 = m i)))))] [] [] [] 46 2 ?_ ?_
      · refine so [] (fun w13 hw13 => .fin (yld_move rfl ⟨Grow.refl _, rfl⟩)) ?_
        exact so [0] (fun w13 hw13 => by rintro _ rfl; exact .fin (yld_not rfl rfl ⟨Grow.refl _, rfl⟩)) (.nil _ _)
      rintro w13 hw13 v42 - _ rfl -
      have W13 : Grow w w13 := W12.trans hw13
      have z13 : w12.heap.size ≤ w13.heap.size := hw13.size
      replace hv := MR.mono _ hw13 hv
      replace hv2 := MR.mono _ hw13 hv2
      replace h40 := MR.mono _ hw13 h40
      replace h25 := MR.mono _ hw13 h25
      refine fr (va :: vb :: u :: u :: (tt9 4) :: (tt9 5) :: v40 :: .bool (decide (m 0 = m i)) :: It i :: v9 :: v10 :: v11 :: v12 :: v13 :: .bool (((((n : Nat) : Int) : Int) != (((k : Nat) : Int) : Int))) :: .bool (((((n : Nat) : Int) : Int) != (((k : Nat) : Int) : Int))) :: v16 :: v17 :: v18 :: .bool (((((((n : Nat) : Int) : Int) != (((k : Nat) : Int) : Int)) || ((((k : Nat) : Int) : Int) == (0 : Int))))) :: v20 :: v21 :: v22 :: v23 :: v24 :: v25 :: It k :: It i :: .bool (decide ((((i : Nat) : Int) : Int) < (((k : Nat) : Int) : Int))) :: v29 :: v30 :: v31 :: v32 :: t6 :: v34 :: v35 :: v36 :: v37 :: v38 :: v39 :: v40 :: .bool (decide (m 0 = m i)) :: v42 :: .bool (!(decide (m 0 = m i))) :: (tt9 44) :: u :: []) ?_
      refine nx ?_
      refine wp_cond_split (t := !(decide (m 0 = m i))) rfl (fun ho => ?_) (fun ho => ?_)
      · have hmn : m 0 ≠ m i := by simpa using ho
        refine wp_seq ?_
        refine rg (fun c d v a w h => NL c d v a w h) [(4, .eq (.slice none 0 0)), (5, .eq (.bool (false)))] [] [] [] 46 2 ?_ ?_
        · refine so [] (fun w14 hw14 => .fin (yld_assign rfl ⟨Grow.refl _, rfl⟩)) ?_
          exact so [] (fun w14 hw14 => .fin (yld_assign rfl ⟨Grow.refl _, rfl⟩)) (.nil _ _)
        rintro w14 hw14 _ rfl _ rfl -
        have W14 : Grow w w14 := W13.trans hw14
        have z14 : w13.heap.size ≤ w14.heap.size := hw14.size
        replace hv := MR.mono _ hw14 hv
        replace hv2 := MR.mono _ hw14 hv2
        replace h40 := MR.mono _ hw14 h40
        replace h25 := MR.mono _ hw14 h25
        refine fr (va :: vb :: u :: u :: .slice none 0 0 :: .bool (false) :: v40 :: .bool (decide (m 0 = m i)) :: It i :: v9 :: v10 :: v11 :: v12 :: v13 :: .bool (((((n : Nat) : Int) : Int) != (((k : Nat) : Int) : Int))) :: .bool (((((n : Nat) : Int) : Int) != (((k : Nat) : Int) : Int))) :: v16 :: v17 :: v18 :: .bool (((((((n : Nat) : Int) : Int) != (((k : Nat) : Int) : Int)) || ((((k : Nat) : Int) : Int) == (0 : Int))))) :: v20 :: v21 :: v22 :: v23 :: v24 :: v25 :: It k :: It i :: .bool (decide ((((i : Nat) : Int) : Int) < (((k : Nat) : Int) : Int))) :: v29 :: v30 :: v31 :: v32 :: t6 :: v34 :: v35 :: v36 :: v37 :: v38 :: v39 :: v40 :: .bool (decide (m 0 = m i)) :: v42 :: .bool (!(decide (m 0 = m i))) :: (tt9 44) :: u :: []) ?_
        refine nx ?_
        refine wp_ret ?_
        change bodyPost Try.prog Try.f18 (Ret (.tup2 (.ownv (B) (fun k => F k) (combV q v k) (if n = k ∧ 0 < k ∧ ∀ i, i < k → m i = m 0 then m 0 else 0)) (.eq (.bool (decide (n = k ∧ 0 < k ∧ ∀ i, i < k → m i = m 0))))) w) .ret _ _
        exact body_slot2 rfl (by rw [if_neg (by first | exact comb_no hd | exact fun h => hmn (h.2.2 i hlt).symm)]; exact ownv_nil) (by show Value.bool _ = Value.bool _; rw [show (false) = (decide (n = k ∧ 0 < k ∧ ∀ i, i < k → m i = m 0)) from (by first | exact (decide_eq_false (comb_no hd)).symm | exact (decide_eq_false fun h => hmn (h.2.2 i hlt).symm).symm | exact (decide_eq_true hfit).symm)]) rfl W14
      · have hmi : m 0 = m i := by simpa using ho
        refine wp_skip ?_
        change Code.wp _ _ _ ⟨_, []⟩ _
        refine rg (fun c d v a w h => NL c d v a w h) [(44, .eq (.int .i64 (((i + 1 : Nat) : Int))))] [] [] [] 46 1 ?_ ?_
        · exact so [] (fun w15 hw15 => .fin (yld_add rfl rfl rfl (r := ((i + 1 : Nat) : Int)) (by rw [IntKind.wrap_i64]; omega) ⟨Grow.refl _, rfl⟩)) (.nil _ _)
        rintro w15 hw15 _ rfl -
        have W15 : Grow w w15 := W13.trans hw15
        have z15 : w13.heap.size ≤ w15.heap.size := hw15.size
        replace hv := MR.mono _ hw15 hv
        replace hv2 := MR.mono _ hw15 hv2
        replace h40 := MR.mono _ hw15 h40
        replace h25 := MR.mono _ hw15 h25
        have KK : Kept [] w15 w15 := fun _ _ => rfl
        refine fr (va :: vb :: u :: u :: (tt9 4) :: (tt9 5) :: v40 :: .bool (decide (m 0 = m i)) :: It i :: v9 :: v10 :: v11 :: v12 :: v13 :: .bool (((((n : Nat) : Int) : Int) != (((k : Nat) : Int) : Int))) :: .bool (((((n : Nat) : Int) : Int) != (((k : Nat) : Int) : Int))) :: v16 :: v17 :: v18 :: .bool (((((((n : Nat) : Int) : Int) != (((k : Nat) : Int) : Int)) || ((((k : Nat) : Int) : Int) == (0 : Int))))) :: v20 :: v21 :: v22 :: v23 :: v24 :: v25 :: It k :: It i :: .bool (decide ((((i : Nat) : Int) : Int) < (((k : Nat) : Int) : Int))) :: v29 :: v30 :: v31 :: v32 :: t6 :: v34 :: v35 :: v36 :: v37 :: v38 :: v39 :: v40 :: .bool (decide (m 0 = m i)) :: v42 :: .bool (!(decide (m 0 = m i))) :: It (i + 1) :: u :: []) ?_
        change wpListS _ _ _ _ [_] ⟨_, []⟩ _
        refine wpListS_yld rfl ?_
        refine yld_move rfl ⟨fun _ => KK, ?_⟩
        refine wpListS_nil ?_
        refine ⟨_, ?_, i + 1, rfl, ⟨by omega, same_step heq hmi⟩, v40, fun d => (((tt9 4) :: (tt9 5) :: v40 :: .bool (decide (m 0 = m i)) :: It i :: v9 :: v10 :: v11 :: v12 :: v13 :: .bool (((((n : Nat) : Int) : Int) != (((k : Nat) : Int) : Int))) :: .bool (((((n : Nat) : Int) : Int) != (((k : Nat) : Int) : Int))) :: v16 :: v17 :: v18 :: .bool (((((((n : Nat) : Int) : Int) != (((k : Nat) : Int) : Int)) || ((((k : Nat) : Int) : Int) == (0 : Int))))) :: v20 :: v21 :: v22 :: v23 :: v24 :: v25 :: It k :: It (i + 1) :: .bool (decide ((((i : Nat) : Int) : Int) < (((k : Nat) : Int) : Int))) :: v29 :: v30 :: v31 :: v32 :: t6 :: v34 :: v35 :: v36 :: v37 :: v38 :: v39 :: v40 :: .bool (decide (m 0 = m i)) :: v42 :: .bool (!(decide (m 0 = m i))) :: It (i + 1) :: []) : List Value).getD (d - 4) undef, by kernel_rfl, W15, hv, hv2, (ownv_own (ownv_n (if_pos hmi) h40) (fun k hk => .inl (.inl hk))), h25⟩
        rw [hnn9]; omega
    · have hin : i = k := by have := of_decide_eq_false hc; omega
      have hfit : n = k ∧ 0 < k ∧ ∀ i, i < k → m i = m 0 := ⟨hnk, hk0, fun j hj => heq j (by omega)⟩
      refine wp_exit ?_
      change Code.wp _ _ _ ⟨_, []⟩ _
      refine wp_seq ?_
      refine rg (fun c d v a w h => NL c d v a w h) [(45, .eq (t6)), (4, .eq (t6)), (5, .eq (.bool (true)))] [] [] [] 46 3 ?_ ?_
      · refine so [] (fun w16 hw16 => .fin (yld_move rfl ⟨Grow.refl _, rfl⟩)) ?_
        refine so [0] (fun w16 hw16 => by rintro v45 e45; subst v45; exact .fin (yld_assign rfl ⟨Grow.refl _, rfl⟩)) ?_
        exact so [] (fun w16 hw16 => .fin (yld_assign rfl ⟨Grow.refl _, rfl⟩)) (.nil _ _)
      rintro w16 hw16 v45 e45 v4 e4 _ rfl -
      have W16 : Grow w w16 := W10.trans hw16
      have z16 : w10.heap.size ≤ w16.heap.size := hw16.size
      subst v45
      subst v4
      replace hv := MR.mono _ hw16 hv
      replace hv2 := MR.mono _ hw16 hv2
      replace h6 := MR.mono _ hw16 h6
      refine fr (va :: vb :: u :: u :: t6 :: .bool (true) :: t6 :: (tt9 7) :: (tt9 8) :: (tt9 9) :: v10 :: v11 :: v12 :: v13 :: .bool (((((n : Nat) : Int) : Int) != (((k : Nat) : Int) : Int))) :: .bool (((((n : Nat) : Int) : Int) != (((k : Nat) : Int) : Int))) :: v16 :: v17 :: v18 :: .bool (((((((n : Nat) : Int) : Int) != (((k : Nat) : Int) : Int)) || ((((k : Nat) : Int) : Int) == (0 : Int))))) :: v20 :: v21 :: v22 :: v23 :: v24 :: v25 :: It k :: It i :: .bool (decide ((((i : Nat) : Int) : Int) < (((k : Nat) : Int) : Int))) :: (tt9 29) :: (tt9 30) :: (tt9 31) :: (tt9 32) :: (tt9 33) :: (tt9 34) :: (tt9 35) :: (tt9 36) :: (tt9 37) :: (tt9 38) :: (tt9 39) :: (tt9 40) :: (tt9 41) :: (tt9 42) :: (tt9 43) :: (tt9 44) :: t6 :: []) ?_
      refine nx ?_
      refine wp_ret ?_
      change bodyPost Try.prog Try.f18 (Ret (.tup2 (.ownv (B) (fun k => F k) (combV q v k) (if n = k ∧ 0 < k ∧ ∀ i, i < k → m i = m 0 then m 0 else 0)) (.eq (.bool (decide (n = k ∧ 0 < k ∧ ∀ i, i < k → m i = m 0))))) w) .ret _ _
      exact body_slot2 rfl (ownv_cast (ownv_n (if_pos hfit).symm h6) hB (fun k hk => hk) (fun j hj => by rw [hin])) (by show Value.bool _ = Value.bool _; rw [show (true) = (decide (n = k ∧ 0 < k ∧ ∀ i, i < k → m i = m 0)) from (by first | exact (decide_eq_false (comb_no hd)).symm | exact (decide_eq_false fun h => hmn (h.2.2 i hlt).symm).symm | exact (decide_eq_true hfit).symm)]) rfl W16
end Go.Proofs.Ytngghjhmfpmilaa
/- package vec (e). -/
namespace Go.Proofs.Ytngghjhmfpmilaa
open Go.RowKit
theorem cal_vec_Same : Callable Try.prog 17 := callable_of Try.func17 rfl (by kernel_rfl)
theorem cal_vec_Combine : Callable Try.prog 18 := callable_of Try.func18 rfl (by kernel_rfl)
theorem cal_vec_Dot : Callable Try.prog 22 := callable_of Try.func22 rfl (by kernel_rfl)
theorem cal_vec_Add : Callable Try.prog 26 := callable_of Try.func26 rfl (by kernel_rfl)
theorem cal_vec_Of : Callable Try.prog 46 := callable_of Try.func46 rfl (by kernel_rfl)
theorem cal_vec_Unit : Callable Try.prog 47 := callable_of Try.func47 rfl (by kernel_rfl)
theorem cal_actuarylaw08_Is : Callable Try.prog 48 := callable_of Try.func48 rfl (by kernel_rfl)
set_option maxRecDepth 100000 in
set_option maxHeartbeats 2000000 in
theorem cAwake10   {w : World}    : Calls Try.prog 11 #[] w (Ret (.eq (.bool (true))) w) := by
  refine calls_enter (a := ⟨List.toArray ([] ++ us 70), []⟩) Try.func11 rfl (by kernel_rfl) ?_
  have NL : NoLook (bodyPost Try.prog Try.f11 (Ret (.eq (.bool (true))) w)) := noLook_body
  refine wp_seq ?_
  refine rg (fun c d v a w h => NL c d v a w h) [(0, .eq (.bool (false)))] [] [] [] 70 1 ?_ ?_
  · exact so [] (fun w1 hw1 => .fin (yld_assign rfl ⟨Grow.refl _, rfl⟩)) (.nil _ _)
  rintro w1 hw1 _ rfl -
  have W1 : Grow w w1 := (Grow.refl w).trans hw1
  have z1 : w.heap.size ≤ w1.heap.size := hw1.size
  refine fr ([.bool (false)] ++ us 69) ?_
  refine nx ?_
  refine wp_seq ?_
  refine rg (fun c d v a w h => NL c d v a w h) [(10, .ints (fun _ => False) (fun i => [1, 2].getD i 0) (2)), (11, .ownv (w.heap.size) (fun _ => False) (fun j0 => (((fun i => [1, 2].getD i 0) j0 : Int) : Rat)) (2)), (12, .ints (fun _ => False) (fun i => [3, 4].getD i 0) (2)), (13, .ownv (w.heap.size) (fun _ => False) (fun j0 => (((fun i => [3, 4].getD i 0) j0 : Int) : Rat)) (2)), (14, .tup2 (.rat (if 2 = 2 then dotQ (fun j0 => (((fun i => [1, 2].getD i 0) j0 : Int) : Rat)) (fun j0 => (((fun i => [3, 4].getD i 0) j0 : Int) : Rat)) 2 else 0)) (.eq (.bool (decide (2 = 2))))), (9, .tup2 (.rat (if 2 = 2 then dotQ (fun j0 => (((fun i => [1, 2].getD i 0) j0 : Int) : Rat)) (fun j0 => (((fun i => [3, 4].getD i 0) j0 : Int) : Rat)) 2 else 0)) (.eq (.bool (decide (2 = 2))))), (15, .rat (if 2 = 2 then dotQ (fun j0 => (((fun i => [1, 2].getD i 0) j0 : Int) : Rat)) (fun j0 => (((fun i => [3, 4].getD i 0) j0 : Int) : Rat)) 2 else 0)), (16, .eq (.bool (decide (2 = 2)))), (1, .ptr 35 (.rat (0)))] [8] [7] [] 70 9 ?_ ?_
  · refine so [] (fun w2 hw2 => .fin (yld_litI2 rfl rfl rfl)) ?_
    refine soP [(10, .ints (fun _ => False) (fun i => [1, 2].getD i 0) (2))] (fun w2 hw2 => by rintro v10 h10; exact .fin (yld_call rfl cal_vec_Of rfl (cVecOf (a := fun i => [1, 2].getD i 0) (B := w.heap.size) (F := fun _ => False) (Grow.trans W1 hw2).size (fun _ h => h.elim) h10 (by decide) (by unfold R64; decide)))) ?_
    refine so [] (fun w2 hw2 => .fin (yld_litI2 rfl rfl rfl)) ?_
    refine soP [(12, .ints (fun _ => False) (fun i => [3, 4].getD i 0) (2))] (fun w2 hw2 => by rintro v12 h12; exact .fin (yld_call rfl cal_vec_Of rfl (cVecOf (a := fun i => [3, 4].getD i 0) (B := w.heap.size) (F := fun _ => False) (Grow.trans W1 hw2).size (fun _ h => h.elim) h12 (by decide) (by unfold R64; decide)))) ?_
    refine soP [(11, .ownv (w.heap.size) (fun _ => False) (fun j0 => (((fun i => [1, 2].getD i 0) j0 : Int) : Rat)) (2)), (13, .ownv (w.heap.size) (fun _ => False) (fun j0 => (((fun i => [3, 4].getD i 0) j0 : Int) : Rat)) (2))] (fun w2 hw2 => by rintro v11 h11 v13 h13; exact .fin (yld_call rfl cal_vec_Dot rfl (cDot (vec0 (ownv_vec h11)) (vec0 (ownv_vec h13)) (by decide +kernel)))) ?_
    refine so [4] (fun w2 hw2 => by rintro _ ⟨x14_0, x14_1, rfl, hx14_0, hx14_1⟩; exact .fin (yld_move rfl ⟨Grow.refl _, ⟨x14_0, x14_1, rfl, hx14_0, hx14_1⟩⟩)) ?_
    refine so [5] (fun w2 hw2 => by rintro _ ⟨x9_0, x9_1, rfl, hx9_0, hx9_1⟩; exact .fin (yld_extract rfl rfl rfl ⟨Grow.refl _, hx9_0⟩)) ?_
    refine sl [5] (fun w2 hw2 => by rintro _ ⟨x9_0, x9_1, rfl, hx9_0, hx9_1⟩; exact .fin (⟨_, fun w2 _ => pure_extract rfl rfl rfl w2, hx9_1⟩)) ?_
    exact sn [] (fun w2 hw2 => .fin (yld_newAlloc rfl zeroRat zRat)) (.nil _ _)
  rintro w2 hw2 v10 - v11 - v12 - v13 - v14 - v9 - v15 h15 _ rfl _ ⟨b1, rfl, B1⟩ hN
  have W2 : Grow w w2 := W1.trans hw2
  have z2 : w1.heap.size ≤ w2.heap.size := hw2.size
  have g_b1 : w.heap.size ≤ b1 := Nat.le_trans W1.size hN.1.1
  have y_b1 : w1.heap.size ≤ b1 ∧ b1 < w2.heap.size := hN.1
  clear hN
  have KK : Kept [] w2 w2 := fun _ _ => rfl
  refine fr ((.bool (false) :: pt b1 :: u :: u :: u :: u :: u :: u :: u :: v9 :: v10 :: v11 :: v12 :: v13 :: v14 :: v15 :: .bool (decide (2 = 2)) :: []) ++ us 53) ?_
  change wpListS _ _ _ _ [_, _] ⟨_, []⟩ _
  refine wpListS_yld rfl ?_
  refine yld_storeBox (R' := .rat (if 2 = 2 then dotQ (fun j0 => (((fun i => [1, 2].getD i 0) j0 : Int) : Rat)) (fun j0 => (((fun i => [3, 4].getD i 0) j0 : Int) : Rat)) 2 else 0)) (b := b1) rfl rfl aggRat.size B1 (shRat _) h15 (shRat _) (St.rat _) (by decide) g_b1 fun w3 P3 E3 B' => ⟨fun _ => Kept.put KK P3 (fun _ hk => (by cases hk)), ?_⟩
  replace KK := Kept.put KK P3 (fun _ hk => (by cases hk))
  have W3 : Grow w w3 := W2.put P3 g_b1
  have z3 : w2.heap.size ≤ w3.heap.size := Nat.le_of_eq P3.size.symm
  replace B1 := B'; clear B'
  change wpListS _ _ _ _ [_] ⟨_, []⟩ _
  refine wpListS_yld rfl ?_
  refine yld_assign rfl ⟨fun _ => KK, ?_⟩
  refine wpListS_nil ?_
  change Code.wp _ _ _ ⟨List.toArray (List.set _ 2 _), []⟩ _
  refine wp_seq ?_
  refine rg (fun c d v a w h => NL c d v a w h) [(18, .ints (fun _ => False) (fun i => [1].getD i 0) (1)), (19, .ownv (w.heap.size) (fun k => k = b1) (fun j0 => (((fun i => [1].getD i 0) j0 : Int) : Rat)) (1)), (20, .ints (fun _ => False) (fun i => [1, 2].getD i 0) (2)), (21, .ownv (w.heap.size) (fun k => k = b1) (fun j0 => (((fun i => [1, 2].getD i 0) j0 : Int) : Rat)) (2)), (22, .tup2 (.ownv (w.heap.size) (fun k => k = b1) (fun j0 => (fun j0 => (((fun i => [1].getD i 0) j0 : Int) : Rat)) j0 + (fun j0 => (((fun i => [1, 2].getD i 0) j0 : Int) : Rat)) j0) (if 1 = 2 then 1 else 0)) (.eq (.bool (decide (1 = 2))))), (17, .tup2 (.ownv (w.heap.size) (fun k => k = b1) (fun j0 => (fun j0 => (((fun i => [1].getD i 0) j0 : Int) : Rat)) j0 + (fun j0 => (((fun i => [1, 2].getD i 0) j0 : Int) : Rat)) j0) (if 1 = 2 then 1 else 0)) (.eq (.bool (decide (1 = 2))))), (23, .ownv (w.heap.size) (fun k => k = b1) (fun j0 => (fun j0 => (((fun i => [1].getD i 0) j0 : Int) : Rat)) j0 + (fun j0 => (((fun i => [1, 2].getD i 0) j0 : Int) : Rat)) j0) (if 1 = 2 then 1 else 0)), (24, .eq (.bool (decide (1 = 2)))), (3, .ownv (w.heap.size) (fun k => k = b1) (fun j0 => (fun j0 => (((fun i => [1].getD i 0) j0 : Int) : Rat)) j0 + (fun j0 => (((fun i => [1, 2].getD i 0) j0 : Int) : Rat)) j0) (if 1 = 2 then 1 else 0)), (4, .eq (.bool (decide (1 = 2))))] [] [] [] 70 10 ?_ ?_
  · refine so [] (fun w4 hw4 => .fin (yld_litI1 rfl rfl)) ?_
    refine soP [(18, .ints (fun _ => False) (fun i => [1].getD i 0) (1))] (fun w4 hw4 => by rintro v18 h18; exact .fin (yld_call rfl cal_vec_Of rfl (cVecOf (a := fun i => [1].getD i 0) (B := w.heap.size) (F := fun k => k = b1) (Grow.trans W3 hw4).size (fun k hk => (fun e => by rw [e]; exact Nat.lt_of_lt_of_le B1.lt hw4.size) hk) h18 (by decide) (by unfold R64; decide)))) ?_
    refine so [] (fun w4 hw4 => .fin (yld_litI2 rfl rfl rfl)) ?_
    refine soP [(20, .ints (fun _ => False) (fun i => [1, 2].getD i 0) (2))] (fun w4 hw4 => by rintro v20 h20; exact .fin (yld_call rfl cal_vec_Of rfl (cVecOf (a := fun i => [1, 2].getD i 0) (B := w.heap.size) (F := fun k => k = b1) (Grow.trans W3 hw4).size (fun k hk => (fun e => by rw [e]; exact Nat.lt_of_lt_of_le B1.lt hw4.size) hk) h20 (by decide) (by unfold R64; decide)))) ?_
    refine soP [(19, .ownv (w.heap.size) (fun k => k = b1) (fun j0 => (((fun i => [1].getD i 0) j0 : Int) : Rat)) (1)), (21, .ownv (w.heap.size) (fun k => k = b1) (fun j0 => (((fun i => [1, 2].getD i 0) j0 : Int) : Rat)) (2))] (fun w4 hw4 => by rintro v19 h19 v21 h21; exact .fin (yld_call rfl cal_vec_Add rfl (cVecAdd (B := w.heap.size) (F := fun k => k = b1) (Grow.trans W3 hw4).size (fun k hk => (fun e => by rw [e]; exact Nat.lt_of_lt_of_le B1.lt hw4.size) hk) (vec0 (ownv_vec h19)) (vec0 (ownv_vec h21)) (by decide) (by decide +kernel)))) ?_
    refine soP [(22, .tup2 (.ownv (w.heap.size) (fun k => k = b1) (fun j0 => (fun j0 => (((fun i => [1].getD i 0) j0 : Int) : Rat)) j0 + (fun j0 => (((fun i => [1, 2].getD i 0) j0 : Int) : Rat)) j0) (if 1 = 2 then 1 else 0)) (.eq (.bool (decide (1 = 2)))))] (fun w4 hw4 => by rintro _ ⟨x22_0, x22_1, rfl, hx22_0, hx22_1⟩; exact .fin (yld_move rfl ⟨Grow.refl _, ⟨x22_0, x22_1, rfl, hx22_0, hx22_1⟩⟩)) ?_
    refine soP [(17, .tup2 (.ownv (w.heap.size) (fun k => k = b1) (fun j0 => (fun j0 => (((fun i => [1].getD i 0) j0 : Int) : Rat)) j0 + (fun j0 => (((fun i => [1, 2].getD i 0) j0 : Int) : Rat)) j0) (if 1 = 2 then 1 else 0)) (.eq (.bool (decide (1 = 2)))))] (fun w4 hw4 => by rintro _ ⟨x17_0, x17_1, rfl, hx17_0, hx17_1⟩; exact .fin (yld_extract rfl rfl rfl ⟨Grow.refl _, hx17_0⟩)) ?_
    refine soP [(17, .tup2 (.ownv (w.heap.size) (fun k => k = b1) (fun j0 => (fun j0 => (((fun i => [1].getD i 0) j0 : Int) : Rat)) j0 + (fun j0 => (((fun i => [1, 2].getD i 0) j0 : Int) : Rat)) j0) (if 1 = 2 then 1 else 0)) (.eq (.bool (decide (1 = 2)))))] (fun w4 hw4 => by rintro _ ⟨x17_0, x17_1, rfl, hx17_0, hx17_1⟩; exact .fin (yld_extract rfl rfl rfl ⟨Grow.refl _, hx17_1⟩)) ?_
    refine soP [(23, .ownv (w.heap.size) (fun k => k = b1) (fun j0 => (fun j0 => (((fun i => [1].getD i 0) j0 : Int) : Rat)) j0 + (fun j0 => (((fun i => [1, 2].getD i 0) j0 : Int) : Rat)) j0) (if 1 = 2 then 1 else 0))] (fun w4 hw4 => by rintro v23 h23; exact .fin (yld_assign rfl ⟨Grow.refl _, h23⟩)) ?_
    exact so [7] (fun w4 hw4 => by rintro _ rfl; exact .fin (yld_assign rfl ⟨Grow.refl _, rfl⟩)) (.nil _ _)
  rintro w4 hw4 v18 - v19 - v20 - v21 - v22 - v17 - v23 - v24 - v3 - _ rfl -
  have W4 : Grow w w4 := W3.trans hw4
  have z4 : w3.heap.size ≤ w4.heap.size := hw4.size
  replace B1 := B1.grow hw4
  refine fr ((.bool (false) :: pt b1 :: .bool (decide (2 = 2)) :: v3 :: .bool (decide (1 = 2)) :: u :: u :: u :: u :: v9 :: v10 :: v11 :: v12 :: v13 :: v14 :: v15 :: .bool (decide (2 = 2)) :: v17 :: v18 :: v19 :: v20 :: v21 :: v22 :: v23 :: v24 :: []) ++ us 45) ?_
  refine nx ?_
  refine wp_seq ?_
  refine rg (fun c d v a w h => NL c d v a w h) ((26, .ints (fun _ => False) (fun i => [2, 3].getD i 0) (2)) :: (27, .ownv (w.heap.size) (fun k => k = b1) (fun j0 => (((fun i => [2, 3].getD i 0) j0 : Int) : Rat)) (2)) :: (28, .ints (fun _ => False) (fun i => [1, 0].getD i 0) (2)) :: (29, .ownv (w.heap.size) (fun k => k = b1) (fun j0 => (((fun i => [1, 0].getD i 0) j0 : Int) : Rat)) (2)) :: (30, .ints (fun _ => False) (fun i => [0, 1].getD i 0) (2)) :: (31, .ownv (w.heap.size) (fun k => k = b1) (fun j0 => (((fun i => [0, 1].getD i 0) j0 : Int) : Rat)) (2)) :: (32, .sl (fun _ => False) 1 (fun i => .vec (fun _ => False) (if i = 0 then fun j0 => (((fun i => [1, 0].getD i 0) j0 : Int) : Rat) else fun j0 => (((fun i => [0, 1].getD i 0) j0 : Int) : Rat)) (if i = 0 then 2 else 2)) (2)) :: (33, .tup2 (.ownv (w.heap.size) (fun k => k = b1) (combV (fun j0 => (((fun i => [2, 3].getD i 0) j0 : Int) : Rat)) (fun i => if i = 0 then fun j0 => (((fun i => [1, 0].getD i 0) j0 : Int) : Rat) else fun j0 => (((fun i => [0, 1].getD i 0) j0 : Int) : Rat)) 2) (if 2 = 2 ∧ 0 < 2 ∧ ∀ i, i < 2 → (fun i => if i = 0 then 2 else 2) i = (fun i => if i = 0 then 2 else 2) 0 then (fun i => if i = 0 then 2 else 2) 0 else 0)) (.eq (.bool (decide (2 = 2 ∧ 0 < 2 ∧ ∀ i, i < 2 → (fun i => if i = 0 then 2 else 2) i = (fun i => if i = 0 then 2 else 2) 0))))) :: (25, .tup2 (.ownv (w.heap.size) (fun k => k = b1) (combV (fun j0 => (((fun i => [2, 3].getD i 0) j0 : Int) : Rat)) (fun i => if i = 0 then fun j0 => (((fun i => [1, 0].getD i 0) j0 : Int) : Rat) else fun j0 => (((fun i => [0, 1].getD i 0) j0 : Int) : Rat)) 2) (if 2 = 2 ∧ 0 < 2 ∧ ∀ i, i < 2 → (fun i => if i = 0 then 2 else 2) i = (fun i => if i = 0 then 2 else 2) 0 then (fun i => if i = 0 then 2 else 2) 0 else 0)) (.eq (.bool (decide (2 = 2 ∧ 0 < 2 ∧ ∀ i, i < 2 → (fun i => if i = 0 then 2 else 2) i = (fun i => if i = 0 then 2 else 2) 0))))) :: (34, .ownv (w.heap.size) (fun k => k = b1) (combV (fun j0 => (((fun i => [2, 3].getD i 0) j0 : Int) : Rat)) (fun i => if i = 0 then fun j0 => (((fun i => [1, 0].getD i 0) j0 : Int) : Rat) else fun j0 => (((fun i => [0, 1].getD i 0) j0 : Int) : Rat)) 2) (if 2 = 2 ∧ 0 < 2 ∧ ∀ i, i < 2 → (fun i => if i = 0 then 2 else 2) i = (fun i => if i = 0 then 2 else 2) 0 then (fun i => if i = 0 then 2 else 2) 0 else 0)) :: (35, .eq (.bool (decide (2 = 2 ∧ 0 < 2 ∧ ∀ i, i < 2 → (fun i => if i = 0 then 2 else 2) i = (fun i => if i = 0 then 2 else 2) 0)))) :: (5, .ownv (w.heap.size) (fun k => k = b1) (combV (fun j0 => (((fun i => [2, 3].getD i 0) j0 : Int) : Rat)) (fun i => if i = 0 then fun j0 => (((fun i => [1, 0].getD i 0) j0 : Int) : Rat) else fun j0 => (((fun i => [0, 1].getD i 0) j0 : Int) : Rat)) 2) (if 2 = 2 ∧ 0 < 2 ∧ ∀ i, i < 2 → (fun i => if i = 0 then 2 else 2) i = (fun i => if i = 0 then 2 else 2) 0 then (fun i => if i = 0 then 2 else 2) 0 else 0)) :: (6, .eq (.bool (decide (2 = 2 ∧ 0 < 2 ∧ ∀ i, i < 2 → (fun i => if i = 0 then 2 else 2) i = (fun i => if i = 0 then 2 else 2) 0)))) :: []) [] [] [] 70 13 ?_ ?_
  · refine so [] (fun w5 hw5 => .fin (yld_litI2 rfl rfl rfl)) ?_
    refine soP [(26, .ints (fun _ => False) (fun i => [2, 3].getD i 0) (2))] (fun w5 hw5 => by rintro v26 h26; exact .fin (yld_call rfl cal_vec_Of rfl (cVecOf (a := fun i => [2, 3].getD i 0) (B := w.heap.size) (F := fun k => k = b1) (Grow.trans W4 hw5).size (fun k hk => (fun e => by rw [e]; exact Nat.lt_of_lt_of_le B1.lt hw5.size) hk) h26 (by decide) (by unfold R64; decide)))) ?_
    refine so [] (fun w5 hw5 => .fin (yld_litI2 rfl rfl rfl)) ?_
    refine soP [(28, .ints (fun _ => False) (fun i => [1, 0].getD i 0) (2))] (fun w5 hw5 => by rintro v28 h28; exact .fin (yld_call rfl cal_vec_Of rfl (cVecOf (a := fun i => [1, 0].getD i 0) (B := w.heap.size) (F := fun k => k = b1) (Grow.trans W4 hw5).size (fun k hk => (fun e => by rw [e]; exact Nat.lt_of_lt_of_le B1.lt hw5.size) hk) h28 (by decide) (by unfold R64; decide)))) ?_
    refine so [] (fun w5 hw5 => .fin (yld_litI2 rfl rfl rfl)) ?_
    refine soP [(30, .ints (fun _ => False) (fun i => [0, 1].getD i 0) (2))] (fun w5 hw5 => by rintro v30 h30; exact .fin (yld_call rfl cal_vec_Of rfl (cVecOf (a := fun i => [0, 1].getD i 0) (B := w.heap.size) (F := fun k => k = b1) (Grow.trans W4 hw5).size (fun k hk => (fun e => by rw [e]; exact Nat.lt_of_lt_of_le B1.lt hw5.size) hk) h30 (by decide) (by unfold R64; decide)))) ?_
    refine soP [(29, .ownv (w.heap.size) (fun k => k = b1) (fun j0 => (((fun i => [1, 0].getD i 0) j0 : Int) : Rat)) (2)), (31, .ownv (w.heap.size) (fun k => k = b1) (fun j0 => (((fun i => [0, 1].getD i 0) j0 : Int) : Rat)) (2))] (fun w5 hw5 => by rintro v29 h29 v31 h31; exact .fin (yld_litV2 rfl (vec0 (ownv_vec h29)) (vec0 (ownv_vec h31)))) ?_
    refine soP [(27, .ownv (w.heap.size) (fun k => k = b1) (fun j0 => (((fun i => [2, 3].getD i 0) j0 : Int) : Rat)) (2)), (32, .sl (fun _ => False) 1 (fun i => .vec (fun _ => False) (if i = 0 then fun j0 => (((fun i => [1, 0].getD i 0) j0 : Int) : Rat) else fun j0 => (((fun i => [0, 1].getD i 0) j0 : Int) : Rat)) (if i = 0 then 2 else 2)) (2))] (fun w5 hw5 => by rintro v27 h27 v32 h32; exact .fin (yld_call rfl cal_vec_Combine rfl (cCombine (v := fun i => if i = 0 then fun j0 => (((fun i => [1, 0].getD i 0) j0 : Int) : Rat) else fun j0 => (((fun i => [0, 1].getD i 0) j0 : Int) : Rat)) (m := fun i => if i = 0 then 2 else 2) (B := w.heap.size) (F := fun k => k = b1) (Grow.trans W4 hw5).size (fun k hk => (fun e => by rw [e]; exact Nat.lt_of_lt_of_le B1.lt hw5.size) hk) (vec0 (ownv_vec h27)) h32 (by decide) (by decide +kernel)))) ?_
    refine soP [(33, .tup2 (.ownv (w.heap.size) (fun k => k = b1) (combV (fun j0 => (((fun i => [2, 3].getD i 0) j0 : Int) : Rat)) (fun i => if i = 0 then fun j0 => (((fun i => [1, 0].getD i 0) j0 : Int) : Rat) else fun j0 => (((fun i => [0, 1].getD i 0) j0 : Int) : Rat)) 2) (if 2 = 2 ∧ 0 < 2 ∧ ∀ i, i < 2 → (fun i => if i = 0 then 2 else 2) i = (fun i => if i = 0 then 2 else 2) 0 then (fun i => if i = 0 then 2 else 2) 0 else 0)) (.eq (.bool (decide (2 = 2 ∧ 0 < 2 ∧ ∀ i, i < 2 → (fun i => if i = 0 then 2 else 2) i = (fun i => if i = 0 then 2 else 2) 0)))))] (fun w5 hw5 => by rintro _ ⟨x33_0, x33_1, rfl, hx33_0, hx33_1⟩; exact .fin (yld_move rfl ⟨Grow.refl _, ⟨x33_0, x33_1, rfl, hx33_0, hx33_1⟩⟩)) ?_
    refine soP [(25, .tup2 (.ownv (w.heap.size) (fun k => k = b1) (combV (fun j0 => (((fun i => [2, 3].getD i 0) j0 : Int) : Rat)) (fun i => if i = 0 then fun j0 => (((fun i => [1, 0].getD i 0) j0 : Int) : Rat) else fun j0 => (((fun i => [0, 1].getD i 0) j0 : Int) : Rat)) 2) (if 2 = 2 ∧ 0 < 2 ∧ ∀ i, i < 2 → (fun i => if i = 0 then 2 else 2) i = (fun i => if i = 0 then 2 else 2) 0 then (fun i => if i = 0 then 2 else 2) 0 else 0)) (.eq (.bool (decide (2 = 2 ∧ 0 < 2 ∧ ∀ i, i < 2 → (fun i => if i = 0 then 2 else 2) i = (fun i => if i = 0 then 2 else 2) 0)))))] (fun w5 hw5 => by rintro _ ⟨x25_0, x25_1, rfl, hx25_0, hx25_1⟩; exact .fin (yld_extract rfl rfl rfl ⟨Grow.refl _, hx25_0⟩)) ?_
    refine soP [(25, .tup2 (.ownv (w.heap.size) (fun k => k = b1) (combV (fun j0 => (((fun i => [2, 3].getD i 0) j0 : Int) : Rat)) (fun i => if i = 0 then fun j0 => (((fun i => [1, 0].getD i 0) j0 : Int) : Rat) else fun j0 => (((fun i => [0, 1].getD i 0) j0 : Int) : Rat)) 2) (if 2 = 2 ∧ 0 < 2 ∧ ∀ i, i < 2 → (fun i => if i = 0 then 2 else 2) i = (fun i => if i = 0 then 2 else 2) 0 then (fun i => if i = 0 then 2 else 2) 0 else 0)) (.eq (.bool (decide (2 = 2 ∧ 0 < 2 ∧ ∀ i, i < 2 → (fun i => if i = 0 then 2 else 2) i = (fun i => if i = 0 then 2 else 2) 0)))))] (fun w5 hw5 => by rintro _ ⟨x25_0, x25_1, rfl, hx25_0, hx25_1⟩; exact .fin (yld_extract rfl rfl rfl ⟨Grow.refl _, hx25_1⟩)) ?_
    refine soP [(34, .ownv (w.heap.size) (fun k => k = b1) (combV (fun j0 => (((fun i => [2, 3].getD i 0) j0 : Int) : Rat)) (fun i => if i = 0 then fun j0 => (((fun i => [1, 0].getD i 0) j0 : Int) : Rat) else fun j0 => (((fun i => [0, 1].getD i 0) j0 : Int) : Rat)) 2) (if 2 = 2 ∧ 0 < 2 ∧ ∀ i, i < 2 → (fun i => if i = 0 then 2 else 2) i = (fun i => if i = 0 then 2 else 2) 0 then (fun i => if i = 0 then 2 else 2) 0 else 0))] (fun w5 hw5 => by rintro v34 h34; exact .fin (yld_assign rfl ⟨Grow.refl _, h34⟩)) ?_
    exact so [10] (fun w5 hw5 => by rintro _ rfl; exact .fin (yld_assign rfl ⟨Grow.refl _, rfl⟩)) (.nil _ _)
  rintro w5 hw5 v26 - v27 - v28 - v29 - v30 - v31 - v32 - v33 - v25 - v34 - v35 - v5 h5 _ rfl -
  have W5 : Grow w w5 := W4.trans hw5
  have z5 : w4.heap.size ≤ w5.heap.size := hw5.size
  replace h5 := ownv_own (F' := fun k => (k = b1) ∨ w5.heap.size ≤ k) h5 (fun k hk => hk)
  replace B1 := B1.grow hw5
  refine fr ((.bool (false) :: pt b1 :: .bool (decide (2 = 2)) :: v3 :: .bool (decide (1 = 2)) :: v5 :: .bool (decide (2 = 2 ∧ 0 < 2 ∧ ∀ i, i < 2 → (fun i => if i = 0 then 2 else 2) i = (fun i => if i = 0 then 2 else 2) 0)) :: u :: u :: v9 :: v10 :: v11 :: v12 :: v13 :: v14 :: v15 :: .bool (decide (2 = 2)) :: v17 :: v18 :: v19 :: v20 :: v21 :: v22 :: v23 :: v24 :: v25 :: v26 :: v27 :: v28 :: v29 :: v30 :: v31 :: v32 :: v33 :: v34 :: v35 :: []) ++ us 34) ?_
  refine nx ?_
  refine wp_seq ?_
  refine rg (fun c d v a w h => NL c d v a w h) [(37, .tup2 (.ownv (w.heap.size) (fun k => k = b1) (updQ (fun _ => 0) (Int.toNat 3) ((1 : Int) : Rat)) (if (0 ≤ 3 ∧ 3 ≤ 64) ∧ 0 ≤ 3 ∧ 3 < 3 then Int.toNat 3 else 0)) (.eq (.bool (decide ((0 ≤ 3 ∧ 3 ≤ 64) ∧ 0 ≤ 3 ∧ 3 < 3))))), (36, .tup2 (.ownv (w.heap.size) (fun k => k = b1) (updQ (fun _ => 0) (Int.toNat 3) ((1 : Int) : Rat)) (if (0 ≤ 3 ∧ 3 ≤ 64) ∧ 0 ≤ 3 ∧ 3 < 3 then Int.toNat 3 else 0)) (.eq (.bool (decide ((0 ≤ 3 ∧ 3 ≤ 64) ∧ 0 ≤ 3 ∧ 3 < 3))))), (38, .ownv (w.heap.size) (fun k => k = b1) (updQ (fun _ => 0) (Int.toNat 3) ((1 : Int) : Rat)) (if (0 ≤ 3 ∧ 3 ≤ 64) ∧ 0 ≤ 3 ∧ 3 < 3 then Int.toNat 3 else 0)), (39, .eq (.bool (decide ((0 ≤ 3 ∧ 3 ≤ 64) ∧ 0 ≤ 3 ∧ 3 < 3)))), (7, .ownv (w.heap.size) (fun k => k = b1) (updQ (fun _ => 0) (Int.toNat 3) ((1 : Int) : Rat)) (if (0 ≤ 3 ∧ 3 ≤ 64) ∧ 0 ≤ 3 ∧ 3 < 3 then Int.toNat 3 else 0)), (8, .eq (.bool (decide ((0 ≤ 3 ∧ 3 ≤ 64) ∧ 0 ≤ 3 ∧ 3 < 3))))] [] [] [] 70 6 ?_ ?_
  · refine so [] (fun w6 hw6 => .fin (yld_call rfl cal_vec_Unit rfl (cUnit (z := 3) (k := 3) (B := w.heap.size) (F := fun k => k = b1) (Grow.trans W5 hw6).size (fun k hk => (fun e => by rw [e]; exact Nat.lt_of_lt_of_le B1.lt hw6.size) hk)))) ?_
    refine soP [(37, .tup2 (.ownv (w.heap.size) (fun k => k = b1) (updQ (fun _ => 0) (Int.toNat 3) ((1 : Int) : Rat)) (if (0 ≤ 3 ∧ 3 ≤ 64) ∧ 0 ≤ 3 ∧ 3 < 3 then Int.toNat 3 else 0)) (.eq (.bool (decide ((0 ≤ 3 ∧ 3 ≤ 64) ∧ 0 ≤ 3 ∧ 3 < 3)))))] (fun w6 hw6 => by rintro _ ⟨x37_0, x37_1, rfl, hx37_0, hx37_1⟩; exact .fin (yld_move rfl ⟨Grow.refl _, ⟨x37_0, x37_1, rfl, hx37_0, hx37_1⟩⟩)) ?_
    refine soP [(36, .tup2 (.ownv (w.heap.size) (fun k => k = b1) (updQ (fun _ => 0) (Int.toNat 3) ((1 : Int) : Rat)) (if (0 ≤ 3 ∧ 3 ≤ 64) ∧ 0 ≤ 3 ∧ 3 < 3 then Int.toNat 3 else 0)) (.eq (.bool (decide ((0 ≤ 3 ∧ 3 ≤ 64) ∧ 0 ≤ 3 ∧ 3 < 3)))))] (fun w6 hw6 => by rintro _ ⟨x36_0, x36_1, rfl, hx36_0, hx36_1⟩; exact .fin (yld_extract rfl rfl rfl ⟨Grow.refl _, hx36_0⟩)) ?_
    refine soP [(36, .tup2 (.ownv (w.heap.size) (fun k => k = b1) (updQ (fun _ => 0) (Int.toNat 3) ((1 : Int) : Rat)) (if (0 ≤ 3 ∧ 3 ≤ 64) ∧ 0 ≤ 3 ∧ 3 < 3 then Int.toNat 3 else 0)) (.eq (.bool (decide ((0 ≤ 3 ∧ 3 ≤ 64) ∧ 0 ≤ 3 ∧ 3 < 3)))))] (fun w6 hw6 => by rintro _ ⟨x36_0, x36_1, rfl, hx36_0, hx36_1⟩; exact .fin (yld_extract rfl rfl rfl ⟨Grow.refl _, hx36_1⟩)) ?_
    refine soP [(38, .ownv (w.heap.size) (fun k => k = b1) (updQ (fun _ => 0) (Int.toNat 3) ((1 : Int) : Rat)) (if (0 ≤ 3 ∧ 3 ≤ 64) ∧ 0 ≤ 3 ∧ 3 < 3 then Int.toNat 3 else 0))] (fun w6 hw6 => by rintro v38 h38; exact .fin (yld_assign rfl ⟨Grow.refl _, h38⟩)) ?_
    exact so [3] (fun w6 hw6 => by rintro _ rfl; exact .fin (yld_assign rfl ⟨Grow.refl _, rfl⟩)) (.nil _ _)
  rintro w6 hw6 v37 - v36 - v38 - v39 - v7 - _ rfl -
  have W6 : Grow w w6 := W5.trans hw6
  have z6 : w5.heap.size ≤ w6.heap.size := hw6.size
  replace B1 := B1.grow hw6
  replace h5 := MR.mono _ hw6 h5
  refine fr ((.bool (false) :: pt b1 :: .bool (decide (2 = 2)) :: v3 :: .bool (decide (1 = 2)) :: v5 :: .bool (decide (2 = 2 ∧ 0 < 2 ∧ ∀ i, i < 2 → (fun i => if i = 0 then 2 else 2) i = (fun i => if i = 0 then 2 else 2) 0)) :: v7 :: .bool (decide ((0 ≤ 3 ∧ 3 ≤ 64) ∧ 0 ≤ 3 ∧ 3 < 3)) :: v9 :: v10 :: v11 :: v12 :: v13 :: v14 :: v15 :: .bool (decide (2 = 2)) :: v17 :: v18 :: v19 :: v20 :: v21 :: v22 :: v23 :: v24 :: v25 :: v26 :: v27 :: v28 :: v29 :: v30 :: v31 :: v32 :: v33 :: v34 :: v35 :: v36 :: v37 :: v38 :: v39 :: []) ++ us 30) ?_
  refine nx ?_
  refine wp_seq ?_
  obtain ⟨x8, ex8⟩ : ∃ c : Bool, c = (decide (2 = 2)) := ⟨_, rfl⟩
  obtain ⟨x9, ex9⟩ : ∃ c : Bool, c = (decide ((if 2 = 2 then dotQ (fun j0 => (((fun i => [1, 2].getD i 0) j0 : Int) : Rat)) (fun j0 => (((fun i => [3, 4].getD i 0) j0 : Int) : Rat)) 2 else 0) = Rat.divInt 11 1)) := ⟨_, rfl⟩
  obtain ⟨x10, ex10⟩ : ∃ c : Bool, c = ((x8 && x9)) := ⟨_, rfl⟩
  obtain ⟨x11, ex11⟩ : ∃ c : Bool, c = (decide (1 = 2)) := ⟨_, rfl⟩
  obtain ⟨x12, ex12⟩ : ∃ c : Bool, c = (!x11) := ⟨_, rfl⟩
  obtain ⟨x13, ex13⟩ : ∃ c : Bool, c = ((x10 && x12)) := ⟨_, rfl⟩
  obtain ⟨x14, ex14⟩ : ∃ c : Bool, c = ((cmpVec (fun j0 => (((fun i => [1, 2].getD i 0) j0 : Int) : Rat)) 2 (fun j0 => (((fun i => [1, 2, 0].getD i 0) j0 : Int) : Rat)) 3 : Int) == (-1 : Int)) := ⟨_, rfl⟩
  obtain ⟨x15, ex15⟩ : ∃ c : Bool, c = ((x13 && x14)) := ⟨_, rfl⟩
  obtain ⟨x16, ex16⟩ : ∃ c : Bool, c = (decide (2 = 2 ∧ 0 < 2 ∧ ∀ i, i < 2 → (fun i => if i = 0 then 2 else 2) i = (fun i => if i = 0 then 2 else 2) 0)) := ⟨_, rfl⟩
  obtain ⟨x17, ex17⟩ : ∃ c : Bool, c = ((x15 && x16)) := ⟨_, rfl⟩
  obtain ⟨x18, ex18⟩ : ∃ c : Bool, c = (decide (cmpVec (combV (fun j0 => (((fun i => [2, 3].getD i 0) j0 : Int) : Rat)) (fun i => if i = 0 then fun j0 => (((fun i => [1, 0].getD i 0) j0 : Int) : Rat) else fun j0 => (((fun i => [0, 1].getD i 0) j0 : Int) : Rat)) 2) (if 2 = 2 ∧ 0 < 2 ∧ ∀ i, i < 2 → (fun i => if i = 0 then 2 else 2) i = (fun i => if i = 0 then 2 else 2) 0 then (fun i => if i = 0 then 2 else 2) 0 else 0) (fun j0 => (((fun i => [2, 3].getD i 0) j0 : Int) : Rat)) 2 = 0)) := ⟨_, rfl⟩
  obtain ⟨x19, ex19⟩ : ∃ c : Bool, c = ((x17 && x18)) := ⟨_, rfl⟩
  obtain ⟨x20, ex20⟩ : ∃ c : Bool, c = (decide ((0 ≤ 3 ∧ 3 ≤ 64) ∧ 0 ≤ 3 ∧ 3 < 3)) := ⟨_, rfl⟩
  obtain ⟨x21, ex21⟩ : ∃ c : Bool, c = (!x20) := ⟨_, rfl⟩
  obtain ⟨x22, ex22⟩ : ∃ c : Bool, c = ((x19 && x21)) := ⟨_, rfl⟩
  refine rg (fun c d v a w h => NL c d v a w h) ((40, .eq (.bool (x8))) :: (41, .eq (.bool (x8))) :: (42, .opt ((x8 == true)) (.rat (if 2 = 2 then dotQ (fun j0 => (((fun i => [1, 2].getD i 0) j0 : Int) : Rat)) (fun j0 => (((fun i => [3, 4].getD i 0) j0 : Int) : Rat)) 2 else 0))) :: (43, .opt ((x8 == true)) (.eq (.bool (x9)))) :: (44, .eq (.bool (x10))) :: (45, .eq (.bool (x10))) :: (46, .opt ((x10 == true)) (.eq (.bool (x11)))) :: (47, .opt ((x10 == true)) (.eq (.bool (x12)))) :: (48, .eq (.bool (x13))) :: (49, .eq (.bool (x13))) :: (50, .opt ((x13 == true)) (.ints (fun _ => False) (fun i => [1, 2].getD i 0) (2))) :: (51, .opt ((x13 == true)) (.ownv (w.heap.size) (fun k => k = b1) (fun j0 => (((fun i => [1, 2].getD i 0) j0 : Int) : Rat)) (2))) :: (52, .opt ((x13 == true)) (.ints (fun _ => False) (fun i => [1, 2, 0].getD i 0) (3))) :: (53, .opt ((x13 == true)) (.ownv (w.heap.size) (fun k => k = b1) (fun j0 => (((fun i => [1, 2, 0].getD i 0) j0 : Int) : Rat)) (3))) :: (54, .opt ((x13 == true)) (.eq (.int .i64 (cmpVec (fun j0 => (((fun i => [1, 2].getD i 0) j0 : Int) : Rat)) 2 (fun j0 => (((fun i => [1, 2, 0].getD i 0) j0 : Int) : Rat)) 3)))) :: (55, .opt ((x13 == true)) (.eq (.bool (x14)))) :: (56, .eq (.bool (x15))) :: (57, .eq (.bool (x15))) :: (58, .opt ((x15 == true)) (.eq (.bool (x16)))) :: (59, .eq (.bool (x17))) :: (60, .eq (.bool (x17))) :: (61, .opt ((x17 == true)) (.eq (v5))) :: (62, .opt ((x17 == true)) (.ints (fun _ => False) (fun i => [2, 3].getD i 0) (2))) :: (63, .opt ((x17 == true)) (.ownv (w.heap.size) (fun k => k = b1) (fun j0 => (((fun i => [2, 3].getD i 0) j0 : Int) : Rat)) (2))) :: (64, .opt ((x17 == true)) (.eq (.bool (x18)))) :: (65, .eq (.bool (x19))) :: (66, .eq (.bool (x19))) :: (67, .opt ((x19 == true)) (.eq (.bool (x20)))) :: (68, .opt ((x19 == true)) (.eq (.bool (x21)))) :: (69, .eq (.bool (x22))) :: (0, .eq (.bool (x22))) :: []) [] [] [] 70 31 ?_ ?_
  · refine so [] (fun w7 hw7 => .fin (yld_eqTo (c := .bool (decide (2 = 2))) (yld_move rfl ⟨Grow.refl _, rfl⟩) (congrArg Value.bool ex8.symm))) ?_
    refine so [0] (fun w7 hw7 => by rintro _ rfl; exact .fin (yld_move rfl ⟨Grow.refl _, rfl⟩)) ?_
    refine sg (c := (x8 == true)) 41 [1] (fun w7 hw7 => by rintro _ rfl; exact .fin (⟨guard_eq, fun hc => yld_loadBox rfl rfl aggRat (B1.grow hw7) (shRat _)⟩)) ?_
    refine sg (c := (x8 == true)) 41 [1, 2] (fun w7 hw7 => by rintro _ rfl v42 h42; exact .fin (⟨guard_eq, fun hc => yld_eqTo (c := .bool (decide ((if 2 = 2 then dotQ (fun j0 => (((fun i => [1, 2].getD i 0) j0 : Int) : Rat)) (fun j0 => (((fun i => [3, 4].getD i 0) j0 : Int) : Rat)) 2 else 0) = Rat.divInt 11 1))) (yld_call rfl cal_actuarylaw08_Is rfl (cIs8 (h42.1 (by revert hc; exact fun h => h)) (by decide) (by decide) (by decide) (by decide) (by decide) (by decide +kernel))) (congrArg Value.bool ex9.symm)⟩)) ?_
    refine so [1, 3] (fun w7 hw7 => by rintro _ rfl v43 h43; exact .fin (yld_eqTo (c := .bool ((x8 && x9))) (yld_pick_and rfl rfl (fun ht => h43.1 (by revert ht; cases x8 <;> decide)) rfl ⟨Grow.refl _, rfl⟩) (congrArg Value.bool ex10.symm))) ?_
    refine so [4] (fun w7 hw7 => by rintro _ rfl; exact .fin (yld_move rfl ⟨Grow.refl _, rfl⟩)) ?_
    refine sg (c := (x10 == true)) 45 [5] (fun w7 hw7 => by rintro _ rfl; exact .fin (⟨guard_eq, fun hc => yld_eqTo (c := .bool (decide (1 = 2))) (yld_move rfl ⟨Grow.refl _, rfl⟩) (congrArg Value.bool ex11.symm)⟩)) ?_
    refine sg (c := (x10 == true)) 45 [5, 6] (fun w7 hw7 => by rintro _ rfl v46 h46; exact .fin (⟨guard_eq, fun hc => yld_eqTo (c := .bool (!x11)) (yld_not rfl (show v46 = .bool (x11) from (h46.1 (by revert hc; exact fun h => h))) ⟨Grow.refl _, rfl⟩) (congrArg Value.bool ex12.symm)⟩)) ?_
    refine so [5, 7] (fun w7 hw7 => by rintro _ rfl v47 h47; exact .fin (yld_eqTo (c := .bool ((x10 && x12))) (yld_pick_and rfl rfl (fun ht => h47.1 (by revert ht; cases x10 <;> decide)) rfl ⟨Grow.refl _, rfl⟩) (congrArg Value.bool ex13.symm))) ?_
    refine so [8] (fun w7 hw7 => by rintro _ rfl; exact .fin (yld_move rfl ⟨Grow.refl _, rfl⟩)) ?_
    refine sg (c := (x13 == true)) 49 [9] (fun w7 hw7 => by rintro _ rfl; exact .fin (⟨guard_eq, fun hc => yld_litI2 rfl rfl rfl⟩)) ?_
    refine sgP (c := (x13 == true)) 49 [(49, .eq (.bool (x13))), (50, .opt ((x13 == true)) (.ints (fun _ => False) (fun i => [1, 2].getD i 0) (2)))] (fun w7 hw7 => by rintro _ rfl v50 h50; exact .fin (⟨guard_eq, fun hc => yld_call rfl cal_vec_Of rfl (cVecOf (a := fun i => [1, 2].getD i 0) (B := w.heap.size) (F := fun k => k = b1) (Grow.trans W6 hw7).size (fun k hk => (fun e => by rw [e]; exact Nat.lt_of_lt_of_le B1.lt hw7.size) hk) (h50.1 (by revert hc; exact fun h => h)) (by decide) (by unfold R64; decide))⟩)) ?_
    refine sg (c := (x13 == true)) 49 [9] (fun w7 hw7 => by rintro _ rfl; exact .fin (⟨guard_eq, fun hc => yld_litI3 rfl rfl rfl rfl⟩)) ?_
    refine sgP (c := (x13 == true)) 49 [(49, .eq (.bool (x13))), (52, .opt ((x13 == true)) (.ints (fun _ => False) (fun i => [1, 2, 0].getD i 0) (3)))] (fun w7 hw7 => by rintro _ rfl v52 h52; exact .fin (⟨guard_eq, fun hc => yld_call rfl cal_vec_Of rfl (cVecOf (a := fun i => [1, 2, 0].getD i 0) (B := w.heap.size) (F := fun k => k = b1) (Grow.trans W6 hw7).size (fun k hk => (fun e => by rw [e]; exact Nat.lt_of_lt_of_le B1.lt hw7.size) hk) (h52.1 (by revert hc; exact fun h => h)) (by decide) (by unfold R64; decide))⟩)) ?_
    refine sgP (c := (x13 == true)) 49 [(49, .eq (.bool (x13))), (51, .opt ((x13 == true)) (.ownv (w.heap.size) (fun k => k = b1) (fun j0 => (((fun i => [1, 2].getD i 0) j0 : Int) : Rat)) (2))), (53, .opt ((x13 == true)) (.ownv (w.heap.size) (fun k => k = b1) (fun j0 => (((fun i => [1, 2, 0].getD i 0) j0 : Int) : Rat)) (3)))] (fun w7 hw7 => by rintro _ rfl v51 h51 v53 h53; exact .fin (⟨guard_eq, fun hc => yld_call rfl cal_vec_Cmp rfl (cVecCmp (vec0 (ownv_vec (h51.1 (by revert hc; exact fun h => h)))) (vec0 (ownv_vec (h53.1 (by revert hc; exact fun h => h)))) (by decide +kernel))⟩)) ?_
    refine sg (c := (x13 == true)) 49 [9, 14] (fun w7 hw7 => by rintro _ rfl v54 h54; exact .fin (⟨guard_eq, fun hc => yld_eqTo (c := .bool ((cmpVec (fun j0 => (((fun i => [1, 2].getD i 0) j0 : Int) : Rat)) 2 (fun j0 => (((fun i => [1, 2, 0].getD i 0) j0 : Int) : Rat)) 3 : Int) == (-1 : Int))) (yld_eql rfl (show v54 = .int .i64 (cmpVec (fun j0 => (((fun i => [1, 2].getD i 0) j0 : Int) : Rat)) 2 (fun j0 => (((fun i => [1, 2, 0].getD i 0) j0 : Int) : Rat)) 3) from (h54.1 (by revert hc; exact fun h => h))) rfl ⟨Grow.refl _, rfl⟩) (congrArg Value.bool ex14.symm)⟩)) ?_
    refine so [9, 15] (fun w7 hw7 => by rintro _ rfl v55 h55; exact .fin (yld_eqTo (c := .bool ((x13 && x14))) (yld_pick_and rfl rfl (fun ht => h55.1 (by revert ht; cases x13 <;> decide)) rfl ⟨Grow.refl _, rfl⟩) (congrArg Value.bool ex15.symm))) ?_
    refine so [16] (fun w7 hw7 => by rintro _ rfl; exact .fin (yld_move rfl ⟨Grow.refl _, rfl⟩)) ?_
    refine sg (c := (x15 == true)) 57 [17] (fun w7 hw7 => by rintro _ rfl; exact .fin (⟨guard_eq, fun hc => yld_eqTo (c := .bool (decide (2 = 2 ∧ 0 < 2 ∧ ∀ i, i < 2 → (fun i => if i = 0 then 2 else 2) i = (fun i => if i = 0 then 2 else 2) 0))) (yld_move rfl ⟨Grow.refl _, rfl⟩) (congrArg Value.bool ex16.symm)⟩)) ?_
    refine so [17, 18] (fun w7 hw7 => by rintro _ rfl v58 h58; exact .fin (yld_eqTo (c := .bool ((x15 && x16))) (yld_pick_and rfl rfl (fun ht => h58.1 (by revert ht; cases x15 <;> decide)) rfl ⟨Grow.refl _, rfl⟩) (congrArg Value.bool ex17.symm))) ?_
    refine so [19] (fun w7 hw7 => by rintro _ rfl; exact .fin (yld_move rfl ⟨Grow.refl _, rfl⟩)) ?_
    refine sg (c := (x17 == true)) 60 [20] (fun w7 hw7 => by rintro _ rfl; exact .fin (⟨guard_eq, fun hc => yld_move rfl ⟨Grow.refl _, rfl⟩⟩)) ?_
    refine sg (c := (x17 == true)) 60 [20] (fun w7 hw7 => by rintro _ rfl; exact .fin (⟨guard_eq, fun hc => yld_litI2 rfl rfl rfl⟩)) ?_
    refine sgP (c := (x17 == true)) 60 [(60, .eq (.bool (x17))), (62, .opt ((x17 == true)) (.ints (fun _ => False) (fun i => [2, 3].getD i 0) (2)))] (fun w7 hw7 => by rintro _ rfl v62 h62; exact .fin (⟨guard_eq, fun hc => yld_call rfl cal_vec_Of rfl (cVecOf (a := fun i => [2, 3].getD i 0) (B := w.heap.size) (F := fun k => k = b1) (Grow.trans W6 hw7).size (fun k hk => (fun e => by rw [e]; exact Nat.lt_of_lt_of_le B1.lt hw7.size) hk) (h62.1 (by revert hc; exact fun h => h)) (by decide) (by unfold R64; decide))⟩)) ?_
    refine sgP (c := (x17 == true)) 60 [(60, .eq (.bool (x17))), (61, .opt ((x17 == true)) (.eq (v5))), (63, .opt ((x17 == true)) (.ownv (w.heap.size) (fun k => k = b1) (fun j0 => (((fun i => [2, 3].getD i 0) j0 : Int) : Rat)) (2)))] (fun w7 hw7 => by rintro _ rfl v61 h61 v63 h63; exact .fin (⟨guard_eq, fun hc => yld_eqTo (c := .bool (decide (cmpVec (combV (fun j0 => (((fun i => [2, 3].getD i 0) j0 : Int) : Rat)) (fun i => if i = 0 then fun j0 => (((fun i => [1, 0].getD i 0) j0 : Int) : Rat) else fun j0 => (((fun i => [0, 1].getD i 0) j0 : Int) : Rat)) 2) (if 2 = 2 ∧ 0 < 2 ∧ ∀ i, i < 2 → (fun i => if i = 0 then 2 else 2) i = (fun i => if i = 0 then 2 else 2) 0 then (fun i => if i = 0 then 2 else 2) 0 else 0) (fun j0 => (((fun i => [2, 3].getD i 0) j0 : Int) : Rat)) 2 = 0))) ((by have ev61 : v61 = v5 := (show v61 = v5 from (h61.1 (by revert hc; exact fun h => h))); subst ev61; exact yld_call rfl cal_vec_Same rfl (cVecSame (vec0 (ownv_vec (MR.mono _ hw7 h5))) (vec0 (ownv_vec (h63.1 (by revert hc; exact fun h => h)))) (by decide +kernel)))) (congrArg Value.bool ex18.symm)⟩)) ?_
    refine so [20, 24] (fun w7 hw7 => by rintro _ rfl v64 h64; exact .fin (yld_eqTo (c := .bool ((x17 && x18))) (yld_pick_and rfl rfl (fun ht => h64.1 (by revert ht; cases x17 <;> decide)) rfl ⟨Grow.refl _, rfl⟩) (congrArg Value.bool ex19.symm))) ?_
    refine so [25] (fun w7 hw7 => by rintro _ rfl; exact .fin (yld_move rfl ⟨Grow.refl _, rfl⟩)) ?_
    refine sg (c := (x19 == true)) 66 [26] (fun w7 hw7 => by rintro _ rfl; exact .fin (⟨guard_eq, fun hc => yld_eqTo (c := .bool (decide ((0 ≤ 3 ∧ 3 ≤ 64) ∧ 0 ≤ 3 ∧ 3 < 3))) (yld_move rfl ⟨Grow.refl _, rfl⟩) (congrArg Value.bool ex20.symm)⟩)) ?_
    refine sg (c := (x19 == true)) 66 [26, 27] (fun w7 hw7 => by rintro _ rfl v67 h67; exact .fin (⟨guard_eq, fun hc => yld_eqTo (c := .bool (!x20)) (yld_not rfl (show v67 = .bool (x20) from (h67.1 (by revert hc; exact fun h => h))) ⟨Grow.refl _, rfl⟩) (congrArg Value.bool ex21.symm)⟩)) ?_
    refine so [26, 28] (fun w7 hw7 => by rintro _ rfl v68 h68; exact .fin (yld_eqTo (c := .bool ((x19 && x21))) (yld_pick_and rfl rfl (fun ht => h68.1 (by revert ht; cases x19 <;> decide)) rfl ⟨Grow.refl _, rfl⟩) (congrArg Value.bool ex22.symm))) ?_
    exact so [29] (fun w7 hw7 => by rintro _ rfl; exact .fin (yld_assign rfl ⟨Grow.refl _, rfl⟩)) (.nil _ _)
  rintro w7 hw7 _ rfl _ rfl v42 - v43 - _ rfl _ rfl v46 - v47 - _ rfl _ rfl v50 - v51 - v52 - v53 - v54 - v55 - _ rfl _ rfl v58 - _ rfl _ rfl v61 - v62 - v63 - v64 - _ rfl _ rfl v67 - v68 - _ rfl _ rfl -
  have W7 : Grow w w7 := W6.trans hw7
  have z7 : w6.heap.size ≤ w7.heap.size := hw7.size
  subst ex8
  subst ex9
  subst ex10
  subst ex11
  subst ex12
  subst ex13
  subst ex14
  subst ex15
  subst ex16
  subst ex17
  subst ex18
  subst ex19
  subst ex20
  subst ex21
  subst ex22
  refine fr (.bool ((((((((((((((decide (2 = 2)) && (decide ((if 2 = 2 then dotQ (fun j0 => (((fun i => [1, 2].getD i 0) j0 : Int) : Rat)) (fun j0 => (((fun i => [3, 4].getD i 0) j0 : Int) : Rat)) 2 else 0) = Rat.divInt 11 1)))) && (!(decide (1 = 2))))) && ((cmpVec (fun j0 => (((fun i => [1, 2].getD i 0) j0 : Int) : Rat)) 2 (fun j0 => (((fun i => [1, 2, 0].getD i 0) j0 : Int) : Rat)) 3 : Int) == (-1 : Int)))) && (decide (2 = 2 ∧ 0 < 2 ∧ ∀ i, i < 2 → (fun i => if i = 0 then 2 else 2) i = (fun i => if i = 0 then 2 else 2) 0)))) && (decide (cmpVec (combV (fun j0 => (((fun i => [2, 3].getD i 0) j0 : Int) : Rat)) (fun i => if i = 0 then fun j0 => (((fun i => [1, 0].getD i 0) j0 : Int) : Rat) else fun j0 => (((fun i => [0, 1].getD i 0) j0 : Int) : Rat)) 2) (if 2 = 2 ∧ 0 < 2 ∧ ∀ i, i < 2 → (fun i => if i = 0 then 2 else 2) i = (fun i => if i = 0 then 2 else 2) 0 then (fun i => if i = 0 then 2 else 2) 0 else 0) (fun j0 => (((fun i => [2, 3].getD i 0) j0 : Int) : Rat)) 2 = 0)))) && (!(decide ((0 ≤ 3 ∧ 3 ≤ 64) ∧ 0 ≤ 3 ∧ 3 < 3)))))) :: pt b1 :: .bool (decide (2 = 2)) :: v3 :: .bool (decide (1 = 2)) :: v5 :: .bool (decide (2 = 2 ∧ 0 < 2 ∧ ∀ i, i < 2 → (fun i => if i = 0 then 2 else 2) i = (fun i => if i = 0 then 2 else 2) 0)) :: v7 :: .bool (decide ((0 ≤ 3 ∧ 3 ≤ 64) ∧ 0 ≤ 3 ∧ 3 < 3)) :: v9 :: v10 :: v11 :: v12 :: v13 :: v14 :: v15 :: .bool (decide (2 = 2)) :: v17 :: v18 :: v19 :: v20 :: v21 :: v22 :: v23 :: v24 :: v25 :: v26 :: v27 :: v28 :: v29 :: v30 :: v31 :: v32 :: v33 :: v34 :: v35 :: v36 :: v37 :: v38 :: v39 :: .bool ((decide (2 = 2))) :: .bool ((decide (2 = 2))) :: v42 :: v43 :: .bool ((((decide (2 = 2)) && (decide ((if 2 = 2 then dotQ (fun j0 => (((fun i => [1, 2].getD i 0) j0 : Int) : Rat)) (fun j0 => (((fun i => [3, 4].getD i 0) j0 : Int) : Rat)) 2 else 0) = Rat.divInt 11 1))))) :: .bool ((((decide (2 = 2)) && (decide ((if 2 = 2 then dotQ (fun j0 => (((fun i => [1, 2].getD i 0) j0 : Int) : Rat)) (fun j0 => (((fun i => [3, 4].getD i 0) j0 : Int) : Rat)) 2 else 0) = Rat.divInt 11 1))))) :: v46 :: v47 :: .bool ((((((decide (2 = 2)) && (decide ((if 2 = 2 then dotQ (fun j0 => (((fun i => [1, 2].getD i 0) j0 : Int) : Rat)) (fun j0 => (((fun i => [3, 4].getD i 0) j0 : Int) : Rat)) 2 else 0) = Rat.divInt 11 1)))) && (!(decide (1 = 2)))))) :: .bool ((((((decide (2 = 2)) && (decide ((if 2 = 2 then dotQ (fun j0 => (((fun i => [1, 2].getD i 0) j0 : Int) : Rat)) (fun j0 => (((fun i => [3, 4].getD i 0) j0 : Int) : Rat)) 2 else 0) = Rat.divInt 11 1)))) && (!(decide (1 = 2)))))) :: v50 :: v51 :: v52 :: v53 :: v54 :: v55 :: .bool ((((((((decide (2 = 2)) && (decide ((if 2 = 2 then dotQ (fun j0 => (((fun i => [1, 2].getD i 0) j0 : Int) : Rat)) (fun j0 => (((fun i => [3, 4].getD i 0) j0 : Int) : Rat)) 2 else 0) = Rat.divInt 11 1)))) && (!(decide (1 = 2))))) && ((cmpVec (fun j0 => (((fun i => [1, 2].getD i 0) j0 : Int) : Rat)) 2 (fun j0 => (((fun i => [1, 2, 0].getD i 0) j0 : Int) : Rat)) 3 : Int) == (-1 : Int))))) :: .bool ((((((((decide (2 = 2)) && (decide ((if 2 = 2 then dotQ (fun j0 => (((fun i => [1, 2].getD i 0) j0 : Int) : Rat)) (fun j0 => (((fun i => [3, 4].getD i 0) j0 : Int) : Rat)) 2 else 0) = Rat.divInt 11 1)))) && (!(decide (1 = 2))))) && ((cmpVec (fun j0 => (((fun i => [1, 2].getD i 0) j0 : Int) : Rat)) 2 (fun j0 => (((fun i => [1, 2, 0].getD i 0) j0 : Int) : Rat)) 3 : Int) == (-1 : Int))))) :: v58 :: .bool ((((((((((decide (2 = 2)) && (decide ((if 2 = 2 then dotQ (fun j0 => (((fun i => [1, 2].getD i 0) j0 : Int) : Rat)) (fun j0 => (((fun i => [3, 4].getD i 0) j0 : Int) : Rat)) 2 else 0) = Rat.divInt 11 1)))) && (!(decide (1 = 2))))) && ((cmpVec (fun j0 => (((fun i => [1, 2].getD i 0) j0 : Int) : Rat)) 2 (fun j0 => (((fun i => [1, 2, 0].getD i 0) j0 : Int) : Rat)) 3 : Int) == (-1 : Int)))) && (decide (2 = 2 ∧ 0 < 2 ∧ ∀ i, i < 2 → (fun i => if i = 0 then 2 else 2) i = (fun i => if i = 0 then 2 else 2) 0))))) :: .bool ((((((((((decide (2 = 2)) && (decide ((if 2 = 2 then dotQ (fun j0 => (((fun i => [1, 2].getD i 0) j0 : Int) : Rat)) (fun j0 => (((fun i => [3, 4].getD i 0) j0 : Int) : Rat)) 2 else 0) = Rat.divInt 11 1)))) && (!(decide (1 = 2))))) && ((cmpVec (fun j0 => (((fun i => [1, 2].getD i 0) j0 : Int) : Rat)) 2 (fun j0 => (((fun i => [1, 2, 0].getD i 0) j0 : Int) : Rat)) 3 : Int) == (-1 : Int)))) && (decide (2 = 2 ∧ 0 < 2 ∧ ∀ i, i < 2 → (fun i => if i = 0 then 2 else 2) i = (fun i => if i = 0 then 2 else 2) 0))))) :: v61 :: v62 :: v63 :: v64 :: .bool ((((((((((((decide (2 = 2)) && (decide ((if 2 = 2 then dotQ (fun j0 => (((fun i => [1, 2].getD i 0) j0 : Int) : Rat)) (fun j0 => (((fun i => [3, 4].getD i 0) j0 : Int) : Rat)) 2 else 0) = Rat.divInt 11 1)))) && (!(decide (1 = 2))))) && ((cmpVec (fun j0 => (((fun i => [1, 2].getD i 0) j0 : Int) : Rat)) 2 (fun j0 => (((fun i => [1, 2, 0].getD i 0) j0 : Int) : Rat)) 3 : Int) == (-1 : Int)))) && (decide (2 = 2 ∧ 0 < 2 ∧ ∀ i, i < 2 → (fun i => if i = 0 then 2 else 2) i = (fun i => if i = 0 then 2 else 2) 0)))) && (decide (cmpVec (combV (fun j0 => (((fun i => [2, 3].getD i 0) j0 : Int) : Rat)) (fun i => if i = 0 then fun j0 => (((fun i => [1, 0].getD i 0) j0 : Int) : Rat) else fun j0 => (((fun i => [0, 1].getD i 0) j0 : Int) : Rat)) 2) (if 2 = 2 ∧ 0 < 2 ∧ ∀ i, i < 2 → (fun i => if i = 0 then 2 else 2) i = (fun i => if i = 0 then 2 else 2) 0 then (fun i => if i = 0 then 2 else 2) 0 else 0) (fun j0 => (((fun i => [2, 3].getD i 0) j0 : Int) : Rat)) 2 = 0))))) :: .bool ((((((((((((decide (2 = 2)) && (decide ((if 2 = 2 then dotQ (fun j0 => (((fun i => [1, 2].getD i 0) j0 : Int) : Rat)) (fun j0 => (((fun i => [3, 4].getD i 0) j0 : Int) : Rat)) 2 else 0) = Rat.divInt 11 1)))) && (!(decide (1 = 2))))) && ((cmpVec (fun j0 => (((fun i => [1, 2].getD i 0) j0 : Int) : Rat)) 2 (fun j0 => (((fun i => [1, 2, 0].getD i 0) j0 : Int) : Rat)) 3 : Int) == (-1 : Int)))) && (decide (2 = 2 ∧ 0 < 2 ∧ ∀ i, i < 2 → (fun i => if i = 0 then 2 else 2) i = (fun i => if i = 0 then 2 else 2) 0)))) && (decide (cmpVec (combV (fun j0 => (((fun i => [2, 3].getD i 0) j0 : Int) : Rat)) (fun i => if i = 0 then fun j0 => (((fun i => [1, 0].getD i 0) j0 : Int) : Rat) else fun j0 => (((fun i => [0, 1].getD i 0) j0 : Int) : Rat)) 2) (if 2 = 2 ∧ 0 < 2 ∧ ∀ i, i < 2 → (fun i => if i = 0 then 2 else 2) i = (fun i => if i = 0 then 2 else 2) 0 then (fun i => if i = 0 then 2 else 2) 0 else 0) (fun j0 => (((fun i => [2, 3].getD i 0) j0 : Int) : Rat)) 2 = 0))))) :: v67 :: v68 :: .bool ((((((((((((((decide (2 = 2)) && (decide ((if 2 = 2 then dotQ (fun j0 => (((fun i => [1, 2].getD i 0) j0 : Int) : Rat)) (fun j0 => (((fun i => [3, 4].getD i 0) j0 : Int) : Rat)) 2 else 0) = Rat.divInt 11 1)))) && (!(decide (1 = 2))))) && ((cmpVec (fun j0 => (((fun i => [1, 2].getD i 0) j0 : Int) : Rat)) 2 (fun j0 => (((fun i => [1, 2, 0].getD i 0) j0 : Int) : Rat)) 3 : Int) == (-1 : Int)))) && (decide (2 = 2 ∧ 0 < 2 ∧ ∀ i, i < 2 → (fun i => if i = 0 then 2 else 2) i = (fun i => if i = 0 then 2 else 2) 0)))) && (decide (cmpVec (combV (fun j0 => (((fun i => [2, 3].getD i 0) j0 : Int) : Rat)) (fun i => if i = 0 then fun j0 => (((fun i => [1, 0].getD i 0) j0 : Int) : Rat) else fun j0 => (((fun i => [0, 1].getD i 0) j0 : Int) : Rat)) 2) (if 2 = 2 ∧ 0 < 2 ∧ ∀ i, i < 2 → (fun i => if i = 0 then 2 else 2) i = (fun i => if i = 0 then 2 else 2) 0 then (fun i => if i = 0 then 2 else 2) 0 else 0) (fun j0 => (((fun i => [2, 3].getD i 0) j0 : Int) : Rat)) 2 = 0)))) && (!(decide ((0 ≤ 3 ∧ 3 ≤ 64) ∧ 0 ≤ 3 ∧ 3 < 3)))))) :: []) ?_
  refine nx ?_
  refine wp_ret ?_
  change bodyPost Try.prog Try.f11 (Ret (.eq (.bool (true))) w) .ret _ _
  exact body_slot rfl (by show Value.bool _ = Value.bool _; rw [show ((((((((((((((decide (2 = 2)) && (decide ((if 2 = 2 then dotQ (fun j0 => (((fun i => [1, 2].getD i 0) j0 : Int) : Rat)) (fun j0 => (((fun i => [3, 4].getD i 0) j0 : Int) : Rat)) 2 else 0) = Rat.divInt 11 1)))) && (!(decide (1 = 2))))) && ((cmpVec (fun j0 => (((fun i => [1, 2].getD i 0) j0 : Int) : Rat)) 2 (fun j0 => (((fun i => [1, 2, 0].getD i 0) j0 : Int) : Rat)) 3 : Int) == (-1 : Int)))) && (decide (2 = 2 ∧ 0 < 2 ∧ ∀ i, i < 2 → (fun i => if i = 0 then 2 else 2) i = (fun i => if i = 0 then 2 else 2) 0)))) && (decide (cmpVec (combV (fun j0 => (((fun i => [2, 3].getD i 0) j0 : Int) : Rat)) (fun i => if i = 0 then fun j0 => (((fun i => [1, 0].getD i 0) j0 : Int) : Rat) else fun j0 => (((fun i => [0, 1].getD i 0) j0 : Int) : Rat)) 2) (if 2 = 2 ∧ 0 < 2 ∧ ∀ i, i < 2 → (fun i => if i = 0 then 2 else 2) i = (fun i => if i = 0 then 2 else 2) 0 then (fun i => if i = 0 then 2 else 2) 0 else 0) (fun j0 => (((fun i => [2, 3].getD i 0) j0 : Int) : Rat)) 2 = 0)))) && (!(decide ((0 ≤ 3 ∧ 3 ≤ 64) ∧ 0 ≤ 3 ∧ 3 < 3)))))) = (true) from (by decide +kernel)]) rfl W7
end Go.Proofs.Ytngghjhmfpmilaa
/- Sizes of sums of products; plain laws for chapter 10. -/
namespace Go.Proofs.Ytngghjhmfpmilaa
open Go.RowKit
theorem den_add (p q : Rat) : nw (p + q).den ≤ nw p.den + nw q.den := by
  rw [add_as, new_den _ _ (den2_ne p q), Int.natAbs_natCast]
  exact Nat.le_trans (nw_mono' (Nat.div_le_self _ _)) (nw_mul _ _)
theorem num_add (p q : Rat) : nw (p + q).num.natAbs ≤ max (nw p.num.natAbs + nw q.den) (nw q.num.natAbs + nw p.den) + 1 := by
  rw [add_as, new_num _ _ (den2_ne p q), natAbs_signed]
  refine Nat.le_trans (nw_mono' (Nat.div_le_self _ _)) ?_
  have h0 := nw_mono' (natAbs_add_nat (p.num * q.den) (q.num * p.den))
  rw [Int.natAbs_mul, Int.natAbs_mul, Int.natAbs_natCast, Int.natAbs_natCast] at h0
  have h3 := nw_add (p.num.natAbs * q.den) (q.num.natAbs * p.den)
  have h4 := nw_mul p.num.natAbs q.den
  have h5 := nw_mul q.num.natAbs p.den
  omega
theorem dot_sz {a b : Nat → Rat} {s : Nat} : ∀ n, (∀ i, i < n → szq (a i * b i) ≤ s) → nw (dotQ a b n).den ≤ s * n + 1 ∧ nw (dotQ a b n).num.natAbs ≤ s * n + 1 + n
  | 0, _ => by
    have h1 : nw (0 : Rat).den ≤ 1 := by decide
    have h2 : nw (0 : Rat).num.natAbs ≤ 1 := by decide
    exact ⟨h1, h2⟩
  | n + 1, h => by
    obtain ⟨h1, h2⟩ := dot_sz n fun i hi => h i (by omega)
    have h3 := h n (by omega)
    have h4 := szq_num (a n * b n)
    have h5 := szq_den (a n * b n)
    have h6 := den_add (dotQ a b n) (a n * b n)
    have h7 := num_add (dotQ a b n) (a n * b n)
    have e : s * (n + 1) = s * n + s := Nat.mul_succ s n
    show nw (dotQ a b n + a n * b n).den ≤ _ ∧ nw (dotQ a b n + a n * b n).num.natAbs ≤ _
    omega
theorem dot_szq {a b : Nat → Rat} {s n : Nat} (h : ∀ i, i < n → szq (a i * b i) ≤ s) : szq (dotQ a b n) ≤ 2 * (s * n + 1) + n := by
  obtain ⟨h1, h2⟩ := dot_sz n h
  unfold szq
  omega
/-- what Dot asks of rows whose numbers are short -/
theorem dot_ok {a b : Nat → Rat} {s t n m : Nat} (ha : ∀ i, i < n → szq (a i) ≤ s) (hb : ∀ i, i < m → szq (b i) ≤ t) (hst : s + t ≤ 64) (hn : n ≤ 1048576) : ∀ i, i < n → i < m → szq (a i) + szq (b i) ≤ 17179869184 ∧ szq (dotQ a b i) + szq (a i * b i) ≤ 17179869184 := fun i hi hm => by
  have h1 := ha i hi
  have h2 := hb i hm
  have h3 : ∀ j, j < i → szq (a j * b j) ≤ 64 := fun j hj => by
    have := szq_mul (a j) (b j)
    have := ha j (by omega)
    have := hb j (by omega)
    omega
  have h4 := dot_szq h3
  have h5 := szq_mul (a i) (b i)
  omega
theorem sq_pos (a : Nat → Rat) : ∀ n, 0 ≤ dotQ a a n
  | 0 => by show (0 : Rat) ≤ 0; grind
  | n + 1 => by
    have h1 := sq_pos a n
    have h2 : 0 ≤ a n * a n := by
      rcases Rat.le_total (a := 0) (b := a n) with h | h
      · exact Rat.mul_nonneg h h
      · have := Rat.mul_nonneg (a := -(a n)) (b := -(a n)) (by grind) (by grind)
        grind
    show 0 ≤ dotQ a a n + a n * a n
    grind
theorem sq_zero (a : Nat → Rat) : ∀ n, dotQ a a n = 0 ↔ ∀ j, j < n → a j = 0
  | 0 => ⟨fun _ j hj => by omega, fun _ => rfl⟩
  | n + 1 => by
    have h1 := sq_pos a n
    have h2 : 0 ≤ a n * a n := by
      rcases Rat.le_total (a := 0) (b := a n) with h | h
      · exact Rat.mul_nonneg h h
      · have := Rat.mul_nonneg (a := -(a n)) (b := -(a n)) (by grind) (by grind)
        grind
    have ih := sq_zero a n
    show dotQ a a n + a n * a n = 0 ↔ _
    constructor
    · intro h
      have h3 : dotQ a a n = 0 := by grind
      have h4 : a n * a n = 0 := by grind
      have h5 : a n = 0 := by
        rcases Rat.mul_eq_zero.1 h4 with h | h <;> exact h
      intro j hj
      by_cases e : j = n
      · subst e; exact h5
      · exact ih.1 h3 j (by omega)
    · intro h
      rw [ih.2 fun j hj => h j (by omega), h n (by omega)]
      grind
theorem squares1 (q : Nat → Rat) (n : Nat) : ((((decide (n = n)) && (decide (((if n = n then dotQ q q n else 0)).num.sign ≥ (0 : Int))))) && ((decide ((if n = n then dotQ q q n else 0) = 0)) == (decide (firstV q n < 0)))) = true := by
  rw [if_pos rfl, decide_eq_true rfl]
  have h1 : 0 ≤ (dotQ q q n).num.sign := Int.sign_nonneg_iff.2 (Rat.num_nonneg.2 (sq_pos q n))
  rw [decide_eq_true (show (dotQ q q n).num.sign ≥ 0 from h1)]
  have h2 : decide (dotQ q q n = 0) = decide (firstV q n < 0) := decide_eq_decide.2 ((sq_zero q n).trans firstV_neg.symm)
  rw [h2]
  simp
end Go.Proofs.Ytngghjhmfpmilaa
