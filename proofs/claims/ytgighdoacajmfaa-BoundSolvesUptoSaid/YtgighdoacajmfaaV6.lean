/- The parts SE, Ker, SE2, SF, SFS, Bound, Choose, Bases, BlawA, SQ, Bnd, SQS, Row, SO, SO2. -/
import Derived.Test.YtgighdoacajmfaaV5
set_option maxRecDepth 100000
namespace Go.Proofs.Ytgighdoacajmfaa
open Go.RowKit
def leadZ (q : Nat → Nat → Rat) (m a c : Nat) : Int := if leadK q c a (m - a) < m then (leadK q c a (m - a) : Int) else -1
theorem leadK_step {q : Nat → Nat → Rat} {m g c : Nat} (hg : g < m) (hz : q g c = 0) : leadK q c g (m - g) = leadK q c (g + 1) (m - (g + 1)) := by
 rw [show m - g = (m - (g + 1)) + 1 by omega]
 exact if_pos hz
theorem leadZ_hit {q : Nat → Nat → Rat} {m a g c : Nat} (hg : g < m) (e : leadK q c a (m - a) = leadK q c g (m - g)) (hz : q g c ≠ 0) : leadZ q m a c = (g : Int) := by
 have : leadK q c g (m - g) = g := by
  rw [show m - g = (m - (g + 1)) + 1 by omega]
  exact if_neg hz
 unfold leadZ
 rw [e, this, if_pos hg]
theorem leadZ_none {q : Nat → Nat → Rat} {m a c : Nat} (e : leadK q c a (m - a) = m) : leadZ q m a c = -1 := by
 unfold leadZ
 rw [e, if_neg (Nat.lt_irrefl m)]
theorem leadZ_pos {q : Nat → Nat → Rat} {m a c : Nat} (h : leadK q c a (m - a) < m) : leadZ q m a c = (leadK q c a (m - a) : Int) := if_pos h
theorem lead_no {q : Nat → Nat → Rat} {m a c : Nat} (h : leadZ q m a c < 0) : ¬ leadK q c a (m - a) < m := fun k => by rw [leadZ_pos k] at h; omega
theorem lead_yes {q : Nat → Nat → Rat} {m a c : Nat} (h : ¬ leadZ q m a c < 0) : leadK q c a (m - a) < m := by
 refine Classical.byContradiction fun k => h ?_
 unfold leadZ
 rw [if_neg k]; decide
theorem red_skip {m g : Nat} {q : Nat → Nat → Rat} (h : ¬ leadK (red m q g).1 g (red m q g).2.1 (m - (red m q g).2.1) < m) : red m q (g + 1) = red m q g := if_neg h
theorem red_step {m g : Nat} {q : Nat → Nat → Rat} (h : leadK (red m q g).1 g (red m q g).2.1 (m - (red m q g).2.1) < m) : red m q (g + 1) = (clearQ (scaleQ (swapR (red m q g).1 (red m q g).2.1 (leadK (red m q g).1 g (red m q g).2.1 (m - (red m q g).2.1))) (red m q g).2.1 g) (red m q g).2.1 g, (red m q g).2.1 + 1, fun i => if i = (red m q g).2.1 then g else (red m q g).2.2 i) := if_pos h
theorem clr_all {B : Nat → Nat → Rat} {a c h r j : Nat} (hr : r < h) : clrP B a c h r j = clearQ B a c r j := by
 unfold clrP clearQ
 by_cases e : r = a
 ·rw [if_neg fun h => h.2 e, if_pos e, e]
 ·rw [if_pos ⟨hr, e⟩, if_neg e]
theorem red_hit1 {m g h j c : Nat} {q : Nat → Nat → Rat} (k : leadK (red m q g).1 g (red m q g).2.1 (m - (red m q g).2.1) < m) (hj : j < h) : clrP (scaleQ (swapR (red m q g).1 (red m q g).2.1 (leadK (red m q g).1 g (red m q g).2.1 (m - (red m q g).2.1))) (red m q g).2.1 g) (red m q g).2.1 g h j c = (red m q (g + 1)).1 j c := by
 rw [red_step k]
 exact clr_all hj
theorem red_hit2 {m g : Nat} {q : Nat → Nat → Rat} (k : leadK (red m q g).1 g (red m q g).2.1 (m - (red m q g).2.1) < m) : (red m q g).2.1 + 1 = (red m q (g + 1)).2.1 := by rw [red_step k]
theorem red_hit3 {m g : Nat} {q : Nat → Nat → Rat} (k : leadK (red m q g).1 g (red m q g).2.1 (m - (red m q g).2.1) < m) : ∀ j0, j0 < (red m q g).2.1 → (SV.ex (.int .i64 (((red m q (g + 1)).2.2 j0 : Nat) : Int)) : SV) = .ex (.int .i64 (((red m q g).2.2 j0 : Nat) : Int)) := fun j0 hj => by
 rw [red_step k]
 show SV.ex (.int .i64 (((if j0 = (red m q g).2.1 then g else (red m q g).2.2 j0 : Nat) : Int))) = _
 rw [if_neg zo]
theorem red_hit4 {m g : Nat} {q : Nat → Nat → Rat} (k : leadK (red m q g).1 g (red m q g).2.1 (m - (red m q g).2.1) < m) : ∀ j0, j0 < 1 → (g : Int) = (((red m q (g + 1)).2.2 ((red m q g).2.1 + j0) : Nat) : Int) := fun j0 hj => by
 obtain rfl : j0 = 0 := by omega
 rw [red_step k]
 show (g : Int) = (((if (red m q g).2.1 + 0 = (red m q g).2.1 then g else _ : Nat)) : Int)
 rw [if_pos (Nat.add_zero _)]
theorem swap_at {A : Nat → Nat → Rat} {a k c : Nat} : A a c = swapR A a k k c := by
 show A a c = A (if k = a then k else if k = k then a else k) c
 by_cases e : k = a
 ·rw [if_pos e, e]
 ·rw [if_neg e, if_pos rfl]
theorem swap_other {A : Nat → Nat → Rat} {a k t : Nat} (h : t ≠ k) : swapR A a k t = setR A a (A k) t := by
 funext j
 show A (if t = a then k else if t = k then a else t) j = if t = a then A k j else A t j
 by_cases e : t = a
 ·rw [if_pos e, if_pos e]
 ·rw [if_neg e, if_neg h, if_neg e]
theorem scale_other {A : Nat → Nat → Rat} {a c t : Nat} (h : t ≠ a) : scaleQ A a c t = A t := setR_ne h
theorem clrP_zero {B : Nat → Nat → Rat} {a c r j : Nat} : B r j = clrP B a c 0 r j := (if_neg fun h => absurd h.1 (Nat.not_lt_zero r)).symm
theorem clrP_self {B : Nat → Nat → Rat} {a c h : Nat} : clrP B a c h a = B a := by funext j; exact if_neg fun h => h.2 rfl
theorem clrP_now {B : Nat → Nat → Rat} {a c h : Nat} : clrP B a c h h = B h := by funext j; exact if_neg fun h => absurd h.1 (Nat.lt_irrefl _)
theorem clrP_ne {B : Nat → Nat → Rat} {a c h t : Nat} (e : t ≠ h) : clrP B a c (h + 1) t = clrP B a c h t := by
 funext j
 unfold clrP
 by_cases q : t < h ∧ t ≠ a
 ·rw [if_pos q, if_pos ⟨by omega, q.2⟩]
 ·rw [if_neg q, if_neg zo]
theorem clrP_at {B : Nat → Nat → Rat} {a c h j : Nat} (e : h ≠ a) : clrP B a c h h j + -(clrP B a c h h c) * clrP B a c h a j = clrP B a c (h + 1) h j := by
 rw [clrP_now, clrP_self]
 exact (if_pos ⟨Nat.lt_succ_self h, e⟩).symm
theorem clrP_skip {B : Nat → Nat → Rat} {a c h t j : Nat} (z : h = a ∨ clrP B a c h h c = 0) : clrP B a c h t j = clrP B a c (h + 1) t j := by
 by_cases e : t = h
 ·subst e
  rw [clrP_now] at z ⊢
  unfold clrP
  by_cases q : t = a
  ·rw [if_neg fun k => k.2 q]
  ·rw [if_pos ⟨Nat.lt_succ_self t, q⟩, z.resolve_left q]; grind
 ·rw [clrP_ne e]
theorem clr_yes {h a : Nat} {x : Rat} (e : (bif !decide ((h : Int) = (a : Int)) then !decide (x = 0) else false) = true) : h ≠ a ∧ x ≠ 0 := by
 by_cases q : h = a
 ·subst q; simp at e
 ·refine ⟨q, fun z => ?_⟩
  subst z; simp at e
theorem clr_no {h a : Nat} {x : Rat} (e : (bif !decide ((h : Int) = (a : Int)) then !decide (x = 0) else false) = false) : h = a ∨ x = 0 := by
 by_cases q : h = a
 ·exact .inl q
 ·refine .inr (Classical.byContradiction fun z => ?_)
  have : ¬ ((h : Int) = (a : Int)) := by omega
  simp [this, z] at e
theorem inv_room {m n a c : Nat} {A : Nat → Nat → Rat} (h : HtB m n 100000000 A) (ha : a < m) (hc : c < n) : szq (A a c) ≤ 17179869184 := by
 have := h a ha c hc
 have := sz_ht (A a c)
 omega
theorem scale_room {m n a c : Nat} {A : Nat → Nat → Rat} (h : HtB m n 100000000 A) (ha : a < m) (hc : c < n) : ∀ j, j < n → szq (A a c)⁻¹ + szq (A a j) ≤ 17179869184 := fun j hj => by
 have h1 := h a ha c hc
 have h2 := h a ha j hj
 exact ht_room (S := 100000000) (by have := ht_inv (A a c); omega) zo (by decide)
theorem clr_room {m n a c h : Nat} {A : Nat → Nat → Rat} (H : HtB m n 100000000 A) (ha : a < m) (hc : c < n) (hh : h < m) (e : h ≠ a) : ∀ j, j < n → szq (-(clrP (scaleQ A a c) a c h h c)) + szq (clrP (scaleQ A a c) a c h a j) ≤ 17179869184 ∧ szq (clrP (scaleQ A a c) a c h h j) + szq (-(clrP (scaleQ A a c) a c h h c) * clrP (scaleQ A a c) a c h a j) ≤ 17179869184 := fun j hj => by
 rw [clrP_now, clrP_self, scale_other e]
 have h1 := H.scale ha hc hj
 have h2 := H h hh j hj
 have h3 := H h hh c hc
 have h4 : htq (scaleQ A a c a j) ≤ 200000000 := by
  show htq (if a = a then _ else _) ≤ _
  rw [if_pos rfl]; omega
 exact ht_room2 (S := 200000000) zo h4 (by rw [ht_neg]; omega) (by decide)
theorem of_guard {P : Prop} [Decidable P] (h : (decide P == true) = true) : P := by simpa using h
theorem sRowsOf {q : Nat → Nat → Rat} {m n : Nat} (hm : m ≤ 68719476736) (hn : n ≤ 68719476736) : CallOK Try.prog 34 [.agg (.cn (.sl 1 (mE q n) m) (.cn (.ex (.int .i64 (n : Int))) (.nl)))] (.own 0 0) [.one (.row 48 1 (mE q n) m)] := by
 exact kP (ch := [.reg 2 [(1, .callS (.ex (.int .i64 (m : Int))) [])], .loop 3 (Nat) (fun g => g ≤ m) (fun g => m - g) (fun g => ⟨[(1, .own 0 0), (3, .own 1 0), (8, .ex (.int .i64 (m : Int))), (9, .ex (.int .i64 (g : Int)))], [(0, .one (.var 28 (.agg (.cn (.sl 1 (mE q n) m) (.cn (.ex (.int .i64 (n : Int))) (.nl)))))), (1, .one (.row 48 1 (mE q n) g))], 2⟩) [(0, .id 0), (1, .nil)] (fun _ => [(0, .id 0), (1, .id 2)]) (fun g => [.reg 5 [(2, .callS (.cn (.sl 3 (fun i0 => .rat (q g i0)) n) (.cn (.ex (.bool true)) (.nl))) [])], .reg 6 [(3, .row 0 (mE q n))], .reg 7 [(0, .z ((g + 1 : Nat) : Int))], .ret 8 [(0, .id 1)]])]) Try.func34 ((∀ j0, j0 < m → (∀ j1, j1 < n → True)) ∧ _ ∧ (((fun X1 X2 X3 X4 X5 X6 : Prop => ∃ g0 : Nat, X1 ∧ X2 ∧ X3 ∧ ((0 : Int) = (g0 : Int)) ∧ X4 ∧ X5 ∧ X6 ∧ ((g0 : Nat) = 0) ∧ (g0 ≤ m)) _ _ _ _ _ _) ∧ ∀ g : Nat, (g ≤ m) → (((decide ((g : Int) < (m : Int))) = true → _ ∧ (g + 1 ≤ 68719476736) ∧ _ ∧ _ ∧ _ ∧ ((fun X1 X2 X3 X4 X5 X6 X7 : Prop => ∃ g1 : Nat, X1 ∧ X2 ∧ X3 ∧ (((g + 1 : Nat) : Int) = (g1 : Int)) ∧ X4 ∧ X5 ∧ X6 ∧ ((g + 1 : Nat) = g1) ∧ X7 ∧ (g1 ≤ m) ∧ (m - g1 < m - g)) _ _ _ _ _ _ _)) ∧ ((decide ((g : Int) < (m : Int))) = false → (_ ∧ ((g : Nat) = m) ∧ _)))))
  ⟨(fun _ _ => (fun _ _ => trivial)), sMatRows (m := m) (n := n) (q := q), ⟨0, (rf 0), (rf 0), (rf (m : Int)), zo, (rf m), (leS (mE q n) m), (rf (n : Int)), zo, zo⟩, fun g hg => ⟨fun hc10 => have hc10 := dT hc10; ⟨sMatRow (m := m) (n := n) (r := g) (q := q) zo zo, zo, (oldS (mE q n) g), (newS (mE q n) g), (wI (g := g) zo), g + 1, (rf 0), (rf 0), (rf (m : Int)), zo, (rf m), (leS (mE q n) m), (rf (n : Int)), zo, (leS (mE q n) (g + 1)), zo, zo⟩, fun hc10 => have hc10 := dF hc10; have hi2 : g = m := zo; ⟨(rf 0), hi2, (leS (mE q n) g)⟩⟩⟩
theorem sLead {q : Nat → Nat → Rat} {m n a c : Nat} (hm : m ≤ 68719476736) (ha : a ≤ m) (hc : c < n) : CallOK Try.prog 35 [.sl 1 (mE q n) m, .ex (.int .i64 (a : Int)), .ex (.int .i64 (c : Int))] (.ex (.int .i64 (leadZ q m a c))) [] := by
 exact kP (ch := [.loop 2 (Nat) (fun g => a ≤ g ∧ g ≤ m ∧ leadK q c a (m - a) = leadK q c g (m - g)) (fun g => m - g) (fun g => ⟨[(0, .sl 1 (mE q n) m), (2, .ex (.int .i64 (c : Int))), (7, .ex (.int .i64 (g : Int)))], [], 0⟩) [] (fun _ => []) (fun g => [.reg 4 [(2, .k g), (5, .k c), (7, .callS (.ex (.bool (decide (q g c = 0)))) [])], .reg 3 [(1, .z ((g + 1 : Nat) : Int))]])]) Try.func35 ((∀ j0, j0 < m → (∀ j1, j1 < n → True)) ∧ (((fun X1 X2 X3 : Prop => ∃ g0 : Nat, X1 ∧ X2 ∧ X3 ∧ ((a : Int) = (g0 : Int)) ∧ (a ≤ g0 ∧ g0 ≤ m ∧ leadK q c a (m - a) = leadK q c g0 (m - g0))) _ _ _) ∧ ∀ g : Nat, (a ≤ g ∧ g ≤ m ∧ leadK q c a (m - a) = leadK q c g (m - g)) → (((decide ((g : Int) < (m : Int))) = true → _ ∧ (g < m) ∧ _ ∧ (c < n) ∧ _ ∧ (((!(decide (q g c = 0))) = true → (((g : Int) = (leadZ q m a c)))) ∧ ((!(decide (q g c = 0))) = false → _ ∧ ((fun X1 X2 X3 : Prop => ∃ g1 : Nat, X1 ∧ X2 ∧ X3 ∧ (((g + 1 : Nat) : Int) = (g1 : Int)) ∧ (a ≤ g1 ∧ g1 ≤ m ∧ leadK q c a (m - a) = leadK q c g1 (m - g1)) ∧ (m - g1 < m - g)) _ _ _)))) ∧ ((decide ((g : Int) < (m : Int))) = false → (((-1 : Int) = (leadZ q m a c)))))))
  ⟨(fun _ _ => (fun _ _ => trivial)), ⟨a, (rf m), (leS (mE q n) m), (rf (c : Int)), zo, by omega, by omega, rfl⟩, fun g hg => have hg1 := hg.2.1; ⟨fun hc12 => have hc12 := dT hc12; ⟨(rf (g : Int)), zo, (rf (c : Int)), zo, sRatZero (q := q g c), fun hc23 => have hz : q g c ≠ 0 := (by simpa using hc23); (leadZ_hit zo hg.2.2 hz).symm, fun hc23 => have hz : q g c = 0 := (by simpa using hc23); ⟨(wI (g := g) zo), g + 1, (rf m), (leS (mE q n) m), (rf (c : Int)), zo, ⟨by omega, by omega, hg.2.2.trans (leadK_step zo hz)⟩, zo⟩⟩, fun hc12 => have hc12 := dF hc12; have hi2 : g = m := zo; (leadZ_none (hg.2.2.trans (by rw [hi2, Nat.sub_self]; rfl))).symm⟩⟩
theorem sReduced {q : Nat → Nat → Rat} {m n : Nat} (hm : m ≤ 64) (hn : n ≤ 64) (hs : ∀ c, c ≤ n → HtB m n 100000000 (red m q c).1) : CallOK Try.prog 46 [.agg (.cn (.sl 1 (mE q n) m) (.cn (.ex (.int .i64 (n : Int))) (.nl)))] (.cn (.agg (.cn (.sl 1 (mE ((red m q n).1) n) m) (.cn (.ex (.int .i64 (n : Int))) (.nl)))) (.cn (.sl 1 (fun i0 => .ex (.int .i64 (((red m q n).2.2 i0 : Nat) : Int))) ((red m q n).2.1)) (.nl))) [] := by
 exact kP (ch := [.reg 1 [(1, .callS (.own 0 0) [.one (.row 48 1 (mE q n) m)])], .reg 3 [(1, .callS (.ex (.int .i64 (n : Int))) [])], .loop 4 (Nat) (fun g => g ≤ n) (fun g => n - g) (fun g => ⟨[(1, .own 0 0), (2, .own 1 0), (4, .own 2 0), (17, .ex (.int .i64 (n : Int))), (18, .ex (.int .i64 (g : Int))), (5, .own 4 0)], [(0, .one (.var 28 (.agg (.cn (.sl 1 (mE q n) m) (.cn (.ex (.int .i64 (n : Int))) (.nl)))))), (1, .one (.var 28 (.ex (.agg #[.slice none 0 0, .int .i64 0])))), (2, .one (.row 48 1 (mE (red m q g).1 n) m)), (4, .one (.row 3 1 (fun i0 => .ex (.int .i64 (((red m q g).2.2 i0 : Nat) : Int))) ((red m q g).2.1)))], 5⟩) [(0, .id 0), (1, .id 1), (2, .id 2), (4, .nil)] (fun _ => [(0, .id 0), (1, .id 1), (2, .id 2), (4, .id 4)]) (fun g => [.reg 7 [(3, .callS (.ex (.int .i64 (leadZ ((red m q g).1) m ((red m q g).2.1) g))) [])], .reg 19 [(0, .z ((g + 1 : Nat) : Int))], .reg 9 [(6, .k (leadK (red m q g).1 g (red m q g).2.1 (m - (red m q g).2.1))), (10, .k ((red m q g).2.1)), (12, .k ((red m q g).2.1)), (13, .row 0 (mE (setR (red m q g).1 (red m q g).2.1 ((red m q g).1 (leadK (red m q g).1 g (red m q g).2.1 (m - (red m q g).2.1)))) n)), (14, .k (leadK (red m q g).1 g (red m q g).2.1 (m - (red m q g).2.1))), (15, .row 0 (mE (swapR (red m q g).1 (red m q g).2.1 (leadK (red m q g).1 g (red m q g).2.1 (m - (red m q g).2.1))) n))], .reg 10 [(2, .k ((red m q g).2.1)), (5, .k g), (7, .callS (.cn (.rat (((swapR (red m q g).1 (red m q g).2.1 (leadK (red m q g).1 g (red m q g).2.1 (m - (red m q g).2.1))) ((red m q g).2.1) g)⁻¹)) (.cn (.ex (.bool (!decide (((swapR (red m q g).1 (red m q g).2.1 (leadK (red m q g).1 g (red m q g).2.1 (m - (red m q g).2.1))) ((red m q g).2.1) g) = 0)))) (.nl))) [])], .reg 11 [(5, .k ((red m q g).2.1)), (7, .callS (.sl 3 (fun i0 => .rat ((((swapR (red m q g).1 (red m q g).2.1 (leadK (red m q g).1 g (red m q g).2.1 (m - (red m q g).2.1))) ((red m q g).2.1) g)⁻¹) * ((swapR (red m q g).1 (red m q g).2.1 (leadK (red m q g).1 g (red m q g).2.1 (m - (red m q g).2.1))) ((red m q g).2.1) i0))) n) []), (8, .k ((red m q g).2.1)), (9, .row 0 (mE (scaleQ (swapR (red m q g).1 (red m q g).2.1 (leadK (red m q g).1 g (red m q g).2.1 (m - (red m q g).2.1))) (red m q g).2.1 g) n))], .loop 13 (Nat) (fun h => h ≤ m) (fun h => m - h) (fun h => ⟨[(1, .own 0 0), (2, .own 1 0), (4, .own 2 0), (17, .ex (.int .i64 (n : Int))), (18, .ex (.int .i64 (g : Int))), (5, .own 4 0), (6, .ex (.int .i64 (g : Int))), (7, .ex (.int .i64 (((red m q g).2.1 : Nat) : Int))), (64, .ex (.int .i64 (m : Int))), (65, .ex (.int .i64 (h : Int)))], [(0, .one (.var 28 (.agg (.cn (.sl 1 (mE q n) m) (.cn (.ex (.int .i64 (n : Int))) (.nl)))))), (1, .one (.var 28 (.ex (.agg #[.slice none 0 0, .int .i64 0])))), (2, .one (.row 48 1 (mE (clrP (scaleQ (swapR (red m q g).1 (red m q g).2.1 (leadK (red m q g).1 g (red m q g).2.1 (m - (red m q g).2.1))) (red m q g).2.1 g) (red m q g).2.1 g h) n) m)), (4, .one (.row 3 1 (fun i0 => .ex (.int .i64 (((red m q g).2.2 i0 : Nat) : Int))) ((red m q g).2.1)))], 5⟩) [(0, .id 0), (1, .id 1), (2, .id 2), (4, .id 4)] (fun _ => [(0, .id 0), (1, .id 1), (2, .id 2), (4, .id 4)]) (fun h => [.reg 15 [(6, .k h), (9, .k g), (11, .callS (.ex (.bool (decide ((clrP (scaleQ (swapR (red m q g).1 (red m q g).2.1 (leadK (red m q g).1 g (red m q g).2.1 (m - (red m q g).2.1))) (red m q g).2.1 g) (red m q g).2.1 g h) h g = 0)))) [])], .reg 16 [(4, .k h), (8, .k h), (11, .k g), (13, .callS (.rat (-((clrP (scaleQ (swapR (red m q g).1 (red m q g).2.1 (leadK (red m q g).1 g (red m q g).2.1 (m - (red m q g).2.1))) (red m q g).2.1 g) (red m q g).2.1 g h) h g))) []), (16, .k ((red m q g).2.1)), (18, .callS (.cn (.sl 3 (fun i0 => .rat (((clrP (scaleQ (swapR (red m q g).1 (red m q g).2.1 (leadK (red m q g).1 g (red m q g).2.1 (m - (red m q g).2.1))) (red m q g).2.1 g) (red m q g).2.1 g h) h i0) + (-((clrP (scaleQ (swapR (red m q g).1 (red m q g).2.1 (leadK (red m q g).1 g (red m q g).2.1 (m - (red m q g).2.1))) (red m q g).2.1 g) (red m q g).2.1 g h) h g)) * ((clrP (scaleQ (swapR (red m q g).1 (red m q g).2.1 (leadK (red m q g).1 g (red m q g).2.1 (m - (red m q g).2.1))) (red m q g).2.1 g) (red m q g).2.1 g h) ((red m q g).2.1) i0))) n) (.cn (.ex (.bool true)) (.nl))) []), (22, .k h), (23, .row 0 (mE (clrP (scaleQ (swapR (red m q g).1 (red m q g).2.1 (leadK (red m q g).1 g (red m q g).2.1 (m - (red m q g).2.1))) (red m q g).2.1 g) (red m q g).2.1 g (h + 1)) n))], .reg 17 [(0, .z ((h + 1 : Nat) : Int))], .reg 17 [(0, .z ((h + 1 : Nat) : Int))], .conv 18 [(0, .id 0), (1, .id 1), (2, .id 2), (3, .id 4)] ⟨[(1, .own 0 0), (2, .own 1 0), (4, .own 2 0), (17, .ex (.int .i64 (n : Int))), (18, .ex (.int .i64 (g : Int))), (5, .own 3 0), (6, .ex (.int .i64 (g : Int)))], [(0, .one (.var 28 (.agg (.cn (.sl 1 (mE q n) m) (.cn (.ex (.int .i64 (n : Int))) (.nl)))))), (1, .one (.var 28 (.ex (.agg #[.slice none 0 0, .int .i64 0])))), (2, .one (.row 48 1 (mE (red m q (g + 1)).1 n) m)), (3, .one (.row 3 1 (fun i0 => .ex (.int .i64 (((red m q g).2.2 i0 : Nat) : Int))) ((red m q g).2.1)))], 4⟩, .reg 18 [(3, .row 0 (fun i0 => .ex (.int .i64 (((red m q (g + 1)).2.2 i0 : Nat) : Int))))], .reg 19 [(0, .z ((g + 1 : Nat) : Int))]]), .conv 20 [(0, .id 0), (1, .id 1)] ⟨[(1, .own 0 0), (2, .own 1 0), (4, .sl 1 (mE ((red m q n).1) n) m), (5, .sl 1 (fun i0 => .ex (.int .i64 (((red m q n).2.2 i0 : Nat) : Int))) ((red m q n).2.1))], [(0, .one (.var 28 (.agg (.cn (.sl 1 (mE q n) m) (.cn (.ex (.int .i64 (n : Int))) (.nl)))))), (1, .one (.var 28 (.ex (.agg #[.slice none 0 0, .int .i64 0]))))], 2⟩, .reg 20 [(1, .callS (.ex (.int .i64 (n : Int))) []), (3, .callS (.cn (.agg (.cn (.sl 1 (mE ((red m q n).1) n) m) (.cn (.ex (.int .i64 (n : Int))) (.nl)))) (.cn (.ex (.bool true)) (.nl))) [])]])]) Try.func46 ((∀ j0, j0 < m → (∀ j1, j1 < n → True)) ∧ _ ∧ _ ∧ (((fun X1 X2 X3 X4 X5 X6 X7 X8 X9 : Prop => ∃ g0 : Nat, X1 ∧ X2 ∧ X3 ∧ X4 ∧ ((0 : Int) = (g0 : Int)) ∧ X5 ∧ X6 ∧ X7 ∧ X8 ∧ ((.agg #[.slice none 0 0, .int .i64 0] : Value) = .agg #[.slice none 0 0, .int .i64 0]) ∧ X9 ∧ (∀ j0, j0 < m → ((n : Nat) = n) ∧ (∀ j1, j1 < n → ((q j0 j1 : Rat) = ((red m q g0).1 j0 j1)))) ∧ (((red m q g0).2.1 : Nat) = 0) ∧ (g0 ≤ n)) _ _ _ _ _ _ _ _ _) ∧ ∀ g : Nat, (g ≤ n) → (((decide ((g : Int) < (n : Int))) = true → _ ∧ (((decide ((leadZ ((red m q g).1) m ((red m q g).2.1) g : Int) < 0)) = true → _ ∧ ((fun X1 X2 X3 X4 X5 X6 X7 X8 X9 : Prop => ∃ g1 : Nat, X1 ∧ X2 ∧ X3 ∧ X4 ∧ (((g + 1 : Nat) : Int) = (g1 : Int)) ∧ X5 ∧ X6 ∧ X7 ∧ X8 ∧ ((.agg #[.slice none 0 0, .int .i64 0] : Value) = .agg #[.slice none 0 0, .int .i64 0]) ∧ X9 ∧ (∀ j0, j0 < m → ((n : Nat) = n) ∧ (∀ j1, j1 < n → (((red m q g).1 j0 j1 : Rat) = ((red m q g1).1 j0 j1)))) ∧ (((red m q g).2.1 : Nat) = ((red m q g1).2.1)) ∧ (∀ j0, j0 < ((red m q g).2.1) → ((((red m q g).2.2 j0 : Nat) : Int) = (((red m q g1).2.2 j0 : Nat) : Int))) ∧ (g1 ≤ n) ∧ (n - g1 < n - g)) _ _ _ _ _ _ _ _ _)) ∧ ((decide ((leadZ ((red m q g).1) m ((red m q g).2.1) g : Int) < 0)) = false → ((leadZ ((red m q g).1) m ((red m q g).2.1) g : Int) = (((leadK (red m q g).1 g (red m q g).2.1 (m - (red m q g).2.1)) : Nat) : Int)) ∧ ((leadK (red m q g).1 g (red m q g).2.1 (m - (red m q g).2.1)) < m) ∧ ((leadK (red m q g).1 g (red m q g).2.1 (m - (red m q g).2.1)) < m) ∧ _ ∧ (((red m q g).2.1) < m) ∧ (((red m q g).2.1) < m) ∧ _ ∧ (((red m q g).2.1) < m) ∧ (((red m q g).2.1) < m) ∧ (((n : Nat) = n) ∧ (∀ j0, j0 < n → (((red m q g).1 (leadK (red m q g).1 g (red m q g).2.1 (m - (red m q g).2.1)) j0 : Rat) = ((setR (red m q g).1 (red m q g).2.1 ((red m q g).1 (leadK (red m q g).1 g (red m q g).2.1 (m - (red m q g).2.1)))) ((red m q g).2.1) j0)))) ∧ (∀ t, t < m → t ≠ ((red m q g).2.1) → (.sl 3 (fun i0 => .rat ((setR (red m q g).1 (red m q g).2.1 ((red m q g).1 (leadK (red m q g).1 g (red m q g).2.1 (m - (red m q g).2.1)))) t i0)) n : SV) = .sl 3 (fun i0 => .rat ((red m q g).1 t i0)) n) ∧ ((leadZ ((red m q g).1) m ((red m q g).2.1) g : Int) = (((leadK (red m q g).1 g (red m q g).2.1 (m - (red m q g).2.1)) : Nat) : Int)) ∧ ((leadK (red m q g).1 g (red m q g).2.1 (m - (red m q g).2.1)) < m) ∧ ((leadK (red m q g).1 g (red m q g).2.1 (m - (red m q g).2.1)) < m) ∧ (((n : Nat) = n) ∧ (∀ j0, j0 < n → (((red m q g).1 ((red m q g).2.1) j0 : Rat) = ((swapR (red m q g).1 (red m q g).2.1 (leadK (red m q g).1 g (red m q g).2.1 (m - (red m q g).2.1))) (leadK (red m q g).1 g (red m q g).2.1 (m - (red m q g).2.1)) j0)))) ∧ (∀ t, t < m → t ≠ (leadK (red m q g).1 g (red m q g).2.1 (m - (red m q g).2.1)) → (.sl 3 (fun i0 => .rat ((swapR (red m q g).1 (red m q g).2.1 (leadK (red m q g).1 g (red m q g).2.1 (m - (red m q g).2.1))) t i0)) n : SV) = .sl 3 (fun i0 => .rat ((setR (red m q g).1 (red m q g).2.1 ((red m q g).1 (leadK (red m q g).1 g (red m q g).2.1 (m - (red m q g).2.1)))) t i0)) n) ∧ _ ∧ (((red m q g).2.1) < m) ∧ (((red m q g).2.1) < m) ∧ _ ∧ (g < n) ∧ _ ∧ _ ∧ (((red m q g).2.1) < m) ∧ (((red m q g).2.1) < m) ∧ _ ∧ _ ∧ (((red m q g).2.1) < m) ∧ (((red m q g).2.1) < m) ∧ (((n : Nat) = n) ∧ (∀ j0, j0 < n → (((((swapR (red m q g).1 (red m q g).2.1 (leadK (red m q g).1 g (red m q g).2.1 (m - (red m q g).2.1))) ((red m q g).2.1) g)⁻¹) * ((swapR (red m q g).1 (red m q g).2.1 (leadK (red m q g).1 g (red m q g).2.1 (m - (red m q g).2.1))) ((red m q g).2.1) j0) : Rat) = ((scaleQ (swapR (red m q g).1 (red m q g).2.1 (leadK (red m q g).1 g (red m q g).2.1 (m - (red m q g).2.1))) (red m q g).2.1 g) ((red m q g).2.1) j0)))) ∧ (∀ t, t < m → t ≠ ((red m q g).2.1) → (.sl 3 (fun i0 => .rat ((scaleQ (swapR (red m q g).1 (red m q g).2.1 (leadK (red m q g).1 g (red m q g).2.1 (m - (red m q g).2.1))) (red m q g).2.1 g) t i0)) n : SV) = .sl 3 (fun i0 => .rat ((swapR (red m q g).1 (red m q g).2.1 (leadK (red m q g).1 g (red m q g).2.1 (m - (red m q g).2.1))) t i0)) n) ∧ (((fun X1 X2 X3 X4 X5 X6 X7 X8 X9 X10 X11 X12 X13 X14 X15 : Prop => ∃ h0 : Nat, X1 ∧ X2 ∧ X3 ∧ X4 ∧ X5 ∧ X6 ∧ X7 ∧ X8 ∧ X9 ∧ ((0 : Int) = (h0 : Int)) ∧ X10 ∧ X11 ∧ X12 ∧ ((.agg #[.slice none 0 0, .int .i64 0] : Value) = .agg #[.slice none 0 0, .int .i64 0]) ∧ X13 ∧ (∀ j0, j0 < m → ((n : Nat) = n) ∧ (∀ j1, j1 < n → (((scaleQ (swapR (red m q g).1 (red m q g).2.1 (leadK (red m q g).1 g (red m q g).2.1 (m - (red m q g).2.1))) (red m q g).2.1 g) j0 j1 : Rat) = ((clrP (scaleQ (swapR (red m q g).1 (red m q g).2.1 (leadK (red m q g).1 g (red m q g).2.1 (m - (red m q g).2.1))) (red m q g).2.1 g) (red m q g).2.1 g h0) j0 j1)))) ∧ X14 ∧ X15 ∧ (h0 ≤ m)) _ _ _ _ _ _ _ _ _ _ _ _ _ _ _) ∧ ∀ h : Nat, (h ≤ m) → (((decide ((h : Int) < (m : Int))) = true → (((!decide ((h : Int) = (((red m q g).2.1 : Nat) : Int))) == true) = true → ((!decide ((h : Int) = (((red m q g).2.1 : Nat) : Int))) == true) = true) ∧ (((!decide ((h : Int) = (((red m q g).2.1 : Nat) : Int))) == true) = true → ((!decide ((h : Int) = (((red m q g).2.1 : Nat) : Int))) == true) = true) ∧ (((!decide ((h : Int) = (((red m q g).2.1 : Nat) : Int))) == true) = true → _) ∧ (((!decide ((h : Int) = (((red m q g).2.1 : Nat) : Int))) == true) = true → h < m) ∧ (((!decide ((h : Int) = (((red m q g).2.1 : Nat) : Int))) == true) = true → ((!decide ((h : Int) = (((red m q g).2.1 : Nat) : Int))) == true) = true) ∧ (((!decide ((h : Int) = (((red m q g).2.1 : Nat) : Int))) == true) = true → h < m) ∧ (((!decide ((h : Int) = (((red m q g).2.1 : Nat) : Int))) == true) = true → ((!decide ((h : Int) = (((red m q g).2.1 : Nat) : Int))) == true) = true) ∧ (((!decide ((h : Int) = (((red m q g).2.1 : Nat) : Int))) == true) = true → ((!decide ((h : Int) = (((red m q g).2.1 : Nat) : Int))) == true) = true) ∧ (((!decide ((h : Int) = (((red m q g).2.1 : Nat) : Int))) == true) = true → _) ∧ (((!decide ((h : Int) = (((red m q g).2.1 : Nat) : Int))) == true) = true → g < n) ∧ (((!decide ((h : Int) = (((red m q g).2.1 : Nat) : Int))) == true) = true → ((!decide ((h : Int) = (((red m q g).2.1 : Nat) : Int))) == true) = true) ∧ (((!decide ((h : Int) = (((red m q g).2.1 : Nat) : Int))) == true) = true → ((!decide ((h : Int) = (((red m q g).2.1 : Nat) : Int))) == true) = true) ∧ (((!decide ((h : Int) = (((red m q g).2.1 : Nat) : Int))) == true) = true → _) ∧ (((!decide ((h : Int) = (((red m q g).2.1 : Nat) : Int))) == true) = true → ((!decide ((h : Int) = (((red m q g).2.1 : Nat) : Int))) == true) = true) ∧ ((!decide ((h : Int) = (((red m q g).2.1 : Nat) : Int))) = true → ((!decide ((h : Int) = (((red m q g).2.1 : Nat) : Int))) == true) = true) ∧ (((bif (!decide ((h : Int) = (((red m q g).2.1 : Nat) : Int))) then (!(decide ((clrP (scaleQ (swapR (red m q g).1 (red m q g).2.1 (leadK (red m q g).1 g (red m q g).2.1 (m - (red m q g).2.1))) (red m q g).2.1 g) (red m q g).2.1 g h) h g = 0))) else false) = true → _ ∧ (h < m) ∧ (h < m) ∧ _ ∧ (h < m) ∧ (h < m) ∧ _ ∧ (g < n) ∧ _ ∧ _ ∧ (((red m q g).2.1) < m) ∧ (((red m q g).2.1) < m) ∧ _ ∧ _ ∧ (h < m) ∧ (h < m) ∧ (((n : Nat) = n) ∧ (∀ j0, j0 < n → ((((clrP (scaleQ (swapR (red m q g).1 (red m q g).2.1 (leadK (red m q g).1 g (red m q g).2.1 (m - (red m q g).2.1))) (red m q g).2.1 g) (red m q g).2.1 g h) h j0) + (-((clrP (scaleQ (swapR (red m q g).1 (red m q g).2.1 (leadK (red m q g).1 g (red m q g).2.1 (m - (red m q g).2.1))) (red m q g).2.1 g) (red m q g).2.1 g h) h g)) * ((clrP (scaleQ (swapR (red m q g).1 (red m q g).2.1 (leadK (red m q g).1 g (red m q g).2.1 (m - (red m q g).2.1))) (red m q g).2.1 g) (red m q g).2.1 g h) ((red m q g).2.1) j0) : Rat) = ((clrP (scaleQ (swapR (red m q g).1 (red m q g).2.1 (leadK (red m q g).1 g (red m q g).2.1 (m - (red m q g).2.1))) (red m q g).2.1 g) (red m q g).2.1 g (h + 1)) h j0)))) ∧ (∀ t, t < m → t ≠ h → (.sl 3 (fun i0 => .rat ((clrP (scaleQ (swapR (red m q g).1 (red m q g).2.1 (leadK (red m q g).1 g (red m q g).2.1 (m - (red m q g).2.1))) (red m q g).2.1 g) (red m q g).2.1 g (h + 1)) t i0)) n : SV) = .sl 3 (fun i0 => .rat ((clrP (scaleQ (swapR (red m q g).1 (red m q g).2.1 (leadK (red m q g).1 g (red m q g).2.1 (m - (red m q g).2.1))) (red m q g).2.1 g) (red m q g).2.1 g h) t i0)) n) ∧ _ ∧ ((fun X1 X2 X3 X4 X5 X6 X7 X8 X9 X10 X11 X12 X13 X14 X15 : Prop => ∃ h1 : Nat, X1 ∧ X2 ∧ X3 ∧ X4 ∧ X5 ∧ X6 ∧ X7 ∧ X8 ∧ X9 ∧ (((h + 1 : Nat) : Int) = (h1 : Int)) ∧ X10 ∧ X11 ∧ X12 ∧ ((.agg #[.slice none 0 0, .int .i64 0] : Value) = .agg #[.slice none 0 0, .int .i64 0]) ∧ X13 ∧ (∀ j0, j0 < m → ((n : Nat) = n) ∧ (∀ j1, j1 < n → (((clrP (scaleQ (swapR (red m q g).1 (red m q g).2.1 (leadK (red m q g).1 g (red m q g).2.1 (m - (red m q g).2.1))) (red m q g).2.1 g) (red m q g).2.1 g (h + 1)) j0 j1 : Rat) = ((clrP (scaleQ (swapR (red m q g).1 (red m q g).2.1 (leadK (red m q g).1 g (red m q g).2.1 (m - (red m q g).2.1))) (red m q g).2.1 g) (red m q g).2.1 g h1) j0 j1)))) ∧ X14 ∧ X15 ∧ (h1 ≤ m) ∧ (m - h1 < m - h)) _ _ _ _ _ _ _ _ _ _ _ _ _ _ _)) ∧ ((bif (!decide ((h : Int) = (((red m q g).2.1 : Nat) : Int))) then (!(decide ((clrP (scaleQ (swapR (red m q g).1 (red m q g).2.1 (leadK (red m q g).1 g (red m q g).2.1 (m - (red m q g).2.1))) (red m q g).2.1 g) (red m q g).2.1 g h) h g = 0))) else false) = false → _ ∧ ((fun X1 X2 X3 X4 X5 X6 X7 X8 X9 X10 X11 X12 X13 X14 X15 : Prop => ∃ h1 : Nat, X1 ∧ X2 ∧ X3 ∧ X4 ∧ X5 ∧ X6 ∧ X7 ∧ X8 ∧ X9 ∧ (((h + 1 : Nat) : Int) = (h1 : Int)) ∧ X10 ∧ X11 ∧ X12 ∧ ((.agg #[.slice none 0 0, .int .i64 0] : Value) = .agg #[.slice none 0 0, .int .i64 0]) ∧ X13 ∧ (∀ j0, j0 < m → ((n : Nat) = n) ∧ (∀ j1, j1 < n → (((clrP (scaleQ (swapR (red m q g).1 (red m q g).2.1 (leadK (red m q g).1 g (red m q g).2.1 (m - (red m q g).2.1))) (red m q g).2.1 g) (red m q g).2.1 g h) j0 j1 : Rat) = ((clrP (scaleQ (swapR (red m q g).1 (red m q g).2.1 (leadK (red m q g).1 g (red m q g).2.1 (m - (red m q g).2.1))) (red m q g).2.1 g) (red m q g).2.1 g h1) j0 j1)))) ∧ X14 ∧ X15 ∧ (h1 ≤ m) ∧ (m - h1 < m - h)) _ _ _ _ _ _ _ _ _ _ _ _ _ _ _)))) ∧ ((decide ((h : Int) < (m : Int))) = false → _ ∧ _ ∧ _ ∧ _ ∧ _ ∧ _ ∧ _ ∧ _ ∧ _ ∧ _ ∧ ((.agg #[.slice none 0 0, .int .i64 0] : Value) = .agg #[.slice none 0 0, .int .i64 0]) ∧ _ ∧ (∀ j0, j0 < m → ((n : Nat) = n) ∧ (∀ j1, j1 < n → (((clrP (scaleQ (swapR (red m q g).1 (red m q g).2.1 (leadK (red m q g).1 g (red m q g).2.1 (m - (red m q g).2.1))) (red m q g).2.1 g) (red m q g).2.1 g h) j0 j1 : Rat) = ((red m q (g + 1)).1 j0 j1)))) ∧ _ ∧ _ ∧ (((red m q g).2.1) + 1 ≤ 68719476736) ∧ (∀ j0, j0 < ((red m q g).2.1) → (.ex (.int .i64 (((red m q (g + 1)).2.2 j0 : Nat) : Int)) : SV) = .ex (.int .i64 (((red m q g).2.2 j0 : Nat) : Int))) ∧ (∀ j0, j0 < 1 → ((g : Int) = (((red m q (g + 1)).2.2 (((red m q g).2.1) + j0) : Nat) : Int))) ∧ _ ∧ ((fun X1 X2 X3 X4 X5 X6 X7 X8 X9 : Prop => ∃ g1 : Nat, X1 ∧ X2 ∧ X3 ∧ X4 ∧ (((g + 1 : Nat) : Int) = (g1 : Int)) ∧ X5 ∧ X6 ∧ X7 ∧ X8 ∧ ((.agg #[.slice none 0 0, .int .i64 0] : Value) = .agg #[.slice none 0 0, .int .i64 0]) ∧ X9 ∧ (∀ j0, j0 < m → ((n : Nat) = n) ∧ (∀ j1, j1 < n → (((red m q (g + 1)).1 j0 j1 : Rat) = ((red m q g1).1 j0 j1)))) ∧ ((((red m q g).2.1) + 1 : Nat) = ((red m q g1).2.1)) ∧ (∀ j0, j0 < (((red m q g).2.1) + 1) → ((((red m q (g + 1)).2.2 j0 : Nat) : Int) = (((red m q g1).2.2 j0 : Nat) : Int))) ∧ (g1 ≤ n) ∧ (n - g1 < n - g)) _ _ _ _ _ _ _ _ _))))))) ∧ ((decide ((g : Int) < (n : Int))) = false → _ ∧ _ ∧ _ ∧ (∀ j0, j0 < m → ((n : Nat) = n) ∧ (∀ j1, j1 < n → (((red m q g).1 j0 j1 : Rat) = (((red m q n).1) j0 j1)))) ∧ (((red m q g).2.1 : Nat) = ((red m q n).2.1)) ∧ (∀ j0, j0 < ((red m q g).2.1) → ((((red m q g).2.2 j0 : Nat) : Int) = (((red m q n).2.2 j0 : Nat) : Int))) ∧ _ ∧ _ ∧ _ ∧ ((.agg #[.slice none 0 0, .int .i64 0] : Value) = .agg #[.slice none 0 0, .int .i64 0]) ∧ _ ∧ _ ∧ (_ ∧ _ ∧ _ ∧ _ ∧ _)))))
  ⟨(fun _ _ => (fun _ _ => trivial)), sRowsOf (m := m) (n := n) (q := q) zo zo, sMatCols (m := m) (n := n) (q := q), ⟨0, (rf 0), (rf 0), (rf 0), (rf (n : Int)), zo, (rf 0), (rf m), (leS (mE q n) m), (rf (n : Int)), rfl, (rf m), (fun j0 hj0 => ⟨rfl, (fun j1 hj1 => rfl)⟩), rfl, zo⟩, fun g hg => have H1 := (red_inv m q g).am; have H2 := (red_inv m q g).ac; ⟨fun hc19 => have hc19 := dT hc19; ⟨sLead (m := m) (n := n) (a := (red m q g).2.1) (c := g) (q := ((red m q g).1)) zo zo zo, fun hc28 => have hc28 := dT hc28; have hk2 := lead_no hc28; ⟨(wI (g := g) zo), g + 1, (rf 0), (rf 0), (rf 0), (rf (n : Int)), zo, (rf 0), (rf m), (leS (mE q n) m), (rf (n : Int)), rfl, (rf m), (fun j0 hj0 => ⟨rfl, (fun j1 hj1 => (by first | rfl | rw [red_skip hk2]))⟩), (by first | exact red_hit2 hk2 | rw [red_skip hk2]), (fun j0 hj0 => (by first | rfl | rw [red_skip hk2])), zo, zo⟩, fun hc28 => have hc28 := dF hc28; have hk2 := lead_yes hc28; have hk1 := leadK_le (B := (red m q g).1) (c := g) (m - (red m q g).2.1) (red m q g).2.1; have ha : (red m q g).2.1 < m := zo; have H3 := hs g zo; have H4 := H3.swap (k := (red m q g).2.1) ha hk2; have H5 := fun j hj => H4.scale (c := g) (j := j) ha zo hj; ⟨(leadZ_pos hk2), zo, zo, (rf (((red m q g).2.1 : Nat) : Int)), zo, zo, (rf (((red m q g).2.1 : Nat) : Int)), zo, zo, ⟨rfl, (fun j0 hj0 => (if_pos rfl).symm)⟩, (fun t ht hne => by simp only [setR_ne hne]), (leadZ_pos hk2), zo, zo, ⟨rfl, (fun j0 hj0 => (swap_at))⟩, (fun t ht hne => by simp only [swap_other hne]), (rf (((red m q g).2.1 : Nat) : Int)), zo, zo, (rf (g : Int)), zo, sRatInv (q := (swapR (red m q g).1 (red m q g).2.1 (leadK (red m q g).1 g (red m q g).2.1 (m - (red m q g).2.1))) ((red m q g).2.1) g) (inv_room H4 ha zo), (rf (((red m q g).2.1 : Nat) : Int)), zo, zo, (sVecScale (n := n) (a := (swapR (red m q g).1 (red m q g).2.1 (leadK (red m q g).1 g (red m q g).2.1 (m - (red m q g).2.1))) ((red m q g).2.1)) (r := (((swapR (red m q g).1 (red m q g).2.1 (leadK (red m q g).1 g (red m q g).2.1 (m - (red m q g).2.1))) ((red m q g).2.1) g)⁻¹)) zo (scale_room H4 ha zo)).frzV, (rf (((red m q g).2.1 : Nat) : Int)), zo, zo, ⟨rfl, (fun j0 hj0 => (if_pos rfl).symm)⟩, (fun t ht hne => by simp only [scale_other hne]), ⟨0, (rf 0), (rf 0), (rf 0), (rf (n : Int)), (rf (g : Int)), (rf 0), (rf (g : Int)), (rf (((red m q g).2.1 : Nat) : Int)), (rf (m : Int)), zo, (rf m), (leS (mE q n) m), (rf (n : Int)), rfl, (rf m), (fun j0 hj0 => ⟨rfl, (fun j1 hj1 => clrP_zero)⟩), (rf ((red m q g).2.1 : Nat)), (leS (fun i0 => .ex (.int .i64 (((red m q g).2.2 i0 : Nat) : Int))) ((red m q g).2.1)), zo⟩, fun h hh => ⟨fun hc66 => have hc66 := dT hc66; ⟨id, id, (fun hg => (rf (h : Int))), (fun hg => zo), id, (fun hg => zo), id, id, (fun hg => (rf (g : Int))), (fun hg => zo), id, id, (fun hg => sRatZero (q := (clrP (scaleQ (swapR (red m q g).1 (red m q g).2.1 (leadK (red m q g).1 g (red m q g).2.1 (m - (red m q g).2.1))) (red m q g).2.1 g) (red m q g).2.1 g h) h g)), id, (by simp), fun hc81 => have hz := clr_yes hc81; ⟨(rf (h : Int)), zo, zo, (rf (h : Int)), zo, zo, (rf (g : Int)), zo, sRatNeg (q := (clrP (scaleQ (swapR (red m q g).1 (red m q g).2.1 (leadK (red m q g).1 g (red m q g).2.1 (m - (red m q g).2.1))) (red m q g).2.1 g) (red m q g).2.1 g h) h g), (rf (((red m q g).2.1 : Nat) : Int)), zo, zo, (sVecAddTimes (a := (clrP (scaleQ (swapR (red m q g).1 (red m q g).2.1 (leadK (red m q g).1 g (red m q g).2.1 (m - (red m q g).2.1))) (red m q g).2.1 g) (red m q g).2.1 g h) h) (b := (clrP (scaleQ (swapR (red m q g).1 (red m q g).2.1 (leadK (red m q g).1 g (red m q g).2.1 (m - (red m q g).2.1))) (red m q g).2.1 g) (red m q g).2.1 g h) ((red m q g).2.1)) (n := n) (r := - ((clrP (scaleQ (swapR (red m q g).1 (red m q g).2.1 (leadK (red m q g).1 g (red m q g).2.1 (m - (red m q g).2.1))) (red m q g).2.1 g) (red m q g).2.1 g h) h g)) zo (clr_room H4 ha zo zo hz.1)).frzV2, (rf (h : Int)), zo, zo, ⟨rfl, (fun j0 hj0 => (clrP_at hz.1))⟩, (fun t ht hne => by simp only [clrP_ne hne]), (wI (g := h) zo), h + 1, (rf 0), (rf 0), (rf 0), (rf (n : Int)), (rf (g : Int)), (rf 0), (rf (g : Int)), (rf (((red m q g).2.1 : Nat) : Int)), (rf (m : Int)), zo, (rf m), (leS (mE q n) m), (rf (n : Int)), rfl, (rf m), (fun j0 hj0 => ⟨rfl, (fun j1 hj1 => (by first | rfl | exact clrP_skip hz))⟩), (rf ((red m q g).2.1 : Nat)), (leS (fun i0 => .ex (.int .i64 (((red m q g).2.2 i0 : Nat) : Int))) ((red m q g).2.1)), zo, zo⟩, fun hc81 => have hz := clr_no hc81; ⟨(wI (g := h) zo), h + 1, (rf 0), (rf 0), (rf 0), (rf (n : Int)), (rf (g : Int)), (rf 0), (rf (g : Int)), (rf (((red m q g).2.1 : Nat) : Int)), (rf (m : Int)), zo, (rf m), (leS (mE q n) m), (rf (n : Int)), rfl, (rf m), (fun j0 hj0 => ⟨rfl, (fun j1 hj1 => (by first | rfl | exact clrP_skip hz))⟩), (rf ((red m q g).2.1 : Nat)), (leS (fun i0 => .ex (.int .i64 (((red m q g).2.2 i0 : Nat) : Int))) ((red m q g).2.1)), zo, zo⟩⟩, fun hc66 => have hc66 := dF hc66; have hi3 : h = m := zo; ⟨(rf 0), (rf 0), (rf 0), (rf (n : Int)), (rf (g : Int)), (rf 0), (rf (g : Int)), (rf m), (leS (mE q n) m), (rf (n : Int)), rfl, (rf m), (fun j0 hj0 => ⟨rfl, (fun j1 hj1 => (red_hit1 hk2 zo))⟩), (rf ((red m q g).2.1 : Nat)), (leS (fun i0 => .ex (.int .i64 (((red m q g).2.2 i0 : Nat) : Int))) ((red m q g).2.1)), zo, (red_hit3 hk2), (red_hit4 hk2), (wI (g := g) zo), g + 1, (rf 0), (rf 0), (rf 0), (rf (n : Int)), zo, (rf 0), (rf m), (leS (mE q n) m), (rf (n : Int)), rfl, (rf m), (fun j0 hj0 => ⟨rfl, (fun j1 hj1 => (by first | rfl | rw [red_skip hk2]))⟩), (by first | exact red_hit2 hk2 | rw [red_skip hk2]), (fun j0 hj0 => (by first | rfl | rw [red_skip hk2])), zo, zo⟩⟩⟩⟩, fun hc19 => have hc19 := dF hc19; have hi2 : g = n := zo; ⟨(rf 0), (rf 0), (rf m), (fun j0 hj0 => ⟨rfl, (fun j1 hj1 => (by rw [hi2]))⟩), (by rw [hi2]), (fun j0 hj0 => (by rw [hi2])), (rf m), (leS (mE q n) m), (rf (n : Int)), rfl, sMatCols (m := m) (n := n) (q := q), (sMatOf (m := m) (n := n) (q := fun r c => ((red m q n).1) r c) zo zo), (rf m), (leS (mE ((red m q n).1) n) m), (rf (n : Int)), (rf ((red m q n).2.1 : Nat)), (leS (fun i0 => .ex (.int .i64 (((red m q n).2.2 i0 : Nat) : Int))) ((red m q n).2.1))⟩⟩⟩
def solP (s : RedS) (n k j : Nat) : Rat := sumQ (fun r => if s.2.2 r = j then s.1 r n else 0) k
theorem solP_zero {s : RedS} {n j : Nat} : (0 : Rat) = solP s n 0 j := rfl
theorem solP_at {m c n : Nat} {A : Nat → Nat → Rat} {s : RedS} (H : RedInv m A c s) {k : Nat} (hk : k < s.2.1) : s.1 k n = solP s n (k + 1) (s.2.2 k) := by
 show _ = sumQ _ k + (if s.2.2 k = s.2.2 k then _ else _)
 rw [if_pos rfl, sumQ_congr k (g := fun _ => 0) fun i hi => if_neg fun e => absurd (H.inj zo hk e) zo, sumQ_zero]; grind
theorem solP_ne {s : RedS} {n k j : Nat} (h : j ≠ s.2.2 k) : solP s n (k + 1) j = solP s n k j := by
 show solP s n k j + (if s.2.2 k = j then _ else _) = _
 rw [if_neg (Ne.symm h)]; grind
open Go.RowKit
theorem sol_lt {m n : Nat} {q : Nat → Nat → Rat} {b : Nat → Rat} (h : ¬ noSol m n q b) : ∀ i, i < (red m (wideQ n q b) (n + 1)).2.1 → (red m (wideQ n q b) (n + 1)).2.2 i < n := fun i hi => by
 rw [red_some h] at hi ⊢
 exact (red_inv m (wideQ n q b) n).lt i hi
theorem sol_test {a n : Nat} {L : Nat → Nat} (h : ∀ i, i < a → L i < n) : (bif decide ((0 : Int) < (a : Int)) then decide (((L (a - 1) : Nat) : Int) = (n : Int)) else false) = false := by
 by_cases e : a = 0
 ·subst e; rfl
 ·have := h (a - 1) zo
  have h2 : ¬ (((L (a - 1) : Nat) : Int) = (n : Int)) := by omega
  simp [h2]
theorem sSolveN {q : Nat → Nat → Rat} {b : Nat → Rat} {m n : Nat} (hm : m ≤ 64) (hn : n < 64) (hs : ∀ c, c ≤ n + 1 → HtB m (n + 1) 100000000 (red m (wideQ n q b) c).1) (h : noSol m n q b) : CallOK Try.prog 20 [.agg (.cn (.sl 1 (mE q n) m) (.cn (.ex (.int .i64 (n : Int))) (.nl))), .sl 3 (fun i0 => .rat (b i0)) m] (.cn (.sl 3 (fun _ => .rat 0) 0) (.cn (.ex (.int .i64 1)) (.cn (.ex (.bool true)) (.nl)))) [] := by
 have ha := (red_none h).1
 have hl := (red_none h).2
 have hb : (red m (wideQ n q b) (n + 1)).2.1 - 1 = (red m q n).2.1 := by omega
 have hw := (red_inv m (wideQ n q b) (n + 1)).am
 exact kP (ch := [.reg 1 [(2, .callS (.cn (.agg (.cn (.sl 1 (fun i0 => .sl 3 (fun i1 => .rat (wideQ n q b i0 i1)) (n + 1)) m) (.cn (.ex (.int .i64 ((n + 1 : Nat) : Int))) (.nl)))) (.cn (.ex (.bool true)) (.nl))) [])], .dec 22 false, .reg 4 [(1, .callS (.cn (.agg (.cn (.sl 1 (mE ((red m (wideQ n q b) (n + 1)).1) (n + 1)) m) (.cn (.ex (.int .i64 ((n + 1 : Nat) : Int))) (.nl)))) (.cn (.sl 1 (fun i0 => .ex (.int .i64 (((red m (wideQ n q b) (n + 1)).2.2 i0 : Nat) : Int))) ((red m (wideQ n q b) (n + 1)).2.1)) (.nl))) [])], .reg 6 [(5, .z (((red m (wideQ n q b) (n + 1)).2.1 - 1 : Nat) : Int)), (6, .k ((red m (wideQ n q b) (n + 1)).2.1 - 1)), (9, .callS (.ex (.int .i64 (n : Int))) [])], .dec 41 true]) Try.func20 ((∀ j0, j0 < m → (∀ j1, j1 < n → True)) ∧ (∀ j0, j0 < m → True) ∧ _ ∧ ((!true) = false) ∧ _ ∧ (((decide ((0 : Int) < (((red m (wideQ n q b) (n + 1)).2.1 : Nat) : Int))) == true) = true → ((decide ((0 : Int) < (((red m (wideQ n q b) (n + 1)).2.1 : Nat) : Int))) == true) = true) ∧ (((decide ((0 : Int) < (((red m (wideQ n q b) (n + 1)).2.1 : Nat) : Int))) == true) = true → IntKind.wrap .i64 ((((red m (wideQ n q b) (n + 1)).2.1 : Nat) : Int) - 1) = ((((red m (wideQ n q b) (n + 1)).2.1 - 1 : Nat) : Int))) ∧ (((decide ((0 : Int) < (((red m (wideQ n q b) (n + 1)).2.1 : Nat) : Int))) == true) = true → ((decide ((0 : Int) < (((red m (wideQ n q b) (n + 1)).2.1 : Nat) : Int))) == true) = true) ∧ (((decide ((0 : Int) < (((red m (wideQ n q b) (n + 1)).2.1 : Nat) : Int))) == true) = true → ((decide ((0 : Int) < (((red m (wideQ n q b) (n + 1)).2.1 : Nat) : Int))) == true) = true) ∧ (((decide ((0 : Int) < (((red m (wideQ n q b) (n + 1)).2.1 : Nat) : Int))) == true) = true → _) ∧ (((decide ((0 : Int) < (((red m (wideQ n q b) (n + 1)).2.1 : Nat) : Int))) == true) = true → ((red m (wideQ n q b) (n + 1)).2.1 - 1) < ((red m (wideQ n q b) (n + 1)).2.1)) ∧ (((decide ((0 : Int) < (((red m (wideQ n q b) (n + 1)).2.1 : Nat) : Int))) == true) = true → ((decide ((0 : Int) < (((red m (wideQ n q b) (n + 1)).2.1 : Nat) : Int))) == true) = true) ∧ (((decide ((0 : Int) < (((red m (wideQ n q b) (n + 1)).2.1 : Nat) : Int))) == true) = true → ((decide ((0 : Int) < (((red m (wideQ n q b) (n + 1)).2.1 : Nat) : Int))) == true) = true) ∧ (((decide ((0 : Int) < (((red m (wideQ n q b) (n + 1)).2.1 : Nat) : Int))) == true) = true → _) ∧ (((decide ((0 : Int) < (((red m (wideQ n q b) (n + 1)).2.1 : Nat) : Int))) == true) = true → ((decide ((0 : Int) < (((red m (wideQ n q b) (n + 1)).2.1 : Nat) : Int))) == true) = true) ∧ (((decide ((0 : Int) < (((red m (wideQ n q b) (n + 1)).2.1 : Nat) : Int))) == true) = true → ((decide ((0 : Int) < (((red m (wideQ n q b) (n + 1)).2.1 : Nat) : Int))) == true) = true) ∧ ((decide ((0 : Int) < (((red m (wideQ n q b) (n + 1)).2.1 : Nat) : Int))) = true → ((decide ((0 : Int) < (((red m (wideQ n q b) (n + 1)).2.1 : Nat) : Int))) == true) = true) ∧ ((bif (decide ((0 : Int) < (((red m (wideQ n q b) (n + 1)).2.1 : Nat) : Int))) then (decide ((((red m (wideQ n q b) (n + 1)).2.2 ((red m (wideQ n q b) (n + 1)).2.1 - 1) : Nat) : Int) = (n : Int))) else false) = true) ∧ (_ ∧ _ ∧ _))
  ⟨(fun _ _ => (fun _ _ => trivial)), (fun _ _ => trivial), (sMatWithCol (m := m) (n := n) (q := q) (v := b) zo zo), (by simp), sReduced (m := m) (n := n + 1) (q := (wideQ n q b)) zo zo (by assumption), id, (fun hg => (by rw [IntKind.wrap_i64]; omega)), id, id, (fun hg => (rf (((red m (wideQ n q b) (n + 1)).2.1 - 1 : Nat) : Int))), (fun hg => zo), id, id, (fun hg => sMatCols (m := m) (n := n) (q := q)), id, id, (by simp), (by rw [hb, hl]; simp; omega), (rf 0), (rf (1 : Int)), (rf (true : Bool))⟩
theorem sSolveY {q : Nat → Nat → Rat} {b : Nat → Rat} {m n : Nat} (hm : m ≤ 64) (hn : n < 64) (hs : ∀ c, c ≤ n + 1 → HtB m (n + 1) 100000000 (red m (wideQ n q b) c).1) (h : ¬ noSol m n q b) : CallOK Try.prog 20 [.agg (.cn (.sl 1 (mE q n) m) (.cn (.ex (.int .i64 (n : Int))) (.nl))), .sl 3 (fun i0 => .rat (b i0)) m] (.cn (.sl 3 (fun i0 => .rat (solQ (red m (wideQ n q b) (n + 1)) n i0)) n) (.cn (.ex (.int .i64 (if (red m (wideQ n q b) (n + 1)).2.1 < n then 3 else 2))) (.cn (.ex (.bool true)) (.nl)))) [] := by
 have H := red_inv m (wideQ n q b) (n + 1)
 have hw := H.am
 have hl : ∀ i, i < (red m (wideQ n q b) (n + 1)).2.1 → (red m (wideQ n q b) (n + 1)).2.2 i < n := sol_lt h
 exact kP (ch := [.reg 1 [(2, .callS (.cn (.agg (.cn (.sl 1 (fun i0 => .sl 3 (fun i1 => .rat (wideQ n q b i0 i1)) (n + 1)) m) (.cn (.ex (.int .i64 ((n + 1 : Nat) : Int))) (.nl)))) (.cn (.ex (.bool true)) (.nl))) [])], .dec 22 false, .reg 4 [(1, .callS (.cn (.agg (.cn (.sl 1 (mE ((red m (wideQ n q b) (n + 1)).1) (n + 1)) m) (.cn (.ex (.int .i64 ((n + 1 : Nat) : Int))) (.nl)))) (.cn (.sl 1 (fun i0 => .ex (.int .i64 (((red m (wideQ n q b) (n + 1)).2.2 i0 : Nat) : Int))) ((red m (wideQ n q b) (n + 1)).2.1)) (.nl))) [])], .reg 6 [(5, .z (((red m (wideQ n q b) (n + 1)).2.1 - 1 : Nat) : Int)), (6, .k ((red m (wideQ n q b) (n + 1)).2.1 - 1)), (9, .callS (.ex (.int .i64 (n : Int))) [])], .dec 41 false, .reg 8 [(1, .callS (.ex (.int .i64 (n : Int))) []), (2, .row n (fun _ => .rat 0))], .loop 10 (Nat) (fun g => g ≤ (red m (wideQ n q b) (n + 1)).2.1) (fun g => (red m (wideQ n q b) (n + 1)).2.1 - g) (fun g => ⟨[(2, .own 0 0), (9, .own 2 0), (10, .sl 1 (fun i0 => .ex (.int .i64 (((red m (wideQ n q b) (n + 1)).2.2 i0 : Nat) : Int))) ((red m (wideQ n q b) (n + 1)).2.1)), (11, .ex (.int .i64 (((red m (wideQ n q b) (n + 1)).2.1 : Nat) : Int))), (12, .own 3 0), (45, .sl 1 (fun i0 => .ex (.int .i64 (((red m (wideQ n q b) (n + 1)).2.2 i0 : Nat) : Int))) ((red m (wideQ n q b) (n + 1)).2.1)), (46, .ex (.int .i64 (((red m (wideQ n q b) (n + 1)).2.1 : Nat) : Int))), (47, .ex (.int .i64 (g : Int)))], [(0, .one (.var 28 (.agg (.cn (.sl 1 (mE q n) m) (.cn (.ex (.int .i64 (n : Int))) (.nl)))))), (2, .one (.var 28 (.agg (.cn (.sl 1 (mE ((red m (wideQ n q b) (n + 1)).1) (n + 1)) m) (.cn (.ex (.int .i64 ((n + 1 : Nat) : Int))) (.nl)))))), (3, .one (.row 36 3 (fun i0 => .rat (solP (red m (wideQ n q b) (n + 1)) n g i0)) n))], 4⟩) [(0, .id 0), (2, .id 2), (3, .id 3)] (fun _ => [(0, .id 0), (2, .id 2), (3, .id 3)]) (fun g => [.reg 11 [(1, .k g)], .reg 12 [(5, .callS (.ex (.int .i64 (n : Int))) []), (6, .callS (.rat (((red m (wideQ n q b) (n + 1)).1) g n)) []), (7, .k ((red m (wideQ n q b) (n + 1)).2.2 g)), (8, .row 0 (fun i0 => .rat (solP (red m (wideQ n q b) (n + 1)) n (g + 1) i0)))], .reg 13 [(0, .z ((g + 1 : Nat) : Int))], .reg 14 [(2, .callS (.ex (.int .i64 (n : Int))) [])]])]) Try.func20 (let y1 := (decide ((0 : Int) < (((red m (wideQ n q b) (n + 1)).2.1 : Nat) : Int))); let y0 := (y1 == true); let y2 := (decide ((((red m (wideQ n q b) (n + 1)).2.1 : Nat) : Int) < (n : Int))); (∀ j0, j0 < m → (∀ j1, j1 < n → True)) ∧ (∀ j0, j0 < m → True) ∧ _ ∧ ((!true) = false) ∧ _ ∧ (y0 = true → y0 = true) ∧ (y0 = true → IntKind.wrap .i64 ((((red m (wideQ n q b) (n + 1)).2.1 : Nat) : Int) - 1) = ((((red m (wideQ n q b) (n + 1)).2.1 - 1 : Nat) : Int))) ∧ (y0 = true → y0 = true) ∧ (y0 = true → y0 = true) ∧ (y0 = true → _) ∧ (y0 = true → ((red m (wideQ n q b) (n + 1)).2.1 - 1) < ((red m (wideQ n q b) (n + 1)).2.1)) ∧ (y0 = true → y0 = true) ∧ (y0 = true → y0 = true) ∧ (y0 = true → _) ∧ (y0 = true → y0 = true) ∧ (y0 = true → y0 = true) ∧ (y1 = true → y0 = true) ∧ ((bif y1 then (decide ((((red m (wideQ n q b) (n + 1)).2.2 ((red m (wideQ n q b) (n + 1)).2.1 - 1) : Nat) : Int) = (n : Int))) else false) = false) ∧ _ ∧ _ ∧ _ ∧ (n ≤ 68719476736) ∧ (∀ j0, j0 < n → ((0 : Rat) = 0)) ∧ (((fun X1 X2 X3 X4 X5 X6 X7 X8 X9 X10 X11 X12 X13 X14 X15 X16 : Prop => ∃ g0 : Nat, X1 ∧ X2 ∧ X3 ∧ X4 ∧ X5 ∧ X6 ∧ X7 ∧ X8 ∧ X9 ∧ ((0 : Int) = (g0 : Int)) ∧ X10 ∧ X11 ∧ X12 ∧ X13 ∧ X14 ∧ X15 ∧ X16 ∧ (∀ j0, j0 < n → ((0 : Rat) = (solP (red m (wideQ n q b) (n + 1)) n g0 j0))) ∧ (g0 ≤ (red m (wideQ n q b) (n + 1)).2.1)) _ _ _ _ _ _ _ _ _ _ _ _ _ _ _ _) ∧ ∀ g : Nat, (g ≤ (red m (wideQ n q b) (n + 1)).2.1) → (((decide ((g : Int) < (((red m (wideQ n q b) (n + 1)).2.1 : Nat) : Int))) = true → _ ∧ (g < ((red m (wideQ n q b) (n + 1)).2.1)) ∧ _ ∧ _ ∧ _ ∧ (((red m (wideQ n q b) (n + 1)).2.2 g) < n) ∧ (((red m (wideQ n q b) (n + 1)).2.2 g) < n) ∧ (((((red m (wideQ n q b) (n + 1)).1) g n : Rat) = (solP (red m (wideQ n q b) (n + 1)) n (g + 1) ((red m (wideQ n q b) (n + 1)).2.2 g)))) ∧ (∀ t, t < n → t ≠ ((red m (wideQ n q b) (n + 1)).2.2 g) → (.rat (solP (red m (wideQ n q b) (n + 1)) n (g + 1) t) : SV) = .rat (solP (red m (wideQ n q b) (n + 1)) n g t)) ∧ _ ∧ ((fun X1 X2 X3 X4 X5 X6 X7 X8 X9 X10 X11 X12 X13 X14 X15 X16 : Prop => ∃ g1 : Nat, X1 ∧ X2 ∧ X3 ∧ X4 ∧ X5 ∧ X6 ∧ X7 ∧ X8 ∧ X9 ∧ (((g + 1 : Nat) : Int) = (g1 : Int)) ∧ X10 ∧ X11 ∧ X12 ∧ X13 ∧ X14 ∧ X15 ∧ X16 ∧ (∀ j0, j0 < n → ((solP (red m (wideQ n q b) (n + 1)) n (g + 1) j0 : Rat) = (solP (red m (wideQ n q b) (n + 1)) n g1 j0))) ∧ (g1 ≤ (red m (wideQ n q b) (n + 1)).2.1) ∧ ((red m (wideQ n q b) (n + 1)).2.1 - g1 < (red m (wideQ n q b) (n + 1)).2.1 - g)) _ _ _ _ _ _ _ _ _ _ _ _ _ _ _ _)) ∧ ((decide ((g : Int) < (((red m (wideQ n q b) (n + 1)).2.1 : Nat) : Int))) = false → _ ∧ ((y2 = true → (_ ∧ (∀ j0, j0 < n → ((solP (red m (wideQ n q b) (n + 1)) n g j0 : Rat) = (solQ (red m (wideQ n q b) (n + 1)) n j0))) ∧ ((3 : Int) = (if (red m (wideQ n q b) (n + 1)).2.1 < n then 3 else 2)) ∧ _)) ∧ (y2 = false → (_ ∧ (∀ j0, j0 < n → ((solP (red m (wideQ n q b) (n + 1)) n g j0 : Rat) = (solQ (red m (wideQ n q b) (n + 1)) n j0))) ∧ ((2 : Int) = (if (red m (wideQ n q b) (n + 1)).2.1 < n then 3 else 2)) ∧ _)))))))
  ⟨(fun _ _ => (fun _ _ => trivial)), (fun _ _ => trivial), (sMatWithCol (m := m) (n := n) (q := q) (v := b) zo zo), (by simp), sReduced (m := m) (n := n + 1) (q := (wideQ n q b)) zo zo (by assumption), id, (fun hg => (by have hg2 := of_guard hg; rw [IntKind.wrap_i64]; omega)), id, id, (fun hg => (rf (((red m (wideQ n q b) (n + 1)).2.1 - 1 : Nat) : Int))), (fun hg => (by have hg2 := of_guard hg; omega)), id, id, (fun hg => sMatCols (m := m) (n := n) (q := q)), id, id, (by simp), (sol_test hl), sMatCols (m := m) (n := n) (q := q), (rf (n : Int)), (rf (n : Int)), zo, (fun j0 hj0 => rfl), ⟨0, (rf 0), (rf 0), (rf ((red m (wideQ n q b) (n + 1)).2.1 : Nat)), (leS (fun i0 => .ex (.int .i64 (((red m (wideQ n q b) (n + 1)).2.2 i0 : Nat) : Int))) ((red m (wideQ n q b) (n + 1)).2.1)), (rf (((red m (wideQ n q b) (n + 1)).2.1 : Nat) : Int)), (rf 0), (rf ((red m (wideQ n q b) (n + 1)).2.1 : Nat)), (leS (fun i0 => .ex (.int .i64 (((red m (wideQ n q b) (n + 1)).2.2 i0 : Nat) : Int))) ((red m (wideQ n q b) (n + 1)).2.1)), (rf (((red m (wideQ n q b) (n + 1)).2.1 : Nat) : Int)), zo, (rf m), (leS (mE q n) m), (rf (n : Int)), (rf m), (leS (mE ((red m (wideQ n q b) (n + 1)).1) (n + 1)) m), (rf ((n + 1 : Nat) : Int)), (rf n), (fun j0 hj0 => solP_zero), zo⟩, fun g hg => ⟨fun hc48 => have hc48 := dT hc48; have hl2 := hl g zo; ⟨(rf (g : Int)), zo, sMatCols (m := m) (n := n) (q := q), sMatAt (m := m) (n := n + 1) (r := g) (c := n) (q := (fun r c => ((red m (wideQ n q b) (n + 1)).1) r c)) zo zo, (rf (((red m (wideQ n q b) (n + 1)).2.2 g : Nat) : Int)), zo, zo, (solP_at H zo), (fun t ht hne => by rw [solP_ne hne]), (wI (g := g) zo), g + 1, (rf 0), (rf 0), (rf ((red m (wideQ n q b) (n + 1)).2.1 : Nat)), (leS (fun i0 => .ex (.int .i64 (((red m (wideQ n q b) (n + 1)).2.2 i0 : Nat) : Int))) ((red m (wideQ n q b) (n + 1)).2.1)), (rf (((red m (wideQ n q b) (n + 1)).2.1 : Nat) : Int)), (rf 0), (rf ((red m (wideQ n q b) (n + 1)).2.1 : Nat)), (leS (fun i0 => .ex (.int .i64 (((red m (wideQ n q b) (n + 1)).2.2 i0 : Nat) : Int))) ((red m (wideQ n q b) (n + 1)).2.1)), (rf (((red m (wideQ n q b) (n + 1)).2.1 : Nat) : Int)), zo, (rf m), (leS (mE q n) m), (rf (n : Int)), (rf m), (leS (mE ((red m (wideQ n q b) (n + 1)).1) (n + 1)) m), (rf ((n + 1 : Nat) : Int)), (rf n), (fun j0 hj0 => rfl), zo, zo⟩, fun hc48 => have hc48 := dF hc48; have hi2 : g = (red m (wideQ n q b) (n + 1)).2.1 := zo; ⟨sMatCols (m := m) (n := n) (q := q), fun hc64 => have hc64 := dT hc64; ⟨(rf n), (fun j0 hj0 => (by rw [hi2]; rfl)), (if_pos zo).symm, (rf (true : Bool))⟩, fun hc64 => have hc64 := dF hc64; ⟨(rf n), (fun j0 hj0 => (by rw [hi2]; rfl)), (if_neg zo).symm, (rf (true : Bool))⟩⟩⟩⟩
open Go.RowKit
theorem HtB.mono {m n B C : Nat} {A : Nat → Nat → Rat} (h : HtB m n B A) (hBC : B ≤ C) : HtB m n C A := fun i hi j hj => Nat.le_trans (h i hi j hj) hBC
open Go.RowKit
theorem wide_ht {m n s : Nat} {q : Nat → Nat → Rat} {b : Nat → Rat} (hq : ∀ i, i < m → ∀ j, htq (q i j) ≤ 2) (hb : ∀ i, i < m → htq (b i) ≤ s) (hs : 2 ≤ s) (hm : m ≤ 6) (t : Nat) (ht : (s + 1) * 4 ^ 6 ≤ t) : ∀ c, c ≤ n + 1 → HtB m (n + 1) t (red m (wideQ n q b) c).1 :=
 red_htT (fun i hi j _ => by
  unfold wideQ
  split
  ·have := hq i hi j; omega
  ·have := hb i hi; omega) (.inl hm) t ht
def fillQ (k : Nat) (p d : Nat → Int) (i : Nat) : Rat := if i < k then oneQ (p i) (d i) else ((i : Int) : Rat)
theorem fillQ_lt {k i : Nat} {p d : Nat → Int} (h : i < k) : oneQ (p i) (d i) = fillQ k p d i := (if_pos h).symm
theorem fillQ_ge {k i : Nat} {p d : Nat → Int} (h : k ≤ i) : ((i : Int) : Rat) = fillQ k p d i := (if_neg zo).symm
theorem fillQ_sz {k i : Nat} {p d : Nat → Int} (hp : ∀ i, i < k → Wd64 (p i) ∧ Wd64 (d i)) (hi : i < 9223372036854775808) : szq (fillQ k p d i) ≤ 2 := by
 unfold fillQ
 split
 ·exact szq_one (hp i (by assumption)).1 (hp i (by assumption)).2
 ·have := szq_one (p := (i : Int)) (d := 0) ⟨by omega, by omega⟩ (by decide)
  unfold oneQ at this
  rwa [if_pos rfl] at this
open Go.RowKit
theorem ret_ib {a b : Int} {z : Bool} (h : a = b) : Ending.returned (.tuple #[.int .i64 a, .bool z]) = Ending.returned (.tuple #[.int .i64 b, .bool z]) := by rw [h]
def detV (n b : Nat) : Nat := n * b + (n * Wd.blen n + 1) / 2 + 1
theorem blen_sm64 (n : Nat) (h : n ≤ 64) : Wd.blen n ≤ 7 := (Wd.blen_le n 7).2 zo
theorem det_small (n b : Nat) (hn : n ≤ 64) (hb : b ≤ 1073741824) : n * b ≤ 68719476736 ∧ n * Wd.blen n ≤ 448 :=
 ⟨Nat.mul_le_mul hn hb, Nat.mul_le_mul hn (blen_sm64 n hn)⟩
set_option maxHeartbeats 400000 in
theorem bDet_yes (n b : Nat) (hn : n ≤ 64) (hb : b ≤ 1073741824) (w : World) :
  Calls Try.prog 9 #[.int .i64 n, .int .i64 b] w fun e w' => e = .returned (.tuple #[.int .i64 (detV n b), .bool true]) ∧ Drawn w w' := by
 have hs := det_small n b hn hb
 have e1 : IntKind.u64.wrap (n : Int) = n := wrap_in _ ⟨by omega, by omega⟩
 have hs1 : (n : Int) * b ≤ 68719476736 := by have := hs.1; rw [← Int.natCast_mul]; omega
 have hs2 : (n : Int) * (Wd.blen n : Nat) ≤ 448 := by have := hs.2; rw [← Int.natCast_mul]; omega
 have hs3 : 0 ≤ (n : Int) * b := Int.mul_nonneg zo zo
 have hs4 : 0 ≤ (n : Int) * (Wd.blen n : Nat) := Int.mul_nonneg zo zo
 clear hs
 go_enter Try.func9, Try.ntmps9
 go_wp2_with fail
 refine (wLen n zo _).mono ?_
 rintro e w' ⟨rfl, m, rfl⟩
 go_wp2_with fail
 go_ret2
 exact ⟨ret_ib (by unfold detV; simp), _, rfl⟩
def solV (n b : Nat) : Nat := 2 * detV n ((n + 1) * b)
theorem detV_le (n b : Nat) (hn : n ≤ 64) (hb : b ≤ 1073741824) : detV n b ≤ 100000000000 := by
 have := det_small n b hn hb
 unfold detV; omega
set_option maxHeartbeats 400000 in
theorem bSolution_yes (n b : Nat) (hn : n ≤ 64) (hb : b ≤ 1048576) (w : World) :
  Calls Try.prog 21 #[.int .i64 n, .int .i64 b] w fun e w' => e = .returned (.tuple #[.int .i64 (solV n b), .bool true]) ∧ Drawn w w' := by
 have l1 : (n + 1) * b ≤ 65 * 1048576 := Nat.mul_le_mul zo hb
 have e1 : ((n : Int) + 1) * b = (((n + 1) * b : Nat) : Int) := by simp
 have ld := detV_le n ((n + 1) * b) hn zo
 have hl1 : (((n + 1) * b : Nat) : Int) ≤ 68157440 := by omega
 have hl0 : 0 ≤ (((n + 1) * b : Nat) : Int) := by omega
 have hv : (solV n b : Int) = 2 * (detV n ((n + 1) * b) : Nat) := by unfold solV; simp
 generalize hz : (n + 1) * b = z at *
 have HV := Lib.hid hv
 clear hv l1 hz
 go_enter Try.func21, Try.ntmps21
 go_wp2_with fail
 refine (bDet_yes n z hn zo _).mono ?_
 rintro e w' ⟨rfl, m, rfl⟩
 go_wp2_with fail
 go_ret2
 exact ⟨ret_ib HV.out.symm, _, rfl⟩
end Go.Proofs.Ytgighdoacajmfaa
namespace Go.Proofs.Ytgighdoacajmfaa.Ch
def choose : Nat → Nat → Nat
 | _, 0 => 1
 | 0, _ + 1 => 0
 | n + 1, k + 1 => choose n k + choose n (k + 1)
theorem c0 (n : Nat) : choose n 0 = 1 := by cases n <;> rfl
theorem cs (n k : Nat) : choose (n + 1) (k + 1) = choose n k + choose n (k + 1) := rfl
theorem big (n : Nat) : ∀ k, n < k → choose n k = 0 := by
  induction n with
  | zero => intro k h; cases k with
    | zero => omega
    | succ k => rfl
  | succ n ih => intro k h; cases k with
    | zero => omega
    | succ k => rw [cs, ih k zo, ih (k + 1) zo]
theorem self (n : Nat) : choose n n = 1 := by
 induction n with
 | zero => rfl
 | succ n ih => rw [cs, ih, big n (n + 1) zo]
theorem absorb (n : Nat) : ∀ k, (k + 1) * choose (n + 1) (k + 1) = (n + 1) * choose n k := by
  induction n with
  | zero => intro k; cases k with
    | zero => rfl
    | succ k => rw [big 1 (k + 1 + 1) zo, big 0 (k + 1) zo]; omega
  | succ n ih =>
    intro k
    cases k with
    | zero =>
      rw [c0, cs, c0]
      have := ih 0
      rw [c0] at this
      omega
    | succ k =>
      have h1 := ih k
      have h2 := ih (k + 1)
      rw [cs (n + 1) (k + 1), Nat.mul_add, h2]
      have h3 : (k + 1 + 1) * choose (n + 1) (k + 1) = (k + 1) * choose (n + 1) (k + 1) + choose (n + 1) (k + 1) := by rw [Nat.add_mul (k + 1), Nat.one_mul]
      rw [h3, h1]
      have h4 : (n + 1) * choose n k + (n + 1) * choose n (k + 1) = (n + 1) * choose (n + 1) (k + 1) := by rw [← Nat.mul_add, cs]
      have h5 : (n + 1 + 1) * choose (n + 1) (k + 1) = (n + 1) * choose (n + 1) (k + 1) + choose (n + 1) (k + 1) := by rw [Nat.add_mul (n + 1), Nat.one_mul]
      omega
theorem sym (n : Nat) : ∀ k, k ≤ n → choose n k = choose n (n - k) := by
  induction n with
  | zero => intro k h; obtain rfl : k = 0 := by omega
            rfl
  | succ n ih =>
    intro k h
    cases k with
    | zero => rw [c0, Nat.sub_zero, self]
    | succ k =>
      by_cases hk : k = n
      · subst hk; rw [Nat.sub_self, c0, self]
      · rw [show n + 1 - (k + 1) = (n - (k + 1)) + 1 by omega, cs, cs, ih k zo, ih (k + 1) zo, show n - (k + 1) + 1 = n - k by omega, Nat.add_comm]
def ways (d k : Nat) : Nat := choose (d + k) k
theorem ways_zero (d : Nat) : ways d 0 = 1 := c0 _
theorem ways_succ (d k : Nat) : ways d k * (d + (k + 1)) = ways d (k + 1) * (k + 1) := by
 unfold ways
 have := absorb (d + k) k
 rw [show d + k + 1 = d + (k + 1) by omega] at this
 rw [Nat.mul_comm (choose (d + k) k), Nat.mul_comm _ (k + 1)]
 exact this.symm
theorem ways_div (d k : Nat) : ways d k * (d + (k + 1)) / (k + 1) = ways d (k + 1) := by
 rw [ways_succ]; exact Nat.mul_div_cancel _ zo
theorem ways_mono (d k : Nat) : ways d k ≤ ways d (k + 1) := by
 unfold ways
 rw [show d + (k + 1) = d + k + 1 by omega, cs]; omega
theorem ways_le (d k : Nat) : ∀ j, ways d k ≤ ways d (k + j) := by
 intro j
 induction j with
 | zero => exact Nat.le_refl _
 | succ j ih => exact Nat.le_trans ih (ways_mono d (k + j))
def basesV (n m most : Nat) : Nat := if choose n m ≤ most then choose n m else most + 1
def basesB (n m most : Nat) : Bool := decide (choose n m ≤ most)
theorem ways_of (n m : Nat) (h : m ≤ n) : ways (n - min m (n - m)) (min m (n - m)) = choose n m := by
 unfold ways
 by_cases h2 : m ≤ n - m
 ·rw [Nat.min_eq_left h2, show n - m + m = n by omega]
 ·rw [Nat.min_eq_right zo, show n - (n - m) + (n - m) = n by omega]
  exact (sym n m h).symm
end Go.Proofs.Ytgighdoacajmfaa.Ch
namespace Go.Proofs.Ytgighdoacajmfaa
open Go.RowKit
def clampM (most : Int) : Nat := (max 0 (min most 1099511627776)).toNat
theorem ways_low (d j mm C : Nat) (hC : Ch.ways d mm = C) (hj : j ≤ mm) : Ch.ways d j ≤ C := by
 have := Ch.ways_le d j (mm - j)
 rw [show j + (mm - j) = mm by omega, hC] at this; exact this
theorem bases_over (n m M d j mm : Nat) (hC : Ch.ways d mm = Ch.choose n m) (hj : j + 1 ≤ mm) (h : M < Ch.ways d (j + 1)) : Ch.basesV n m M = M + 1 ∧ Ch.basesB n m M = false := by
 have h1 := ways_low d (j + 1) mm _ hC hj
 unfold Ch.basesV Ch.basesB
 rw [if_neg zo]
 exact ⟨rfl, decide_eq_false zo⟩
theorem bases_end (n m M d mm : Nat) (hC : Ch.ways d mm = Ch.choose n m) (h : mm = 0 ∨ Ch.ways d mm ≤ M) : Ch.basesV n m M = Ch.ways d mm ∧ Ch.basesB n m M = decide ((Ch.ways d mm : Int) ≤ M) := by
 unfold Ch.basesV Ch.basesB
 rw [← hC]
 constructor
 ·by_cases hh : Ch.ways d mm ≤ M
  ·rw [if_pos hh]
  ·rw [if_neg hh]
   rcases h with h | h
   ·subst h; rw [Ch.ways_zero] at *; omega
   ·exact absurd h hh
 ·rw [decide_eq_decide]; omega
theorem ret_ibb {a b : Int} {x y : Bool} (h : a = b) (h' : x = y) : Ending.returned (.tuple #[.int .i64 a, .bool x]) = Ending.returned (.tuple #[.int .i64 b, .bool y]) := by rw [h, h']
theorem mul_small {x y hi lo : Int} (h : MulRel x y 0 0 hi lo) (hb : x * y < 18446744073709551616) : hi = 0 ∧ lo = x * y := by
 obtain ⟨⟨h1, h2⟩, ⟨h3, h4⟩, h5⟩ := h
 generalize x * y = z at *
 omega
theorem divQ_ways (d j : Nat) : divQ 0 (Ch.ways d j * (d + (j + 1))) (j + 1) = Ch.ways d (j + 1) := by
 unfold divQ; rw [Nat.zero_mul, Nat.zero_add, Ch.ways_div]
set_option maxHeartbeats 1000000 in
theorem bBases_alo (m j0 : Nat) (M : Nat) (hmj : m ≤ j0) (hn : m + j0 ≤ 200) (hM : 0 < M ∧ M ≤ 1099511627776) (w : World) :
  Calls Try.prog 31 #[.int .i64 (m + j0 : Nat), .int .i64 m, .int .i64 M] w fun e w' => e = .returned (.tuple #[.int .i64 (Ch.basesV (m + j0) m M), .bool (Ch.basesB (m + j0) m M)]) ∧ Drawn w w' := by
 have hC : Ch.ways j0 m = Ch.choose (m + j0) m := by
  have := Ch.ways_of (m + j0) m zo
  rw [show min m (m + j0 - m) = m by omega, show m + j0 - m = j0 by omega] at this
  exact this
 have HC := Lib.hid hC
 clear hC
 have hmj' : (m : Int) ≤ j0 := by omega
 have hm0 : (0 : Int) ≤ m := by omega
 have hnm : (m : Int) + j0 - m = j0 := by omega
 have hnj : (m : Int) + j0 - j0 = m := by omega
 go_enter Try.func31, Try.ntmps31
 go_wp2_with fail
 go_loopw [8, 9] (fun c i wr => ∃ j : Nat, c = .int .i64 (Ch.ways j0 j) ∧ i = .int .i64 ((j : Int) + 1) ∧ j ≤ m ∧ Hid (j = 0 ∨ Ch.ways j0 j ≤ M) ∧ Drawn w wr) (fun c i wr => (m + 1 - (intOf i).toNat))
 case atStart => exact ⟨0, by rw [Ch.ways_zero]; rfl, rfl, by omega, .inl rfl, Drawn.refl _⟩
 case round =>
  obtain ⟨j, rfl, rfl, hj, hw, ⟨nd, rfl⟩⟩ := hrel
  have hw1 : Ch.ways j0 j ≤ 1099511627776 := by
   rcases hw.out with h | h
   ·subst h; rw [Ch.ways_zero]; omega
   ·omega
  by_cases hlt : j < m
  ·have hpb : Ch.ways j0 j * (j0 + (j + 1)) ≤ 1099511627776 * 401 := Nat.mul_le_mul hw1 zo
   have hpe : (Ch.ways j0 j : Int) * ((j0 : Int) + ((j : Int) + 1)) = ((Ch.ways j0 j * (j0 + (j + 1)) : Nat) : Int) := by simp
   have hmul := wMul (Ch.ways j0 j : Int) ((j0 : Int) + ((j : Int) + 1)) ⟨by omega, by omega⟩ ⟨by omega, by omega⟩
   have hdiv := wDiv_yes 0 (Ch.ways j0 j * (j0 + (j + 1))) (j + 1) zo zo zo
   rw [divQ_ways, show ((0 : Nat) : Int) = 0 from rfl, show ((j + 1 : Nat) : Int) = (j : Int) + 1 by simp] at hdiv
   generalize hP : Ch.ways j0 j * (j0 + (j + 1)) = P at *
   have HP := Lib.hid hpe
   have HM := Lib.hid hmul
   have HD := Lib.hid hdiv
   clear hpe hmul hdiv hP
   by_cases hov : M < Ch.ways j0 (j + 1)
   ·have hov' : (M : Int) < (Ch.ways j0 (j + 1) : Nat) := by omega
    have HR := Lib.hid (bases_over _ _ M j0 j m HC.out zo hov)
    clear hov
    go_wp2_with fail
    refine (HM.out _).mono ?_
    rintro e w' ⟨hi, lo, rfl, hr, rfl⟩
    have hr1 := mul_small hr (by rw [HP.out]; omega)
    rw [HP.out] at hr1
    obtain ⟨rfl, rfl⟩ := hr1
    clear hr
    go_wp2_with fail
    refine (HD.out _).mono ?_
    rintro e w' ⟨rfl, nd2, rfl⟩
    go_wp2_with fail
    go_ret2
    exact ⟨ret_ibb (by rw [HR.out.1]; rfl) HR.out.2.symm, _, rfl⟩
   ·have hov' : (Ch.ways j0 (j + 1) : Nat) ≤ (M : Int) := by omega
    have HW : Hid (j + 1 = 0 ∨ Ch.ways j0 (j + 1) ≤ M) := .inr zo
    clear hov
    go_wp2_with fail
    refine (HM.out _).mono ?_
    rintro e w' ⟨hi, lo, rfl, hr, rfl⟩
    have hr1 := mul_small hr (by rw [HP.out]; omega)
    rw [HP.out] at hr1
    obtain ⟨rfl, rfl⟩ := hr1
    clear hr
    go_wp2_with fail
    refine (HD.out _).mono ?_
    rintro e w' ⟨rfl, nd2, rfl⟩
    go_wp2_with fail
    go_roundw
    case rel => exact ⟨j + 1, rfl, rfl, by omega, HW, _, rfl⟩
    case measure => simp [intOf]; omega
  ·obtain rfl : j = m := by omega
   have HR := Lib.hid (bases_end _ _ M j0 _ HC.out hw.out)
   go_wp2
   go_ret2
   exact ⟨ret_ibb (by rw [HR.out.1]) (by rw [HR.out.2]; first | rfl | simp), _, rfl⟩
set_option maxHeartbeats 1000000 in
theorem bBases_ahi (m j0 : Nat) (M : Nat) (hmj : j0 < m) (hn : m + j0 ≤ 200) (hM : 0 < M ∧ M ≤ 1099511627776) (w : World) :
  Calls Try.prog 31 #[.int .i64 (m + j0 : Nat), .int .i64 m, .int .i64 M] w fun e w' => e = .returned (.tuple #[.int .i64 (Ch.basesV (m + j0) m M), .bool (Ch.basesB (m + j0) m M)]) ∧ Drawn w w' := by
 have hC : Ch.ways m j0 = Ch.choose (m + j0) m := by
  have := Ch.ways_of (m + j0) m zo
  rw [show min m (m + j0 - m) = j0 by omega, show m + j0 - j0 = m by omega] at this
  exact this
 have HC := Lib.hid hC
 clear hC
 have hmj' : (j0 : Int) < m := by omega
 have hm0 : (0 : Int) ≤ m := by omega
 have hnm : (m : Int) + j0 - m = j0 := by omega
 have hnj : (m : Int) + j0 - j0 = m := by omega
 go_enter Try.func31, Try.ntmps31
 go_wp2_with fail
 go_loopw [8, 9] (fun c i wr => ∃ j : Nat, c = .int .i64 (Ch.ways m j) ∧ i = .int .i64 ((j : Int) + 1) ∧ j ≤ j0 ∧ Hid (j = 0 ∨ Ch.ways m j ≤ M) ∧ Drawn w wr) (fun c i wr => (j0 + 1 - (intOf i).toNat))
 case atStart => exact ⟨0, by rw [Ch.ways_zero]; rfl, rfl, by omega, .inl rfl, Drawn.refl _⟩
 case round =>
  obtain ⟨j, rfl, rfl, hj, hw, ⟨nd, rfl⟩⟩ := hrel
  have hw1 : Ch.ways m j ≤ 1099511627776 := by
   rcases hw.out with h | h
   ·subst h; rw [Ch.ways_zero]; omega
   ·omega
  by_cases hlt : j < j0
  ·have hpb : Ch.ways m j * (m + (j + 1)) ≤ 1099511627776 * 401 := Nat.mul_le_mul hw1 zo
   have hpe : (Ch.ways m j : Int) * ((m : Int) + ((j : Int) + 1)) = ((Ch.ways m j * (m + (j + 1)) : Nat) : Int) := by simp
   have hmul := wMul (Ch.ways m j : Int) ((m : Int) + ((j : Int) + 1)) ⟨by omega, by omega⟩ ⟨by omega, by omega⟩
   have hdiv := wDiv_yes 0 (Ch.ways m j * (m + (j + 1))) (j + 1) zo zo zo
   rw [divQ_ways, show ((0 : Nat) : Int) = 0 from rfl, show ((j + 1 : Nat) : Int) = (j : Int) + 1 by simp] at hdiv
   generalize hP : Ch.ways m j * (m + (j + 1)) = P at *
   have HP := Lib.hid hpe
   have HM := Lib.hid hmul
   have HD := Lib.hid hdiv
   clear hpe hmul hdiv hP
   by_cases hov : M < Ch.ways m (j + 1)
   ·have hov' : (M : Int) < (Ch.ways m (j + 1) : Nat) := by omega
    have HR := Lib.hid (bases_over _ _ M m j j0 HC.out zo hov)
    clear hov
    go_wp2_with fail
    refine (HM.out _).mono ?_
    rintro e w' ⟨hi, lo, rfl, hr, rfl⟩
    have hr1 := mul_small hr (by rw [HP.out]; omega)
    rw [HP.out] at hr1
    obtain ⟨rfl, rfl⟩ := hr1
    clear hr
    go_wp2_with fail
    refine (HD.out _).mono ?_
    rintro e w' ⟨rfl, nd2, rfl⟩
    go_wp2_with fail
    go_ret2
    exact ⟨ret_ibb (by rw [HR.out.1]; rfl) HR.out.2.symm, _, rfl⟩
   ·have hov' : (Ch.ways m (j + 1) : Nat) ≤ (M : Int) := by omega
    have HW : Hid (j + 1 = 0 ∨ Ch.ways m (j + 1) ≤ M) := .inr zo
    clear hov
    go_wp2_with fail
    refine (HM.out _).mono ?_
    rintro e w' ⟨hi, lo, rfl, hr, rfl⟩
    have hr1 := mul_small hr (by rw [HP.out]; omega)
    rw [HP.out] at hr1
    obtain ⟨rfl, rfl⟩ := hr1
    clear hr
    go_wp2_with fail
    refine (HD.out _).mono ?_
    rintro e w' ⟨rfl, nd2, rfl⟩
    go_wp2_with fail
    go_roundw
    case rel => exact ⟨j + 1, rfl, rfl, by omega, HW, _, rfl⟩
    case measure => simp [intOf]; omega
  ·obtain rfl : j = j0 := by omega
   have HR := Lib.hid (bases_end _ _ M m _ HC.out hw.out)
   go_wp2
   go_ret2
   exact ⟨ret_ibb (by rw [HR.out.1]) (by rw [HR.out.2]; first | rfl | simp), _, rfl⟩
set_option maxHeartbeats 1000000 in
theorem bBases_blo (m j0 : Nat) (most : Int) (hmj : m ≤ j0) (hn : m + j0 ≤ 200) (hM : most ≤ 0) (w : World) :
  Calls Try.prog 31 #[.int .i64 (m + j0 : Nat), .int .i64 m, .int .i64 most] w fun e w' => e = .returned (.tuple #[.int .i64 (Ch.basesV (m + j0) m 0), .bool (Ch.basesB (m + j0) m 0)]) ∧ Drawn w w' := by
 have hC : Ch.ways j0 m = Ch.choose (m + j0) m := by
  have := Ch.ways_of (m + j0) m zo
  rw [show min m (m + j0 - m) = m by omega, show m + j0 - m = j0 by omega] at this
  exact this
 have HC := Lib.hid hC
 clear hC
 have hmj' : (m : Int) ≤ j0 := by omega
 have hm0 : (0 : Int) ≤ m := by omega
 have hnm : (m : Int) + j0 - m = j0 := by omega
 have hnj : (m : Int) + j0 - j0 = m := by omega
 go_enter Try.func31, Try.ntmps31
 go_wp2_with fail
 go_loopw [8, 9] (fun c i wr => ∃ j : Nat, c = .int .i64 (Ch.ways j0 j) ∧ i = .int .i64 ((j : Int) + 1) ∧ j ≤ m ∧ Hid (j = 0 ∨ Ch.ways j0 j ≤ 0) ∧ Drawn w wr) (fun c i wr => (m + 1 - (intOf i).toNat))
 case atStart => exact ⟨0, by rw [Ch.ways_zero]; rfl, rfl, by omega, .inl rfl, Drawn.refl _⟩
 case round =>
  obtain ⟨j, rfl, rfl, hj, hw, ⟨nd, rfl⟩⟩ := hrel
  have hw1 : Ch.ways j0 j ≤ 1099511627776 := by
   rcases hw.out with h | h
   ·subst h; rw [Ch.ways_zero]; omega
   ·omega
  by_cases hlt : j < m
  ·have hpb : Ch.ways j0 j * (j0 + (j + 1)) ≤ 1099511627776 * 401 := Nat.mul_le_mul hw1 zo
   have hpe : (Ch.ways j0 j : Int) * ((j0 : Int) + ((j : Int) + 1)) = ((Ch.ways j0 j * (j0 + (j + 1)) : Nat) : Int) := by simp
   have hmul := wMul (Ch.ways j0 j : Int) ((j0 : Int) + ((j : Int) + 1)) ⟨by omega, by omega⟩ ⟨by omega, by omega⟩
   have hdiv := wDiv_yes 0 (Ch.ways j0 j * (j0 + (j + 1))) (j + 1) zo zo zo
   rw [divQ_ways, show ((0 : Nat) : Int) = 0 from rfl, show ((j + 1 : Nat) : Int) = (j : Int) + 1 by simp] at hdiv
   generalize hP : Ch.ways j0 j * (j0 + (j + 1)) = P at *
   have HP := Lib.hid hpe
   have HM := Lib.hid hmul
   have HD := Lib.hid hdiv
   clear hpe hmul hdiv hP
   by_cases hov : 0 < Ch.ways j0 (j + 1)
   ·have hov' : (0 : Int) < (Ch.ways j0 (j + 1) : Nat) := by omega
    have HR := Lib.hid (bases_over _ _ 0 j0 j m HC.out zo hov)
    clear hov
    go_wp2_with fail
    refine (HM.out _).mono ?_
    rintro e w' ⟨hi, lo, rfl, hr, rfl⟩
    have hr1 := mul_small hr (by rw [HP.out]; omega)
    rw [HP.out] at hr1
    obtain ⟨rfl, rfl⟩ := hr1
    clear hr
    go_wp2_with fail
    refine (HD.out _).mono ?_
    rintro e w' ⟨rfl, nd2, rfl⟩
    go_wp2_with fail
    go_ret2
    exact ⟨ret_ibb (by rw [HR.out.1]; rfl) HR.out.2.symm, _, rfl⟩
   ·have hov' : (Ch.ways j0 (j + 1) : Nat) ≤ (0 : Int) := by omega
    have HW : Hid (j + 1 = 0 ∨ Ch.ways j0 (j + 1) ≤ 0) := .inr zo
    clear hov
    go_wp2_with fail
    refine (HM.out _).mono ?_
    rintro e w' ⟨hi, lo, rfl, hr, rfl⟩
    have hr1 := mul_small hr (by rw [HP.out]; omega)
    rw [HP.out] at hr1
    obtain ⟨rfl, rfl⟩ := hr1
    clear hr
    go_wp2_with fail
    refine (HD.out _).mono ?_
    rintro e w' ⟨rfl, nd2, rfl⟩
    go_wp2_with fail
    go_roundw
    case rel => exact ⟨j + 1, rfl, rfl, by omega, HW, _, rfl⟩
    case measure => simp [intOf]; omega
  ·obtain rfl : j = m := by omega
   have HR := Lib.hid (bases_end _ _ 0 j0 _ HC.out hw.out)
   go_wp2
   go_ret2
   exact ⟨ret_ibb (by rw [HR.out.1]) (by rw [HR.out.2]; first | rfl | simp), _, rfl⟩
set_option maxHeartbeats 1000000 in
theorem bBases_bhi (m j0 : Nat) (most : Int) (hmj : j0 < m) (hn : m + j0 ≤ 200) (hM : most ≤ 0) (w : World) :
  Calls Try.prog 31 #[.int .i64 (m + j0 : Nat), .int .i64 m, .int .i64 most] w fun e w' => e = .returned (.tuple #[.int .i64 (Ch.basesV (m + j0) m 0), .bool (Ch.basesB (m + j0) m 0)]) ∧ Drawn w w' := by
 have hC : Ch.ways m j0 = Ch.choose (m + j0) m := by
  have := Ch.ways_of (m + j0) m zo
  rw [show min m (m + j0 - m) = j0 by omega, show m + j0 - j0 = m by omega] at this
  exact this
 have HC := Lib.hid hC
 clear hC
 have hmj' : (j0 : Int) < m := by omega
 have hm0 : (0 : Int) ≤ m := by omega
 have hnm : (m : Int) + j0 - m = j0 := by omega
 have hnj : (m : Int) + j0 - j0 = m := by omega
 go_enter Try.func31, Try.ntmps31
 go_wp2_with fail
 go_loopw [8, 9] (fun c i wr => ∃ j : Nat, c = .int .i64 (Ch.ways m j) ∧ i = .int .i64 ((j : Int) + 1) ∧ j ≤ j0 ∧ Hid (j = 0 ∨ Ch.ways m j ≤ 0) ∧ Drawn w wr) (fun c i wr => (j0 + 1 - (intOf i).toNat))
 case atStart => exact ⟨0, by rw [Ch.ways_zero]; rfl, rfl, by omega, .inl rfl, Drawn.refl _⟩
 case round =>
  obtain ⟨j, rfl, rfl, hj, hw, ⟨nd, rfl⟩⟩ := hrel
  have hw1 : Ch.ways m j ≤ 1099511627776 := by
   rcases hw.out with h | h
   ·subst h; rw [Ch.ways_zero]; omega
   ·omega
  by_cases hlt : j < j0
  ·have hpb : Ch.ways m j * (m + (j + 1)) ≤ 1099511627776 * 401 := Nat.mul_le_mul hw1 zo
   have hpe : (Ch.ways m j : Int) * ((m : Int) + ((j : Int) + 1)) = ((Ch.ways m j * (m + (j + 1)) : Nat) : Int) := by simp
   have hmul := wMul (Ch.ways m j : Int) ((m : Int) + ((j : Int) + 1)) ⟨by omega, by omega⟩ ⟨by omega, by omega⟩
   have hdiv := wDiv_yes 0 (Ch.ways m j * (m + (j + 1))) (j + 1) zo zo zo
   rw [divQ_ways, show ((0 : Nat) : Int) = 0 from rfl, show ((j + 1 : Nat) : Int) = (j : Int) + 1 by simp] at hdiv
   generalize hP : Ch.ways m j * (m + (j + 1)) = P at *
   have HP := Lib.hid hpe
   have HM := Lib.hid hmul
   have HD := Lib.hid hdiv
   clear hpe hmul hdiv hP
   by_cases hov : 0 < Ch.ways m (j + 1)
   ·have hov' : (0 : Int) < (Ch.ways m (j + 1) : Nat) := by omega
    have HR := Lib.hid (bases_over _ _ 0 m j j0 HC.out zo hov)
    clear hov
    go_wp2_with fail
    refine (HM.out _).mono ?_
    rintro e w' ⟨hi, lo, rfl, hr, rfl⟩
    have hr1 := mul_small hr (by rw [HP.out]; omega)
    rw [HP.out] at hr1
    obtain ⟨rfl, rfl⟩ := hr1
    clear hr
    go_wp2_with fail
    refine (HD.out _).mono ?_
    rintro e w' ⟨rfl, nd2, rfl⟩
    go_wp2_with fail
    go_ret2
    exact ⟨ret_ibb (by rw [HR.out.1]; rfl) HR.out.2.symm, _, rfl⟩
   ·have hov' : (Ch.ways m (j + 1) : Nat) ≤ (0 : Int) := by omega
    have HW : Hid (j + 1 = 0 ∨ Ch.ways m (j + 1) ≤ 0) := .inr zo
    clear hov
    go_wp2_with fail
    refine (HM.out _).mono ?_
    rintro e w' ⟨hi, lo, rfl, hr, rfl⟩
    have hr1 := mul_small hr (by rw [HP.out]; omega)
    rw [HP.out] at hr1
    obtain ⟨rfl, rfl⟩ := hr1
    clear hr
    go_wp2_with fail
    refine (HD.out _).mono ?_
    rintro e w' ⟨rfl, nd2, rfl⟩
    go_wp2_with fail
    go_roundw
    case rel => exact ⟨j + 1, rfl, rfl, by omega, HW, _, rfl⟩
    case measure => simp [intOf]; omega
  ·obtain rfl : j = j0 := by omega
   have HR := Lib.hid (bases_end _ _ 0 m _ HC.out hw.out)
   go_wp2
   go_ret2
   exact ⟨ret_ibb (by rw [HR.out.1]) (by rw [HR.out.2]; first | rfl | simp), _, rfl⟩
set_option maxHeartbeats 1000000 in
theorem bBases_clo (m j0 : Nat) (most : Int) (hmj : m ≤ j0) (hn : m + j0 ≤ 200) (hM : 1099511627776 < most) (w : World) :
  Calls Try.prog 31 #[.int .i64 (m + j0 : Nat), .int .i64 m, .int .i64 most] w fun e w' => e = .returned (.tuple #[.int .i64 (Ch.basesV (m + j0) m 1099511627776), .bool (Ch.basesB (m + j0) m 1099511627776)]) ∧ Drawn w w' := by
 have hC : Ch.ways j0 m = Ch.choose (m + j0) m := by
  have := Ch.ways_of (m + j0) m zo
  rw [show min m (m + j0 - m) = m by omega, show m + j0 - m = j0 by omega] at this
  exact this
 have HC := Lib.hid hC
 clear hC
 have hmj' : (m : Int) ≤ j0 := by omega
 have hm0 : (0 : Int) ≤ m := by omega
 have hnm : (m : Int) + j0 - m = j0 := by omega
 have hnj : (m : Int) + j0 - j0 = m := by omega
 go_enter Try.func31, Try.ntmps31
 go_wp2_with fail
 go_loopw [8, 9] (fun c i wr => ∃ j : Nat, c = .int .i64 (Ch.ways j0 j) ∧ i = .int .i64 ((j : Int) + 1) ∧ j ≤ m ∧ Hid (j = 0 ∨ Ch.ways j0 j ≤ 1099511627776) ∧ Drawn w wr) (fun c i wr => (m + 1 - (intOf i).toNat))
 case atStart => exact ⟨0, by rw [Ch.ways_zero]; rfl, rfl, by omega, .inl rfl, Drawn.refl _⟩
 case round =>
  obtain ⟨j, rfl, rfl, hj, hw, ⟨nd, rfl⟩⟩ := hrel
  have hw1 : Ch.ways j0 j ≤ 1099511627776 := by
   rcases hw.out with h | h
   ·subst h; rw [Ch.ways_zero]; omega
   ·omega
  by_cases hlt : j < m
  ·have hpb : Ch.ways j0 j * (j0 + (j + 1)) ≤ 1099511627776 * 401 := Nat.mul_le_mul hw1 zo
   have hpe : (Ch.ways j0 j : Int) * ((j0 : Int) + ((j : Int) + 1)) = ((Ch.ways j0 j * (j0 + (j + 1)) : Nat) : Int) := by simp
   have hmul := wMul (Ch.ways j0 j : Int) ((j0 : Int) + ((j : Int) + 1)) ⟨by omega, by omega⟩ ⟨by omega, by omega⟩
   have hdiv := wDiv_yes 0 (Ch.ways j0 j * (j0 + (j + 1))) (j + 1) zo zo zo
   rw [divQ_ways, show ((0 : Nat) : Int) = 0 from rfl, show ((j + 1 : Nat) : Int) = (j : Int) + 1 by simp] at hdiv
   generalize hP : Ch.ways j0 j * (j0 + (j + 1)) = P at *
   have HP := Lib.hid hpe
   have HM := Lib.hid hmul
   have HD := Lib.hid hdiv
   clear hpe hmul hdiv hP
   by_cases hov : 1099511627776 < Ch.ways j0 (j + 1)
   ·have hov' : (1099511627776 : Int) < (Ch.ways j0 (j + 1) : Nat) := by omega
    have HR := Lib.hid (bases_over _ _ 1099511627776 j0 j m HC.out zo hov)
    clear hov
    go_wp2_with fail
    refine (HM.out _).mono ?_
    rintro e w' ⟨hi, lo, rfl, hr, rfl⟩
    have hr1 := mul_small hr (by rw [HP.out]; omega)
    rw [HP.out] at hr1
    obtain ⟨rfl, rfl⟩ := hr1
    clear hr
    go_wp2_with fail
    refine (HD.out _).mono ?_
    rintro e w' ⟨rfl, nd2, rfl⟩
    go_wp2_with fail
    go_ret2
    exact ⟨ret_ibb (by rw [HR.out.1]; rfl) HR.out.2.symm, _, rfl⟩
   ·have hov' : (Ch.ways j0 (j + 1) : Nat) ≤ (1099511627776 : Int) := by omega
    have HW : Hid (j + 1 = 0 ∨ Ch.ways j0 (j + 1) ≤ 1099511627776) := .inr zo
    clear hov
    go_wp2_with fail
    refine (HM.out _).mono ?_
    rintro e w' ⟨hi, lo, rfl, hr, rfl⟩
    have hr1 := mul_small hr (by rw [HP.out]; omega)
    rw [HP.out] at hr1
    obtain ⟨rfl, rfl⟩ := hr1
    clear hr
    go_wp2_with fail
    refine (HD.out _).mono ?_
    rintro e w' ⟨rfl, nd2, rfl⟩
    go_wp2_with fail
    go_roundw
    case rel => exact ⟨j + 1, rfl, rfl, by omega, HW, _, rfl⟩
    case measure => simp [intOf]; omega
  ·obtain rfl : j = m := by omega
   have HR := Lib.hid (bases_end _ _ 1099511627776 j0 _ HC.out hw.out)
   go_wp2
   go_ret2
   exact ⟨ret_ibb (by rw [HR.out.1]) (by rw [HR.out.2]; first | rfl | simp), _, rfl⟩
set_option maxHeartbeats 1000000 in
theorem bBases_chi (m j0 : Nat) (most : Int) (hmj : j0 < m) (hn : m + j0 ≤ 200) (hM : 1099511627776 < most) (w : World) :
  Calls Try.prog 31 #[.int .i64 (m + j0 : Nat), .int .i64 m, .int .i64 most] w fun e w' => e = .returned (.tuple #[.int .i64 (Ch.basesV (m + j0) m 1099511627776), .bool (Ch.basesB (m + j0) m 1099511627776)]) ∧ Drawn w w' := by
 have hC : Ch.ways m j0 = Ch.choose (m + j0) m := by
  have := Ch.ways_of (m + j0) m zo
  rw [show min m (m + j0 - m) = j0 by omega, show m + j0 - j0 = m by omega] at this
  exact this
 have HC := Lib.hid hC
 clear hC
 have hmj' : (j0 : Int) < m := by omega
 have hm0 : (0 : Int) ≤ m := by omega
 have hnm : (m : Int) + j0 - m = j0 := by omega
 have hnj : (m : Int) + j0 - j0 = m := by omega
 go_enter Try.func31, Try.ntmps31
 go_wp2_with fail
 go_loopw [8, 9] (fun c i wr => ∃ j : Nat, c = .int .i64 (Ch.ways m j) ∧ i = .int .i64 ((j : Int) + 1) ∧ j ≤ j0 ∧ Hid (j = 0 ∨ Ch.ways m j ≤ 1099511627776) ∧ Drawn w wr) (fun c i wr => (j0 + 1 - (intOf i).toNat))
 case atStart => exact ⟨0, by rw [Ch.ways_zero]; rfl, rfl, by omega, .inl rfl, Drawn.refl _⟩
 case round =>
  obtain ⟨j, rfl, rfl, hj, hw, ⟨nd, rfl⟩⟩ := hrel
  have hw1 : Ch.ways m j ≤ 1099511627776 := by
   rcases hw.out with h | h
   ·subst h; rw [Ch.ways_zero]; omega
   ·omega
  by_cases hlt : j < j0
  ·have hpb : Ch.ways m j * (m + (j + 1)) ≤ 1099511627776 * 401 := Nat.mul_le_mul hw1 zo
   have hpe : (Ch.ways m j : Int) * ((m : Int) + ((j : Int) + 1)) = ((Ch.ways m j * (m + (j + 1)) : Nat) : Int) := by simp
   have hmul := wMul (Ch.ways m j : Int) ((m : Int) + ((j : Int) + 1)) ⟨by omega, by omega⟩ ⟨by omega, by omega⟩
   have hdiv := wDiv_yes 0 (Ch.ways m j * (m + (j + 1))) (j + 1) zo zo zo
   rw [divQ_ways, show ((0 : Nat) : Int) = 0 from rfl, show ((j + 1 : Nat) : Int) = (j : Int) + 1 by simp] at hdiv
   generalize hP : Ch.ways m j * (m + (j + 1)) = P at *
   have HP := Lib.hid hpe
   have HM := Lib.hid hmul
   have HD := Lib.hid hdiv
   clear hpe hmul hdiv hP
   by_cases hov : 1099511627776 < Ch.ways m (j + 1)
   ·have hov' : (1099511627776 : Int) < (Ch.ways m (j + 1) : Nat) := by omega
    have HR := Lib.hid (bases_over _ _ 1099511627776 m j j0 HC.out zo hov)
    clear hov
    go_wp2_with fail
    refine (HM.out _).mono ?_
    rintro e w' ⟨hi, lo, rfl, hr, rfl⟩
    have hr1 := mul_small hr (by rw [HP.out]; omega)
    rw [HP.out] at hr1
    obtain ⟨rfl, rfl⟩ := hr1
    clear hr
    go_wp2_with fail
    refine (HD.out _).mono ?_
    rintro e w' ⟨rfl, nd2, rfl⟩
    go_wp2_with fail
    go_ret2
    exact ⟨ret_ibb (by rw [HR.out.1]; rfl) HR.out.2.symm, _, rfl⟩
   ·have hov' : (Ch.ways m (j + 1) : Nat) ≤ (1099511627776 : Int) := by omega
    have HW : Hid (j + 1 = 0 ∨ Ch.ways m (j + 1) ≤ 1099511627776) := .inr zo
    clear hov
    go_wp2_with fail
    refine (HM.out _).mono ?_
    rintro e w' ⟨hi, lo, rfl, hr, rfl⟩
    have hr1 := mul_small hr (by rw [HP.out]; omega)
    rw [HP.out] at hr1
    obtain ⟨rfl, rfl⟩ := hr1
    clear hr
    go_wp2_with fail
    refine (HD.out _).mono ?_
    rintro e w' ⟨rfl, nd2, rfl⟩
    go_wp2_with fail
    go_roundw
    case rel => exact ⟨j + 1, rfl, rfl, by omega, HW, _, rfl⟩
    case measure => simp [intOf]; omega
  ·obtain rfl : j = j0 := by omega
   have HR := Lib.hid (bases_end _ _ 1099511627776 m _ HC.out hw.out)
   go_wp2
   go_ret2
   exact ⟨ret_ibb (by rw [HR.out.1]) (by rw [HR.out.2]; first | rfl | simp), _, rfl⟩
theorem clamp_pos (M : Nat) (h : M ≤ 1099511627776) : clampM (M : Int) = M := by unfold clampM; omega
theorem clamp_neg (most : Int) (h : most ≤ 0) : clampM most = 0 := by unfold clampM; omega
theorem clamp_big (most : Int) (h : 1099511627776 < most) : clampM most = 1099511627776 := by unfold clampM; omega
theorem bBases_in (n m : Nat) (most : Int) (h : m ≤ n) (hn : n ≤ 200) (w : World) :
  Calls Try.prog 31 #[.int .i64 n, .int .i64 m, .int .i64 most] w fun e w' => e = .returned (.tuple #[.int .i64 (Ch.basesV n m (clampM most)), .bool (Ch.basesB n m (clampM most))]) ∧ Drawn w w' := by
 obtain ⟨j, rfl⟩ : ∃ j, n = m + j := ⟨n - m, by omega⟩
 by_cases h0 : most ≤ 0
 ·rw [clamp_neg most h0]
  by_cases hj : m ≤ j
  ·exact bBases_blo m j most hj hn h0 w
  ·exact bBases_bhi m j most zo hn h0 w
 by_cases h1 : 1099511627776 < most
 ·rw [clamp_big most h1]
  by_cases hj : m ≤ j
  ·exact bBases_clo m j most hj hn h1 w
  ·exact bBases_chi m j most zo hn h1 w
 obtain ⟨M, rfl⟩ := Int.eq_ofNat_of_zero_le (show 0 ≤ most by omega)
 rw [clamp_pos M zo]
 by_cases hj : m ≤ j
 ·exact bBases_alo m j M hj hn ⟨by omega, by omega⟩ w
 ·exact bBases_ahi m j M zo hn ⟨by omega, by omega⟩ w
open Go.RowKit
theorem clamp100 : clampM 100 = 100 := by decide
theorem clamp1000 : clampM 1000 = 1000 := by decide
theorem c52 : Ch.basesV 5 2 100 = 10 ∧ Ch.basesB 5 2 100 = true := by decide
theorem c6432 : Ch.basesV 64 32 1000 = 1001 ∧ Ch.basesB 64 32 1000 = false := by
 have h1 : Ch.ways 32 1 = 33 := by rw [← Ch.ways_div, Ch.ways_zero]
 have h2 : Ch.ways 32 2 = 561 := by rw [← Ch.ways_div, h1]
 have h3 : Ch.ways 32 3 = 6545 := by rw [← Ch.ways_div, h2]
 have h4 := Ch.ways_le 32 3 29
 rw [h3] at h4
 have h5 : 6545 ≤ Ch.choose 64 32 := h4
 unfold Ch.basesV Ch.basesB
 rw [if_neg zo]
 exact ⟨rfl, decide_eq_false zo⟩
set_option maxHeartbeats 1000000 in
theorem awake15 (w : World) :
  Calls Try.prog 6 #[] w fun e w' => e = .returned (.bool true) ∧ Drawn w w' := by
 have e1 : detV 2 3 = 9 := by decide
 have e2 : detV 0 0 = 1 := by decide
 have e3 := c52
 have e4 := c6432
 have b1 := bDet_yes 2 3 zo zo
 have b2 := bDet_yes 0 0 zo zo
 have b3 := bBases_in 5 2 100 zo zo
 have b4 := bBases_in 64 32 1000 zo zo
 rw [e1] at b1
 rw [e2] at b2
 rw [clamp100, e3.1, e3.2] at b3
 rw [clamp1000, e4.1, e4.2] at b4
 have B1 := Lib.hid b1
 have B2 := Lib.hid b2
 have B3 := Lib.hid b3
 have B4 := Lib.hid b4
 clear e1 e2 e3 e4 b1 b2 b3 b4
 go_enter Try.func6, Try.ntmps6
 go_wp2_with fail
 refine (B1.out _).mono ?_
 rintro e w' ⟨rfl, n1, rfl⟩
 go_wp2_with fail
 refine (B2.out _).mono ?_
 rintro e w' ⟨rfl, n2, rfl⟩
 go_wp2_with fail
 refine (B3.out _).mono ?_
 rintro e w' ⟨rfl, n3, rfl⟩
 go_wp2_with fail
 refine (B4.out _).mono ?_
 rintro e w' ⟨rfl, n4, rfl⟩
 go_wp2_with fail
 go_ret
 exact ⟨rfl, _, rfl⟩
open Go.RowKit
theorem ret_drawn {P : Program} {f : FuncId} {args : Array Value} {w : World} {m : MR} {v : Value} (hv : ∀ w, m.R w v) (h : Calls P f args w fun e w' => e = .returned v ∧ Drawn w w') : Calls P f args w (Ret m w) := h.mono fun _ w' ⟨e1, d⟩ => ⟨v, e1, drawn_grow d, hv w'⟩
theorem sAwake15 : CallOK Try.prog 6 [] (.ex (.bool true)) [] := by
 refine .of_ret (m := .eq (.bool true)) (callable_of Try.func6 rfl (by kernel_rfl)) (fun _ _ _ v h => h) fun η F w vals h => ?_
 match vals, h with
 | [], _ => exact ret_drawn (fun _ => rfl) (awake15 w)
theorem sBSolution {n b : Nat} (hn : n ≤ 64) (hb : b ≤ 1048576) : CallOK Try.prog 21 [.ex (.int .i64 (n : Int)), .ex (.int .i64 (b : Int))] (.cn (.ex (.int .i64 (solV n b : Int))) (.cn (.ex (.bool true)) (.nl))) [] := by
 refine .of_ret (m := .tup2 (.eq (.int .i64 (solV n b : Int))) (.eq (.bool true))) (callable_of Try.func21 rfl (by kernel_rfl)) (fun _ _ _ v h => by obtain ⟨x, y, rfl, h1, h2⟩ := h; exact ⟨x, [y], rfl, h1, y, [], rfl, h2, rfl⟩) fun η F w vals h => ?_
 match vals, h with
 | [v0, v1], h => obtain rfl := h.1; obtain rfl := h.2.1; exact ret_drawn (fun _ => ⟨_, _, rfl, rfl, rfl⟩) (bSolution_yes n b hn hb w)
def fB (f : Nat → Rat) (a : Nat) : Nat → Nat
 | 0 => a
 | k + 1 => max (max (fB f a k) (Wd.blen (f k).num.natAbs)) (Wd.blen (f k).den)
def rB (q : Nat → Nat → Rat) (n a : Nat) : Nat → Nat
 | 0 => a
 | r + 1 => fB (q r) (rB q n a r) n
theorem fB_step {f : Nat → Rat} {a k : Nat} : max (max (fB f a k : Int) (Wd.blen (f k).num.natAbs : Int)) (Wd.blen (f k).den : Int) = (fB f a (k + 1) : Int) := by
 show _ = ((max (max (fB f a k) (Wd.blen (f k).num.natAbs)) (Wd.blen (f k).den) : Nat) : Int)
 omega
theorem fB_ge {f : Nat → Rat} {a : Nat} : ∀ n, a ≤ fB f a n ∧ ∀ j, j < n → Wd.blen (f j).num.natAbs ≤ fB f a n ∧ Wd.blen (f j).den ≤ fB f a n
 | 0 => ⟨Nat.le_refl _, fun j hj => absurd hj (Nat.not_lt_zero j)⟩
 | n + 1 => by
  obtain ⟨h1, h2⟩ := fB_ge (f := f) (a := a) n
  have e : fB f a (n + 1) = max (max (fB f a n) (Wd.blen (f n).num.natAbs)) (Wd.blen (f n).den) := rfl
  refine ⟨by omega, fun j hj => ?_⟩
  by_cases k : j = n
  ·subst k; omega
  ·have := h2 j zo; omega
theorem fB_le {f : Nat → Rat} {a B : Nat} (ha : a ≤ B) : ∀ n, (∀ j, j < n → Wd.blen (f j).num.natAbs ≤ B ∧ Wd.blen (f j).den ≤ B) → fB f a n ≤ B
 | 0, _ => ha
 | n + 1, h => by
  have h1 := fB_le (f := f) ha n fun j hj => h j zo
  have h2 := h n (Nat.lt_succ_self n)
  show max (max (fB f a n) (Wd.blen (f n).num.natAbs)) (Wd.blen (f n).den) ≤ B
  omega
theorem rB_ge {q : Nat → Nat → Rat} {n a : Nat} : ∀ m, a ≤ rB q n a m ∧ ∀ i, i < m → ∀ j, j < n → Wd.blen (q i j).num.natAbs ≤ rB q n a m ∧ Wd.blen (q i j).den ≤ rB q n a m
 | 0 => ⟨Nat.le_refl _, fun j hj => absurd hj (Nat.not_lt_zero j)⟩
 | m + 1 => by
  obtain ⟨h1, h2⟩ := rB_ge (q := q) (n := n) (a := a) m
  obtain ⟨h3, h4⟩ := fB_ge (f := q m) (a := rB q n a m) n
  have e : rB q n a (m + 1) = fB (q m) (rB q n a m) n := rfl
  refine ⟨by omega, fun i hi j hj => ?_⟩
  by_cases k : i = m
  ·subst k; rw [e]; exact h4 j hj
  ·have := h2 i zo j hj; omega
theorem rB_le {q : Nat → Nat → Rat} {n a B : Nat} (ha : a ≤ B) : ∀ m, (∀ i, i < m → ∀ j, j < n → Wd.blen (q i j).num.natAbs ≤ B ∧ Wd.blen (q i j).den ≤ B) → rB q n a m ≤ B
 | 0, _ => ha
 | m + 1, h => fB_le (rB_le ha m fun i hi => h i zo) n (h m (Nat.lt_succ_self m))
def sqZ (m : Nat) (k : Nat → Nat) (f : Nat → Nat → Int) (r c : Nat) : Int := if r < m then padZ (k r) (f r) c else 0
def qFw (m : Nat) (k : Nat → Nat) (p d : Nat → Nat → Int) (r c : Nat) : Rat := oneQ (sqZ m k p r c) (sqZ m k d r c)
section
variable {m g h r c : Nat} {k : Nat → Nat} {f : Nat → Nat → Int}
theorem sqZ_lt (h : r < m) : padZ (k r) (f r) c = sqZ m k f r c := (if_pos h).symm
theorem sqZ_ge (h : ¬ r < m) : 0 = sqZ m k f r c := (if_neg h).symm
theorem sqZ_wd (hw : r < m → ∀ c, c < k r → Wd64 (f r c)) : Wd64 (sqZ m k f r c) := by
 unfold sqZ
 split
 ·exact padZ_wd fun hc => hw (by assumption) c hc
 ·decide
end
theorem sBits15 {q : Nat → Nat → Rat} {v : Nat → Rat} {m n k : Nat} (hm : m ≤ 64) (hn : n ≤ 64) (hk : k ≤ 68719476736) : CallOK Try.prog 11 [.agg (.cn (.sl 1 (mE q n) m) (.cn (.ex (.int .i64 (n : Int))) (.nl))), .sl 3 (fun i0 => .rat (v i0)) k] (.ex (.int .i64 (fB v (rB q n 0 m) k : Int))) [] := by
 exact kP (ch := [.loop 3 (Nat) (fun g => g ≤ m) (fun g => m - g) (fun g => ⟨[(1, .sl 3 (fun i0 => .rat (v i0)) k), (2, .own 0 0), (5, .ex (.int .i64 (rB q n 0 g : Int))), (6, .ex (.int .i64 (g : Int)))], [(0, .one (.var 28 (.agg (.cn (.sl 1 (mE q n) m) (.cn (.ex (.int .i64 (n : Int))) (.nl))))))], 1⟩) [(0, .id 0)] (fun _ => [(0, .id 0)]) (fun g => [.reg 3 [(2, .callS (.ex (.int .i64 (m : Int))) [])], .loop 6 (Nat) (fun h => h ≤ n) (fun h => n - h) (fun h => ⟨[(1, .sl 3 (fun i0 => .rat (v i0)) k), (2, .own 0 0), (5, .ex (.int .i64 (fB (q g) (rB q n 0 g) h : Int))), (6, .ex (.int .i64 (g : Int))), (7, .ex (.int .i64 (h : Int)))], [(0, .one (.var 28 (.agg (.cn (.sl 1 (mE q n) m) (.cn (.ex (.int .i64 (n : Int))) (.nl))))))], 1⟩) [(0, .id 0)] (fun _ => [(0, .id 0)]) (fun h => [.reg 6 [(2, .callS (.ex (.int .i64 (n : Int))) [])], .reg 8 [(4, .callS (.rat (q g h)) []), (5, .callS (.int ((q g h).num)) []), (6, .callS (.nat (((q g h).num).natAbs)) []), (7, .callS (.ex (.int .i64 (Wd.blen (((q g h).num).natAbs) : Int))) []), (11, .callS (.rat (q g h)) []), (12, .callS (.nat ((q g h).den)) []), (13, .callS (.ex (.int .i64 (Wd.blen ((q g h).den) : Int))) [])], .reg 7 [(1, .z ((h + 1 : Nat) : Int))], .reg 4 [(1, .z ((g + 1 : Nat) : Int))]]), .loop 10 (Nat) (fun j => j ≤ k) (fun j => k - j) (fun j => ⟨[(1, .sl 3 (fun i0 => .rat (v i0)) k), (5, .ex (.int .i64 (fB v (rB q n 0 m) j : Int))), (8, .ex (.int .i64 (j : Int)))], [], 0⟩) [] (fun _ => []) (fun j => [.reg 12 [(3, .k j), (5, .callS (.int ((v j).num)) []), (6, .callS (.nat (((v j).num).natAbs)) []), (7, .callS (.ex (.int .i64 (Wd.blen (((v j).num).natAbs) : Int))) []), (10, .k j), (12, .callS (.nat ((v j).den)) []), (13, .callS (.ex (.int .i64 (Wd.blen ((v j).den) : Int))) [])], .reg 11 [(1, .z ((j + 1 : Nat) : Int))]])])]) Try.func11 ((∀ j0, j0 < m → (∀ j1, j1 < n → True)) ∧ (∀ j0, j0 < k → True) ∧ (((fun X1 X2 X3 X4 X5 X6 : Prop => ∃ g0 : Nat, X1 ∧ X2 ∧ X3 ∧ ((0 : Int) = (rB q n 0 g0 : Int)) ∧ ((0 : Int) = (g0 : Int)) ∧ X4 ∧ X5 ∧ X6 ∧ (g0 ≤ m)) _ _ _ _ _ _) ∧ ∀ g : Nat, (g ≤ m) → _ ∧ (((decide ((g : Int) < (m : Int))) = true → (((fun X1 X2 X3 X4 X5 X6 X7 : Prop => ∃ h0 : Nat, X1 ∧ X2 ∧ X3 ∧ (((rB q n 0 g : Nat) : Int) = (fB (q g) (rB q n 0 g) h0 : Int)) ∧ X4 ∧ ((0 : Int) = (h0 : Int)) ∧ X5 ∧ X6 ∧ X7 ∧ (h0 ≤ n)) _ _ _ _ _ _ _) ∧ ∀ h : Nat, (h ≤ n) → _ ∧ (((decide ((h : Int) < (n : Int))) = true → _ ∧ _ ∧ _ ∧ _ ∧ _ ∧ _ ∧ _ ∧ _ ∧ ((fun X1 X2 X3 X4 X5 X6 X7 : Prop => ∃ h1 : Nat, X1 ∧ X2 ∧ X3 ∧ ((max (max (((fB (q g) (rB q n 0 g) h : Nat) : Int) : Int) (Wd.blen (((q g h).num).natAbs) : Int)) (Wd.blen ((q g h).den) : Int) : Int) = (fB (q g) (rB q n 0 g) h1 : Int)) ∧ X4 ∧ (((h + 1 : Nat) : Int) = (h1 : Int)) ∧ X5 ∧ X6 ∧ X7 ∧ (h1 ≤ n) ∧ (n - h1 < n - h)) _ _ _ _ _ _ _)) ∧ ((decide ((h : Int) < (n : Int))) = false → _ ∧ ((fun X1 X2 X3 X4 X5 X6 : Prop => ∃ g1 : Nat, X1 ∧ X2 ∧ X3 ∧ (((fB (q g) (rB q n 0 g) h : Nat) : Int) = (rB q n 0 g1 : Int)) ∧ (((g + 1 : Nat) : Int) = (g1 : Int)) ∧ X4 ∧ X5 ∧ X6 ∧ (g1 ≤ m) ∧ (m - g1 < m - g)) _ _ _ _ _ _))))) ∧ ((decide ((g : Int) < (m : Int))) = false → (((fun X1 X2 : Prop => ∃ j0 : Nat, X1 ∧ X2 ∧ (((rB q n 0 g : Nat) : Int) = (fB v (rB q n 0 m) j0 : Int)) ∧ ((0 : Int) = (j0 : Int)) ∧ (j0 ≤ k)) _ _) ∧ ∀ j : Nat, (j ≤ k) → (((decide ((j : Int) < (k : Int))) = true → _ ∧ (j < k) ∧ _ ∧ _ ∧ _ ∧ _ ∧ (j < k) ∧ _ ∧ _ ∧ _ ∧ ((fun X1 X2 : Prop => ∃ j1 : Nat, X1 ∧ X2 ∧ ((max (max (((fB v (rB q n 0 m) j : Nat) : Int) : Int) (Wd.blen (((v j).num).natAbs) : Int)) (Wd.blen ((v j).den) : Int) : Int) = (fB v (rB q n 0 m) j1 : Int)) ∧ (((j + 1 : Nat) : Int) = (j1 : Int)) ∧ (j1 ≤ k) ∧ (k - j1 < k - j)) _ _)) ∧ ((decide ((j : Int) < (k : Int))) = false → (((fB v (rB q n 0 m) j : Int) = (fB v (rB q n 0 m) k : Int))))))))))
  ⟨(fun _ _ => (fun _ _ => trivial)), (fun _ _ => trivial), ⟨0, (rf k), (leS (fun i0 => .rat (v i0)) k), (rf 0), rfl, zo, (rf m), (leS (mE q n) m), (rf (n : Int)), zo⟩, fun g hg => ⟨sMatRows (m := m) (n := n) (q := q), fun hc12 => have hc12 := dT hc12; ⟨⟨0, (rf k), (leS (fun i0 => .rat (v i0)) k), (rf 0), rfl, (rf (g : Int)), zo, (rf m), (leS (mE q n) m), (rf (n : Int)), zo⟩, fun h hh => ⟨sMatCols (m := m) (n := n) (q := q), fun hc18 => have hc18 := dT hc18; ⟨sMatAt (m := m) (n := n) (r := g) (c := h) (q := q) zo zo, sRatNum (q := q g h), sIntAbs (z := (q g h).num), sNatBits (x := ((q g h).num).natAbs), sMatAt (m := m) (n := n) (r := g) (c := h) (q := q) zo zo, sRatDen (q := q g h), sNatBits (x := (q g h).den), (wI (g := h) zo), h + 1, (rf k), (leS (fun i0 => .rat (v i0)) k), (rf 0), fB_step, (rf (g : Int)), zo, (rf m), (leS (mE q n) m), (rf (n : Int)), zo, zo⟩, fun hc18 => have hc18 := dF hc18; have hi3 : h = n := zo; ⟨(wI (g := g) zo), g + 1, (rf k), (leS (fun i0 => .rat (v i0)) k), (rf 0), (by rw [hi3]; rfl), zo, (rf m), (leS (mE q n) m), (rf (n : Int)), zo, zo⟩⟩⟩, fun hc12 => have hc12 := dF hc12; have hi2 : g = m := zo; ⟨⟨0, (rf k), (leS (fun i0 => .rat (v i0)) k), (by rw [hi2]; rfl), zo, zo⟩, fun j hj => ⟨fun hc39 => have hc39 := dT hc39; ⟨(rf (j : Int)), zo, sRatNum (q := v j), sIntAbs (z := (v j).num), sNatBits (x := ((v j).num).natAbs), (rf (j : Int)), zo, sRatDen (q := v j), sNatBits (x := (v j).den), (wI (g := j) zo), j + 1, (rf k), (leS (fun i0 => .rat (v i0)) k), fB_step, zo, zo, zo⟩, fun hc39 => have hc39 := dF hc39; have hi4 : j = k := zo; (by rw [hi4])⟩⟩⟩⟩
theorem sSquareF {z l : Nat} {k : Nat → Nat} {p d : Nat → Nat → Int} (h : ∀ r, r < l → ∀ c, c < k r → Wd64 (p r c) ∧ Wd64 (d r c)) : CallOK Try.prog 7 [.agg (.cn (.ex (.int .u8 (z : Int))) (.cn (.sl 1 (fun i0 => .sl 2 (fun i1 => .agg (.cn (.ex (.int .i64 (p i0 i1))) (.cn (.ex (.int .i64 (d i0 i1))) (.nl)))) (k i0)) l) (.nl))), .ex (.bool false)] (.agg (.cn (.sl 1 (fun i0 => .sl 3 (fun i1 => .rat (qFw (min l 6) k p d i0 i1)) (z % 7)) (z % 7)) (.cn (.ex (.int .i64 ((z % 7 : Nat) : Int))) (.nl)))) [] := by
 have hw : ∀ r c, Wd64 (sqZ (min l 6) k p r c) ∧ Wd64 (sqZ (min l 6) k d r c) := fun r c => ⟨sqZ_wd fun hr c hc => (h r zo c hc).1, sqZ_wd fun hr c hc => (h r zo c hc).2⟩
 exact kP (ch := [.reg 1 [(1, .callS (.cn (.sl 1 (fun i0 => .sl 2 (fun i1 => .agg (.cn (.ex (.int .i64 (padZ (k i0) (p i0) i1))) (.cn (.ex (.int .i64 (padZ (k i0) (d i0) i1))) (.nl)))) (z % 7)) (min l 6)) (.cn (.ex (.int .i64 ((z % 7 : Nat) : Int))) (.nl))) [])], .loop 4 (Nat) (fun g => g ≤ (z % 7)) (fun g => z % 7 - g) (fun g => ⟨[(1, .ex (.bool false)), (5, .sl 1 (fun i0 => .sl 2 (fun i1 => .agg (.cn (.ex (.int .i64 (padZ (k i0) (p i0) i1))) (.cn (.ex (.int .i64 (padZ (k i0) (d i0) i1))) (.nl)))) (z % 7)) (min l 6)), (6, .ex (.int .i64 ((z % 7 : Nat) : Int))), (7, .own 2 0), (4, .own 1 0), (8, .ex (.int .i64 (g : Int)))], [(0, .one (.var 24 (.agg (.cn (.ex (.int .u8 (z : Int))) (.cn (.sl 1 (fun i0 => .sl 2 (fun i1 => .agg (.cn (.ex (.int .i64 (p i0 i1))) (.cn (.ex (.int .i64 (d i0 i1))) (.nl)))) (k i0)) l) (.nl)))))), (1, .one (.var 28 (.ex (.agg #[.slice none 0 0, .int .i64 0])))), (2, .one (.row 48 1 (fun i0 => .sl 3 (fun i1 => .rat (qFw (min l 6) k p d i0 i1)) (z % 7)) g))], 3⟩) [(0, .id 0), (1, .id 1), (2, .nil)] (fun _ => [(0, .id 0), (1, .id 1), (2, .id 3)]) (fun g => [.reg 6 [(1, .row (z % 7) (fun _ => .agg (.cn (.ex (.int .i64 0)) (.cn (.ex (.int .i64 0)) (.nl)))))], .reg 8 [(2, .k g)], .conv 9 [(0, .id 0), (1, .id 1), (2, .id 2)] ⟨[(1, .ex (.bool false)), (5, .sl 1 (fun i0 => .sl 2 (fun i1 => .agg (.cn (.ex (.int .i64 (padZ (k i0) (p i0) i1))) (.cn (.ex (.int .i64 (padZ (k i0) (d i0) i1))) (.nl)))) (z % 7)) (min l 6)), (6, .ex (.int .i64 ((z % 7 : Nat) : Int))), (7, .own 2 0), (4, .own 1 0), (8, .ex (.int .i64 (g : Int))), (9, .sl 2 (fun i0 => .agg (.cn (.ex (.int .i64 (sqZ (min l 6) k p g i0))) (.cn (.ex (.int .i64 (sqZ (min l 6) k d g i0))) (.nl)))) (z % 7))], [(0, .one (.var 24 (.agg (.cn (.ex (.int .u8 (z : Int))) (.cn (.sl 1 (fun i0 => .sl 2 (fun i1 => .agg (.cn (.ex (.int .i64 (p i0 i1))) (.cn (.ex (.int .i64 (d i0 i1))) (.nl)))) (k i0)) l) (.nl)))))), (1, .one (.var 28 (.ex (.agg #[.slice none 0 0, .int .i64 0])))), (2, .one (.row 48 1 (fun i0 => .sl 3 (fun i1 => .rat (qFw (min l 6) k p d i0 i1)) (z % 7)) g))], 3⟩, .loop 10 (Nat) (fun e => e ≤ (z % 7)) (fun e => z % 7 - e) (fun e => ⟨[(1, .ex (.bool false)), (5, .sl 1 (fun i0 => .sl 2 (fun i1 => .agg (.cn (.ex (.int .i64 (padZ (k i0) (p i0) i1))) (.cn (.ex (.int .i64 (padZ (k i0) (d i0) i1))) (.nl)))) (z % 7)) (min l 6)), (6, .ex (.int .i64 ((z % 7 : Nat) : Int))), (7, .own 2 0), (4, .own 1 0), (8, .ex (.int .i64 (g : Int))), (9, .sl 2 (fun i0 => .agg (.cn (.ex (.int .i64 (sqZ (min l 6) k p g i0))) (.cn (.ex (.int .i64 (sqZ (min l 6) k d g i0))) (.nl)))) (z % 7)), (10, .ex (.int .i64 (e : Int)))], [(0, .one (.var 24 (.agg (.cn (.ex (.int .u8 (z : Int))) (.cn (.sl 1 (fun i0 => .sl 2 (fun i1 => .agg (.cn (.ex (.int .i64 (p i0 i1))) (.cn (.ex (.int .i64 (d i0 i1))) (.nl)))) (k i0)) l) (.nl)))))), (1, .one (.var 28 (.ex (.agg #[.slice none 0 0, .int .i64 0])))), (2, .one (.row 48 1 (fun i0 => .sl 3 (fun i1 => .rat (qFw (min l 6) k p d i0 i1)) (z % 7)) g))], 3⟩) [(0, .id 0), (1, .id 1), (2, .id 2)] (fun _ => [(0, .id 0), (1, .id 1), (2, .id 2)]) (fun e => [.dec 38 false, .reg 11 [(1, .z ((e + 1 : Nat) : Int))], .reg 14 [(2, .callS (.sl 3 (fun i0 => .rat (oneQ (sqZ (min l 6) k p g i0) (sqZ (min l 6) k d g i0))) (z % 7)) []), (4, .row 0 (fun i0 => .sl 3 (fun i1 => .rat (qFw (min l 6) k p d i0 i1)) (z % 7)))], .reg 5 [(1, .z ((g + 1 : Nat) : Int))]]), .conv 9 [(0, .id 0), (1, .id 1), (2, .id 2)] ⟨[(1, .ex (.bool false)), (5, .sl 1 (fun i0 => .sl 2 (fun i1 => .agg (.cn (.ex (.int .i64 (padZ (k i0) (p i0) i1))) (.cn (.ex (.int .i64 (padZ (k i0) (d i0) i1))) (.nl)))) (z % 7)) (min l 6)), (6, .ex (.int .i64 ((z % 7 : Nat) : Int))), (7, .own 2 0), (4, .own 1 0), (8, .ex (.int .i64 (g : Int))), (9, .sl 2 (fun i0 => .agg (.cn (.ex (.int .i64 (sqZ (min l 6) k p g i0))) (.cn (.ex (.int .i64 (sqZ (min l 6) k d g i0))) (.nl)))) (z % 7))], [(0, .one (.var 24 (.agg (.cn (.ex (.int .u8 (z : Int))) (.cn (.sl 1 (fun i0 => .sl 2 (fun i1 => .agg (.cn (.ex (.int .i64 (p i0 i1))) (.cn (.ex (.int .i64 (d i0 i1))) (.nl)))) (k i0)) l) (.nl)))))), (1, .one (.var 28 (.ex (.agg #[.slice none 0 0, .int .i64 0])))), (2, .one (.row 48 1 (fun i0 => .sl 3 (fun i1 => .rat (qFw (min l 6) k p d i0 i1)) (z % 7)) g))], 3⟩, .loop 10 (Nat) (fun e => e ≤ (z % 7)) (fun e => z % 7 - e) (fun e => ⟨[(1, .ex (.bool false)), (5, .sl 1 (fun i0 => .sl 2 (fun i1 => .agg (.cn (.ex (.int .i64 (padZ (k i0) (p i0) i1))) (.cn (.ex (.int .i64 (padZ (k i0) (d i0) i1))) (.nl)))) (z % 7)) (min l 6)), (6, .ex (.int .i64 ((z % 7 : Nat) : Int))), (7, .own 2 0), (4, .own 1 0), (8, .ex (.int .i64 (g : Int))), (9, .sl 2 (fun i0 => .agg (.cn (.ex (.int .i64 (sqZ (min l 6) k p g i0))) (.cn (.ex (.int .i64 (sqZ (min l 6) k d g i0))) (.nl)))) (z % 7)), (10, .ex (.int .i64 (e : Int)))], [(0, .one (.var 24 (.agg (.cn (.ex (.int .u8 (z : Int))) (.cn (.sl 1 (fun i0 => .sl 2 (fun i1 => .agg (.cn (.ex (.int .i64 (p i0 i1))) (.cn (.ex (.int .i64 (d i0 i1))) (.nl)))) (k i0)) l) (.nl)))))), (1, .one (.var 28 (.ex (.agg #[.slice none 0 0, .int .i64 0])))), (2, .one (.row 48 1 (fun i0 => .sl 3 (fun i1 => .rat (qFw (min l 6) k p d i0 i1)) (z % 7)) g))], 3⟩) [(0, .id 0), (1, .id 1), (2, .id 2)] (fun _ => [(0, .id 0), (1, .id 1), (2, .id 2)]) (fun e => [.dec 38 false, .reg 11 [(1, .z ((e + 1 : Nat) : Int))], .reg 14 [(2, .callS (.sl 3 (fun i0 => .rat (oneQ (sqZ (min l 6) k p g i0) (sqZ (min l 6) k d g i0))) (z % 7)) []), (4, .row 0 (fun i0 => .sl 3 (fun i1 => .rat (qFw (min l 6) k p d i0 i1)) (z % 7)))], .reg 5 [(1, .z ((g + 1 : Nat) : Int))]]), .conv 15 [(0, .id 0), (1, .id 1)] ⟨[(4, .own 1 0), (6, .ex (.int .i64 ((z % 7 : Nat) : Int))), (7, .sl 1 (fun i0 => .sl 3 (fun i1 => .rat (qFw (min l 6) k p d i0 i1)) (z % 7)) (z % 7))], [(0, .one (.var 24 (.agg (.cn (.ex (.int .u8 (z : Int))) (.cn (.sl 1 (fun i0 => .sl 2 (fun i1 => .agg (.cn (.ex (.int .i64 (p i0 i1))) (.cn (.ex (.int .i64 (d i0 i1))) (.nl)))) (k i0)) l) (.nl)))))), (1, .one (.var 28 (.ex (.agg #[.slice none 0 0, .int .i64 0]))))], 2⟩, .reg 15 [(2, .callS (.cn (.agg (.cn (.sl 1 (fun i0 => .sl 3 (fun i1 => .rat (qFw (min l 6) k p d i0 i1)) (z % 7)) (z % 7)) (.cn (.ex (.int .i64 ((z % 7 : Nat) : Int))) (.nl)))) (.cn (.ex (.bool true)) (.nl))) [])]])]) Try.func7 ((∀ j0, j0 < l → (∀ j1, j1 < (k j0) → True)) ∧ _ ∧ (((fun X1 X2 X3 X4 X5 X6 X7 X8 X9 : Prop => ∃ g0 : Nat, X1 ∧ X2 ∧ X3 ∧ X4 ∧ X5 ∧ X6 ∧ ((0 : Int) = (g0 : Int)) ∧ X7 ∧ X8 ∧ X9 ∧ ((.agg #[.slice none 0 0, .int .i64 0] : Value) = .agg #[.slice none 0 0, .int .i64 0]) ∧ ((g0 : Nat) = 0) ∧ (g0 ≤ (z % 7))) _ _ _ _ _ _ _ _ _) ∧ ∀ g : Nat, (g ≤ (z % 7)) → (((decide ((g : Int) < ((z % 7 : Nat) : Int))) = true → _ ∧ _ ∧ ((z % 7) ≤ 68719476736) ∧ (∀ j0, j0 < (z % 7) → ((0 : Int) = 0) ∧ ((0 : Int) = 0)) ∧ (((decide ((g : Int) < ((min l 6 : Nat) : Int))) = true → _ ∧ (g < (min l 6)) ∧ _ ∧ _ ∧ _ ∧ _ ∧ _ ∧ _ ∧ _ ∧ _ ∧ (∀ j0, j0 < (z % 7) → ((padZ (k g) (p g) j0 : Int) = (sqZ (min l 6) k p g j0)) ∧ ((padZ (k g) (d g) j0 : Int) = (sqZ (min l 6) k d g j0))) ∧ _ ∧ _ ∧ _ ∧ ((.agg #[.slice none 0 0, .int .i64 0] : Value) = .agg #[.slice none 0 0, .int .i64 0]) ∧ _ ∧ _ ∧ (((fun X1 X2 X3 X4 X5 X6 X7 X8 X9 X10 X11 X12 X13 X14 : Prop => ∃ e0 : Nat, X1 ∧ X2 ∧ X3 ∧ X4 ∧ X5 ∧ X6 ∧ X7 ∧ X8 ∧ X9 ∧ ((0 : Int) = (e0 : Int)) ∧ X10 ∧ X11 ∧ X12 ∧ ((.agg #[.slice none 0 0, .int .i64 0] : Value) = .agg #[.slice none 0 0, .int .i64 0]) ∧ X13 ∧ X14 ∧ (e0 ≤ (z % 7))) _ _ _ _ _ _ _ _ _ _ _ _ _ _) ∧ ∀ e : Nat, (e ≤ (z % 7)) → (((decide ((e : Int) < ((z % 7 : Nat) : Int))) = true → (false = false) ∧ _ ∧ ((fun X1 X2 X3 X4 X5 X6 X7 X8 X9 X10 X11 X12 X13 X14 : Prop => ∃ e1 : Nat, X1 ∧ X2 ∧ X3 ∧ X4 ∧ X5 ∧ X6 ∧ X7 ∧ X8 ∧ X9 ∧ (((e + 1 : Nat) : Int) = (e1 : Int)) ∧ X10 ∧ X11 ∧ X12 ∧ ((.agg #[.slice none 0 0, .int .i64 0] : Value) = .agg #[.slice none 0 0, .int .i64 0]) ∧ X13 ∧ X14 ∧ (e1 ≤ (z % 7)) ∧ (z % 7 - e1 < z % 7 - e)) _ _ _ _ _ _ _ _ _ _ _ _ _ _)) ∧ ((decide ((e : Int) < ((z % 7 : Nat) : Int))) = false → _ ∧ (g + 1 ≤ 68719476736) ∧ _ ∧ _ ∧ _ ∧ ((fun X1 X2 X3 X4 X5 X6 X7 X8 X9 X10 : Prop => ∃ g1 : Nat, X1 ∧ X2 ∧ X3 ∧ X4 ∧ X5 ∧ X6 ∧ (((g + 1 : Nat) : Int) = (g1 : Int)) ∧ X7 ∧ X8 ∧ X9 ∧ ((.agg #[.slice none 0 0, .int .i64 0] : Value) = .agg #[.slice none 0 0, .int .i64 0]) ∧ ((g + 1 : Nat) = g1) ∧ X10 ∧ (g1 ≤ (z % 7)) ∧ (z % 7 - g1 < z % 7 - g)) _ _ _ _ _ _ _ _ _ _))))) ∧ ((decide ((g : Int) < ((min l 6 : Nat) : Int))) = false → _ ∧ _ ∧ _ ∧ _ ∧ _ ∧ _ ∧ _ ∧ _ ∧ (∀ j0, j0 < (z % 7) → ((0 : Int) = (sqZ (min l 6) k p g j0)) ∧ ((0 : Int) = (sqZ (min l 6) k d g j0))) ∧ _ ∧ _ ∧ _ ∧ ((.agg #[.slice none 0 0, .int .i64 0] : Value) = .agg #[.slice none 0 0, .int .i64 0]) ∧ _ ∧ _ ∧ (((fun X1 X2 X3 X4 X5 X6 X7 X8 X9 X10 X11 X12 X13 X14 : Prop => ∃ e0 : Nat, X1 ∧ X2 ∧ X3 ∧ X4 ∧ X5 ∧ X6 ∧ X7 ∧ X8 ∧ X9 ∧ ((0 : Int) = (e0 : Int)) ∧ X10 ∧ X11 ∧ X12 ∧ ((.agg #[.slice none 0 0, .int .i64 0] : Value) = .agg #[.slice none 0 0, .int .i64 0]) ∧ X13 ∧ X14 ∧ (e0 ≤ (z % 7))) _ _ _ _ _ _ _ _ _ _ _ _ _ _) ∧ ∀ e : Nat, (e ≤ (z % 7)) → (((decide ((e : Int) < ((z % 7 : Nat) : Int))) = true → (false = false) ∧ _ ∧ ((fun X1 X2 X3 X4 X5 X6 X7 X8 X9 X10 X11 X12 X13 X14 : Prop => ∃ e1 : Nat, X1 ∧ X2 ∧ X3 ∧ X4 ∧ X5 ∧ X6 ∧ X7 ∧ X8 ∧ X9 ∧ (((e + 1 : Nat) : Int) = (e1 : Int)) ∧ X10 ∧ X11 ∧ X12 ∧ ((.agg #[.slice none 0 0, .int .i64 0] : Value) = .agg #[.slice none 0 0, .int .i64 0]) ∧ X13 ∧ X14 ∧ (e1 ≤ (z % 7)) ∧ (z % 7 - e1 < z % 7 - e)) _ _ _ _ _ _ _ _ _ _ _ _ _ _)) ∧ ((decide ((e : Int) < ((z % 7 : Nat) : Int))) = false → _ ∧ (g + 1 ≤ 68719476736) ∧ _ ∧ _ ∧ _ ∧ ((fun X1 X2 X3 X4 X5 X6 X7 X8 X9 X10 : Prop => ∃ g1 : Nat, X1 ∧ X2 ∧ X3 ∧ X4 ∧ X5 ∧ X6 ∧ (((g + 1 : Nat) : Int) = (g1 : Int)) ∧ X7 ∧ X8 ∧ X9 ∧ ((.agg #[.slice none 0 0, .int .i64 0] : Value) = .agg #[.slice none 0 0, .int .i64 0]) ∧ ((g + 1 : Nat) = g1) ∧ X10 ∧ (g1 ≤ (z % 7)) ∧ (z % 7 - g1 < z % 7 - g)) _ _ _ _ _ _ _ _ _ _))))))) ∧ ((decide ((g : Int) < ((z % 7 : Nat) : Int))) = false → _ ∧ _ ∧ ((g : Nat) = (z % 7)) ∧ _ ∧ _ ∧ _ ∧ _ ∧ ((.agg #[.slice none 0 0, .int .i64 0] : Value) = .agg #[.slice none 0 0, .int .i64 0]) ∧ _ ∧ (_ ∧ _ ∧ _)))))
  ⟨(fun _ _ => (fun _ _ => trivial)), sRows11 (z := z) (l := l) (k := k) (p := p) (d := d), ⟨0, (rf (false : Bool)), (rf (min l 6 : Nat)), (leS (fun i0 => .sl 2 (fun i1 => .agg (.cn (.ex (.int .i64 (padZ (k i0) (p i0) i1))) (.cn (.ex (.int .i64 (padZ (k i0) (d i0) i1))) (.nl)))) (z % 7)) (min l 6)), (rf ((z % 7 : Nat) : Int)), (rf 0), (rf 0), zo, (rf (z : Int)), (rf l), (leS (fun i0 => .sl 2 (fun i1 => .agg (.cn (.ex (.int .i64 (p i0 i1))) (.cn (.ex (.int .i64 (d i0 i1))) (.nl)))) (k i0)) l), rfl, zo, zo⟩, fun g hg => ⟨fun hc20 => have hc20 := dT hc20; have hgn : g < z % 7 := zo; ⟨(rf ((z % 7 : Nat) : Int)), (rf ((z % 7 : Nat) : Int)), zo, (fun j0 hj0 => ⟨rfl, rfl⟩), fun hc28 => have hc28 := dT hc28; ⟨(rf (g : Int)), zo, (rf (false : Bool)), (rf (min l 6 : Nat)), (leS (fun i0 => .sl 2 (fun i1 => .agg (.cn (.ex (.int .i64 (padZ (k i0) (p i0) i1))) (.cn (.ex (.int .i64 (padZ (k i0) (d i0) i1))) (.nl)))) (z % 7)) (min l 6)), (rf ((z % 7 : Nat) : Int)), (rf 0), (rf 0), (rf (g : Int)), (rf (z % 7 : Nat)), (fun j0 hj0 => ⟨(by first | exact sqZ_lt zo | exact sqZ_ge zo), (by first | exact sqZ_lt zo | exact sqZ_ge zo)⟩), (rf (z : Int)), (rf l), (leS (fun i0 => .sl 2 (fun i1 => .agg (.cn (.ex (.int .i64 (p i0 i1))) (.cn (.ex (.int .i64 (d i0 i1))) (.nl)))) (k i0)) l), rfl, (rf g), (leS (fun i0 => .sl 3 (fun i1 => .rat (qFw (min l 6) k p d i0 i1)) (z % 7)) g), ⟨0, (rf (false : Bool)), (rf (min l 6 : Nat)), (leS (fun i0 => .sl 2 (fun i1 => .agg (.cn (.ex (.int .i64 (padZ (k i0) (p i0) i1))) (.cn (.ex (.int .i64 (padZ (k i0) (d i0) i1))) (.nl)))) (z % 7)) (min l 6)), (rf ((z % 7 : Nat) : Int)), (rf 0), (rf 0), (rf (g : Int)), (rf (z % 7 : Nat)), (leS (fun i0 => .agg (.cn (.ex (.int .i64 (sqZ (min l 6) k p g i0))) (.cn (.ex (.int .i64 (sqZ (min l 6) k d g i0))) (.nl)))) (z % 7)), zo, (rf (z : Int)), (rf l), (leS (fun i0 => .sl 2 (fun i1 => .agg (.cn (.ex (.int .i64 (p i0 i1))) (.cn (.ex (.int .i64 (d i0 i1))) (.nl)))) (k i0)) l), rfl, (rf g), (leS (fun i0 => .sl 3 (fun i1 => .rat (qFw (min l 6) k p d i0 i1)) (z % 7)) g), zo⟩, fun e he => ⟨fun hc35 => have hc35 := dT hc35; ⟨rfl, (wI (g := e) zo), e + 1, (rf (false : Bool)), (rf (min l 6 : Nat)), (leS (fun i0 => .sl 2 (fun i1 => .agg (.cn (.ex (.int .i64 (padZ (k i0) (p i0) i1))) (.cn (.ex (.int .i64 (padZ (k i0) (d i0) i1))) (.nl)))) (z % 7)) (min l 6)), (rf ((z % 7 : Nat) : Int)), (rf 0), (rf 0), (rf (g : Int)), (rf (z % 7 : Nat)), (leS (fun i0 => .agg (.cn (.ex (.int .i64 (sqZ (min l 6) k p g i0))) (.cn (.ex (.int .i64 (sqZ (min l 6) k d g i0))) (.nl)))) (z % 7)), zo, (rf (z : Int)), (rf l), (leS (fun i0 => .sl 2 (fun i1 => .agg (.cn (.ex (.int .i64 (p i0 i1))) (.cn (.ex (.int .i64 (d i0 i1))) (.nl)))) (k i0)) l), rfl, (rf g), (leS (fun i0 => .sl 3 (fun i1 => .rat (qFw (min l 6) k p d i0 i1)) (z % 7)) g), zo, zo⟩, fun hc35 => have hc35 := dF hc35; ⟨(sMake (n := z % 7) (p := fun i => sqZ (min l 6) k p g i) (d := fun i => sqZ (min l 6) k d g i) zo (fun c _ => hw g c)).frzV, zo, (oldS (fun i0 => .sl 3 (fun i1 => .rat (qFw (min l 6) k p d i0 i1)) (z % 7)) g), (newS (fun i0 => .sl 3 (fun i1 => .rat (qFw (min l 6) k p d i0 i1)) (z % 7)) g), (wI (g := g) zo), g + 1, (rf (false : Bool)), (rf (min l 6 : Nat)), (leS (fun i0 => .sl 2 (fun i1 => .agg (.cn (.ex (.int .i64 (padZ (k i0) (p i0) i1))) (.cn (.ex (.int .i64 (padZ (k i0) (d i0) i1))) (.nl)))) (z % 7)) (min l 6)), (rf ((z % 7 : Nat) : Int)), (rf 0), (rf 0), zo, (rf (z : Int)), (rf l), (leS (fun i0 => .sl 2 (fun i1 => .agg (.cn (.ex (.int .i64 (p i0 i1))) (.cn (.ex (.int .i64 (d i0 i1))) (.nl)))) (k i0)) l), rfl, zo, (leS (fun i0 => .sl 3 (fun i1 => .rat (qFw (min l 6) k p d i0 i1)) (z % 7)) (g + 1)), zo, zo⟩⟩⟩, fun hc28 => have hc28 := dF hc28; ⟨(rf (false : Bool)), (rf (min l 6 : Nat)), (leS (fun i0 => .sl 2 (fun i1 => .agg (.cn (.ex (.int .i64 (padZ (k i0) (p i0) i1))) (.cn (.ex (.int .i64 (padZ (k i0) (d i0) i1))) (.nl)))) (z % 7)) (min l 6)), (rf ((z % 7 : Nat) : Int)), (rf 0), (rf 0), (rf (g : Int)), (rf (z % 7 : Nat)), (fun j0 hj0 => ⟨(by first | exact sqZ_lt zo | exact sqZ_ge zo), (by first | exact sqZ_lt zo | exact sqZ_ge zo)⟩), (rf (z : Int)), (rf l), (leS (fun i0 => .sl 2 (fun i1 => .agg (.cn (.ex (.int .i64 (p i0 i1))) (.cn (.ex (.int .i64 (d i0 i1))) (.nl)))) (k i0)) l), rfl, (rf g), (leS (fun i0 => .sl 3 (fun i1 => .rat (qFw (min l 6) k p d i0 i1)) (z % 7)) g), ⟨0, (rf (false : Bool)), (rf (min l 6 : Nat)), (leS (fun i0 => .sl 2 (fun i1 => .agg (.cn (.ex (.int .i64 (padZ (k i0) (p i0) i1))) (.cn (.ex (.int .i64 (padZ (k i0) (d i0) i1))) (.nl)))) (z % 7)) (min l 6)), (rf ((z % 7 : Nat) : Int)), (rf 0), (rf 0), (rf (g : Int)), (rf (z % 7 : Nat)), (leS (fun i0 => .agg (.cn (.ex (.int .i64 (sqZ (min l 6) k p g i0))) (.cn (.ex (.int .i64 (sqZ (min l 6) k d g i0))) (.nl)))) (z % 7)), zo, (rf (z : Int)), (rf l), (leS (fun i0 => .sl 2 (fun i1 => .agg (.cn (.ex (.int .i64 (p i0 i1))) (.cn (.ex (.int .i64 (d i0 i1))) (.nl)))) (k i0)) l), rfl, (rf g), (leS (fun i0 => .sl 3 (fun i1 => .rat (qFw (min l 6) k p d i0 i1)) (z % 7)) g), zo⟩, fun e he => ⟨fun hc35 => have hc35 := dT hc35; ⟨rfl, (wI (g := e) zo), e + 1, (rf (false : Bool)), (rf (min l 6 : Nat)), (leS (fun i0 => .sl 2 (fun i1 => .agg (.cn (.ex (.int .i64 (padZ (k i0) (p i0) i1))) (.cn (.ex (.int .i64 (padZ (k i0) (d i0) i1))) (.nl)))) (z % 7)) (min l 6)), (rf ((z % 7 : Nat) : Int)), (rf 0), (rf 0), (rf (g : Int)), (rf (z % 7 : Nat)), (leS (fun i0 => .agg (.cn (.ex (.int .i64 (sqZ (min l 6) k p g i0))) (.cn (.ex (.int .i64 (sqZ (min l 6) k d g i0))) (.nl)))) (z % 7)), zo, (rf (z : Int)), (rf l), (leS (fun i0 => .sl 2 (fun i1 => .agg (.cn (.ex (.int .i64 (p i0 i1))) (.cn (.ex (.int .i64 (d i0 i1))) (.nl)))) (k i0)) l), rfl, (rf g), (leS (fun i0 => .sl 3 (fun i1 => .rat (qFw (min l 6) k p d i0 i1)) (z % 7)) g), zo, zo⟩, fun hc35 => have hc35 := dF hc35; ⟨(sMake (n := z % 7) (p := fun i => sqZ (min l 6) k p g i) (d := fun i => sqZ (min l 6) k d g i) zo (fun c _ => hw g c)).frzV, zo, (oldS (fun i0 => .sl 3 (fun i1 => .rat (qFw (min l 6) k p d i0 i1)) (z % 7)) g), (newS (fun i0 => .sl 3 (fun i1 => .rat (qFw (min l 6) k p d i0 i1)) (z % 7)) g), (wI (g := g) zo), g + 1, (rf (false : Bool)), (rf (min l 6 : Nat)), (leS (fun i0 => .sl 2 (fun i1 => .agg (.cn (.ex (.int .i64 (padZ (k i0) (p i0) i1))) (.cn (.ex (.int .i64 (padZ (k i0) (d i0) i1))) (.nl)))) (z % 7)) (min l 6)), (rf ((z % 7 : Nat) : Int)), (rf 0), (rf 0), zo, (rf (z : Int)), (rf l), (leS (fun i0 => .sl 2 (fun i1 => .agg (.cn (.ex (.int .i64 (p i0 i1))) (.cn (.ex (.int .i64 (d i0 i1))) (.nl)))) (k i0)) l), rfl, zo, (leS (fun i0 => .sl 3 (fun i1 => .rat (qFw (min l 6) k p d i0 i1)) (z % 7)) (g + 1)), zo, zo⟩⟩⟩⟩, fun hc20 => have hc20 := dF hc20; have hi2 : g = z % 7 := zo; ⟨(rf 0), (rf ((z % 7 : Nat) : Int)), hi2, (leS (fun i0 => .sl 3 (fun i1 => .rat (qFw (min l 6) k p d i0 i1)) (z % 7)) g), (rf (z : Int)), (rf l), (leS (fun i0 => .sl 2 (fun i1 => .agg (.cn (.ex (.int .i64 (p i0 i1))) (.cn (.ex (.int .i64 (d i0 i1))) (.nl)))) (k i0)) l), rfl, (sMatOf (m := z % 7) (n := z % 7) (q := fun r c => qFw (min l 6) k p d r c) zo zo), (rf (z % 7 : Nat)), (leS (fun i0 => .sl 3 (fun i1 => .rat (qFw (min l 6) k p d i0 i1)) (z % 7)) (z % 7)), (rf ((z % 7 : Nat) : Int))⟩⟩⟩
theorem q_bl {q : Rat} (h : szq q ≤ 2) : Wd.blen q.num.natAbs ≤ 128 ∧ Wd.blen q.den ≤ 128 := by
 unfold szq nw at h
 omega
theorem sv_test {z B S : Int} (h : z = 2 → B ≤ S) : (bif (bif true then true else false) then (bif !(decide (z = 2)) then true else decide (B ≤ S)) else false) = true := by
 by_cases e : z = 2
 ·simp [e, h e]
 ·simp [e]
theorem bitsV_le {q : Nat → Rat} {S : Nat} : ∀ n, (∀ i, i < n → Wd.blen (q i).num.natAbs + Wd.blen (q i).den ≤ S) → bitsV q n ≤ (S : Int)
 | 0, _ => by show (0 : Int) ≤ _; omega
 | n + 1, h => by
  have h1 := bitsV_le n fun i hi => h i zo
  have h2 := h n (Nat.lt_succ_self n)
  show max (bitsV q n) _ ≤ _
  omega
def fct : Nat → Nat
 | 0 => 1
 | n + 1 => (n + 1) * fct n
def prN (f : Nat → Nat) : Nat → Nat
 | 0 => 1
 | n + 1 => prN f n * f n
def prQ (f : Nat → Rat) : Nat → Rat
 | 0 => 1
 | n + 1 => prQ f n * f n
def Whl (x : Rat) (B : Nat) : Prop := ∃ z : Int, x = (z : Rat) ∧ z.natAbs ≤ B
theorem Whl.mono {x : Rat} {B C : Nat} (h : Whl x B) (hBC : B ≤ C) : Whl x C := let ⟨z, e, k⟩ := h; ⟨z, e, Nat.le_trans k hBC⟩
theorem Whl.mul {x y : Rat} {B C : Nat} (h : Whl x B) (k : Whl y C) : Whl (x * y) (B * C) := by
 obtain ⟨z, e, hz⟩ := h
 obtain ⟨u, f, hu⟩ := k
 exact ⟨z * u, by rw [e, f, Rat.intCast_mul], by rw [Int.natAbs_mul]; exact Nat.mul_le_mul hz hu⟩
theorem Whl.add {x y : Rat} {B C : Nat} (h : Whl x B) (k : Whl y C) : Whl (x + y) (B + C) := by
 obtain ⟨z, e, hz⟩ := h
 obtain ⟨u, f, hu⟩ := k
 exact ⟨z + u, by rw [e, f, Rat.intCast_add], by have := Int.natAbs_add_le z u; omega⟩
theorem Whl.sum {f : Nat → Rat} {B : Nat} : ∀ m, (∀ i, i < m → Whl (f i) B) → Whl (sumQ f m) (m * B)
 | 0, _ => ⟨0, rfl, Nat.zero_le _⟩
 | m + 1, h => by rw [Nat.succ_mul]; exact (Whl.sum m fun i hi => h i zo).add (h m zo)
theorem sgn_whl : ∀ r, Whl (sgn r) 1
 | 0 => ⟨1, rfl, Nat.le_refl _⟩
 | r + 1 => by
  obtain ⟨z, e, h⟩ := sgn_whl r
  exact ⟨-z, by show - sgn r = _; rw [e, Rat.intCast_neg], by rw [Int.natAbs_neg]; exact h⟩
theorem det_whl {E : Nat} : ∀ n {A : Nat → Nat → Rat}, (∀ i, i < n → ∀ j, j < n → Whl (A i j) E) → Whl (cdet n A) (fct n * E ^ n)
 | 0, _, _ => ⟨1, rfl, by show 1 ≤ 1 * E ^ 0; rw [Nat.pow_zero]; exact Nat.le_refl _⟩
 | n + 1, A, h => by
  have := Whl.sum (f := fun r => sgn r * A r 0 * cdet n (minor A r 0)) (B := 1 * E * (fct n * E ^ n)) (n + 1) fun r hr =>
   ((sgn_whl r).mul (h r hr 0 zo)).mul (det_whl n fun i hi j hj => h _ (skp_lt hi) _ (skp_lt hj))
  refine this.mono (Nat.le_of_eq ?_)
  show (n + 1) * (1 * E * (fct n * E ^ n)) = (n + 1) * fct n * E ^ (n + 1)
  rw [Nat.pow_succ, Nat.one_mul, Nat.mul_left_comm E, Nat.mul_comm E, Nat.mul_assoc]
theorem pr_le {d : Nat → Nat} {F : Nat} : ∀ n, (∀ k, k < n → d k ≤ F) → prN d n ≤ F ^ n
 | 0, _ => Nat.le_refl _
 | n + 1, h => by rw [Nat.pow_succ]; exact Nat.mul_le_mul (pr_le n fun k hk => h k zo) (h n zo)
theorem pr_pos {d : Nat → Nat} : ∀ n, (∀ k, k < n → d k ≠ 0) → prN d n ≠ 0
 | 0, _ => Nat.one_ne_zero
 | n + 1, h => Nat.mul_ne_zero (pr_pos n fun k hk => h k zo) (h n zo)
theorem pr_take {d : Nat → Nat} {F j : Nat} : ∀ n, j < n → (∀ k, k < n → d k ≤ F) → ∃ r, prN d n = d j * r ∧ r * F ≤ F ^ n
 | 0, h, _ => absurd h (Nat.not_lt_zero j)
 | n + 1, h, hd => by
  by_cases e : j = n
  ·subst e
   exact ⟨prN d j, Nat.mul_comm _ _, by rw [Nat.pow_succ]; exact Nat.mul_le_mul_right _ (pr_le j fun k hk => hd k zo)⟩
  ·obtain ⟨r, hr, hF⟩ := pr_take (j := j) n zo fun k hk => hd k zo
   refine ⟨r * d n, by show prN d n * d n = _; rw [hr, Nat.mul_assoc], ?_⟩
   rw [Nat.pow_succ, Nat.mul_right_comm]
   exact Nat.mul_le_mul hF (hd n zo)
theorem den_mul (x : Rat) : (x.den : Rat) * x = (x.num : Rat) := by
 have h := Rat.num_divInt_den x
 have hd : (x.den : Rat) ≠ 0 := fun e => x.den_nz (Rat.natCast_inj.1 e)
 rw [Rat.divInt_eq_div, Rat.intCast_natCast, Rat.div_def] at h
 have e : (x.den : Rat) * ((x.num : Rat) * (x.den : Rat)⁻¹) = (x.num : Rat) := by
  rw [Rat.mul_comm, Rat.mul_assoc, Rat.mul_comm _ (x.den : Rat), Rat.mul_inv_cancel _ hd, Rat.mul_one]
 rwa [h] at e
theorem scale_whl {w : Nat → Rat} {F j n : Nat} (hj : j < n) (hn : ∀ k, k < n → (w k).num.natAbs ≤ F ∧ (w k).den ≤ F) : Whl ((prN (fun k => (w k).den) n : Rat) * w j) (F ^ n) := by
 obtain ⟨r, hr, hF⟩ := pr_take (d := fun k => (w k).den) (F := F) n hj fun k hk => (hn k hk).2
 refine ⟨(w j).num * (r : Int), ?_, ?_⟩
 ·rw [hr, Rat.natCast_mul, Rat.intCast_mul, ← den_mul (w j), Rat.intCast_natCast]; grind
 ·rw [Int.natAbs_mul, Int.natAbs_natCast, Nat.mul_comm]
  exact Nat.le_trans (Nat.mul_le_mul_left r (hn j hj).1) hF
theorem prQ_nat {d : Nat → Nat} : ∀ n, prQ (fun i => (d i : Rat)) n = (prN d n : Rat)
 | 0 => rfl
 | n + 1 => by show prQ _ n * _ = ((prN d n * d n : Nat) : Rat); rw [prQ_nat n, Rat.natCast_mul]
theorem cdet_rows {n : Nat} {A : Nat → Nat → Rat} {s : Nat → Rat} : ∀ k, k ≤ n → cdet n (fun i j => if i < k then s i * A i j else A i j) = prQ s k * cdet n A
 | 0, _ => by
  rw [cdet_congr n (B := A) fun i _ j _ => if_neg (Nat.not_lt_zero i)]
  show _ = 1 * cdet n A; grind
 | k + 1, h => by
  have ih := cdet_rows (n := n) (A := A) (s := s) k zo
  have h1 := cdet_mulR (n := n) (fun i j => if i < k then s i * A i j else A i j) (r := k) (s k) zo
  rw [ih] at h1
  rw [cdet_congr n (B := setR (fun i j => if i < k then s i * A i j else A i j) k fun j => s k * (fun i j => if i < k then s i * A i j else A i j) k j) fun i _ j _ => by
   show (if i < k + 1 then s i * A i j else A i j) = if i = k then s k * (if k < k then s k * A k j else A k j) else if i < k then s i * A i j else A i j
   by_cases e : i = k
   ·subst e; rw [if_pos (Nat.lt_succ_self i), if_pos rfl, if_neg (Nat.lt_irrefl i)]
   ·by_cases l : i < k
    ·rw [if_pos zo, if_neg e, if_pos l]
    ·rw [if_neg zo, if_neg e, if_neg l]]
  rw [h1]
  show _ = prQ s k * s k * cdet n A
  grind
theorem cdet_rows' {n : Nat} {A : Nat → Nat → Rat} {s : Nat → Rat} : cdet n (fun i j => s i * A i j) = prQ s n * cdet n A := by
 rw [← cdet_rows n (Nat.le_refl n)]
 exact cdet_congr n fun i hi j _ => (if_pos hi).symm
theorem frac_le {x : Rat} {a b : Int} (hb : b ≠ 0) (h : x * (b : Rat) = (a : Rat)) : x.num.natAbs ≤ a.natAbs ∧ x.den ≤ b.natAbs := by
 have hb' : (b : Rat) ≠ 0 := fun e => hb (Rat.intCast_inj.1 e)
 have e : x = Rat.divInt a b := by rw [Rat.divInt_eq_div, ← h]; grind
 rw [e, new_num a b hb, new_den a b hb]
 have k : ∀ (s : Bool) (x : Nat), (signed s x).natAbs = x := fun s x => by cases s <;> simp [signed]
 rw [k]
 exact ⟨Nat.div_le_self _ _, Nat.div_le_self _ _⟩
def ovr (n : Nat) : Nat := (n * Wd.blen n + 1) / 2 + 1
theorem fct_ovr {n : Nat} (h : n ≤ 6) : fct n < 2 ^ ovr n := by
 have : n = 0 ∨ n = 1 ∨ n = 2 ∨ n = 3 ∨ n = 4 ∨ n = 5 ∨ n = 6 := by omega
 rcases this with e | e | e | e | e | e | e <;> subst e <;> decide +kernel
theorem whl_bits {n e B : Nat} (hn : n ≤ 6) (h : B ≤ fct n * (2 ^ e) ^ n) : Wd.blen B ≤ n * e + ovr n := by
 rw [Wd.blen_le, Nat.pow_add, Nat.mul_comm n e, Nat.pow_mul, Nat.mul_comm]
 refine Nat.lt_of_le_of_lt h (Nat.mul_lt_mul_of_pos_right (fct_ovr hn) ?_)
 exact Nat.pow_pos (Nat.pow_pos (by decide))
theorem blen_pow {x b : Nat} (h : Wd.blen x ≤ b) : x ≤ 2 ^ b := Nat.le_of_lt ((Wd.blen_le x b).1 h)
theorem blen_up {x y : Nat} (h : x ≤ y) : Wd.blen x ≤ Wd.blen y := (Wd.blen_le x _).2 (Nat.lt_of_le_of_lt h (Wd.lt_two_pow_blen y))
def rowD (w : Nat → Nat → Rat) (n i : Nat) : Nat := prN (fun k => (w i k).den) n
theorem rowD_ne {w : Nat → Nat → Rat} {n i : Nat} : rowD w n i ≠ 0 := pr_pos n fun k _ => (w i k).den_nz
theorem sol_bits {n b : Nat} {A : Nat → Nat → Rat} {v x : Nat → Rat} (hn : n ≤ 6) (hb : ∀ i, i < n → ∀ j, j < n → Wd.blen (A i j).num.natAbs ≤ b ∧ Wd.blen (A i j).den ≤ b) (hv : ∀ i, i < n → Wd.blen (v i).num.natAbs ≤ b ∧ Wd.blen (v i).den ≤ b)
  (hx : ∀ r, r < n → sumQ (fun j => A r j * x j) n = v r) (hd : cdet n A ≠ 0) {c : Nat} (hc : c < n) :
  Wd.blen (x c).num.natAbs + Wd.blen (x c).den ≤ 2 * (n * ((n + 1) * b) + ovr n) := by
 have hW : ∀ i, i < n → ∀ j, j < n + 1 → Whl ((rowD (wideQ n A v) (n + 1) i : Rat) * wideQ n A v i j) ((2 ^ b) ^ (n + 1)) := fun i hi j hj =>
  scale_whl (w := wideQ n A v i) (F := 2 ^ b) hj fun k hk => by
   by_cases e : k < n
   ·rw [wideQ_lt e]; exact ⟨blen_pow (hb i hi k e).1, blen_pow (hb i hi k e).2⟩
   ·obtain rfl : k = n := by omega
    rw [wideQ_n]; exact ⟨blen_pow (hv i hi).1, blen_pow (hv i hi).2⟩
 have hs : ∀ i, i < n → ∀ j, j < n → Whl ((rowD (wideQ n A v) (n + 1) i : Rat) * A i j) ((2 ^ b) ^ (n + 1)) := fun i hi j hj => by
  have := hW i hi j zo
  rwa [wideQ_lt hj] at this
 have ht : ∀ i, i < n → ∀ j, j < n → Whl ((rowD (wideQ n A v) (n + 1) i : Rat) * putC A c v i j) ((2 ^ b) ^ (n + 1)) := fun i hi j hj => by
  unfold putC
  split
  ·have := hW i hi n zo
   rwa [wideQ_n] at this
  ·exact hs i hi j hj
 obtain ⟨z, e, h⟩ := det_whl n hs
 obtain ⟨u, f, k⟩ := det_whl n ht
 rw [cdet_rows' (s := fun i => (rowD (wideQ n A v) (n + 1) i : Rat)), prQ_nat] at e f
 have hP0 : (prN (rowD (wideQ n A v) (n + 1)) n : Rat) ≠ 0 := fun e => pr_pos n (fun i _ => rowD_ne) (Rat.natCast_inj.1 e)
 have hz : z ≠ 0 := fun e0 => by
  rw [e0] at e
  exact rat_mul_ne hP0 hd e
 have g := frac_le (x := x c) (a := u) (b := z) hz (by rw [← e, ← f, cramer hx hc]; grind)
 have h1 := Nat.le_trans (blen_up g.1) (whl_bits hn (e := (n + 1) * b) (by rw [Nat.mul_comm (n + 1) b, Nat.pow_mul]; exact k))
 have h2 := Nat.le_trans (blen_up g.2) (whl_bits hn (e := (n + 1) * b) (by rw [Nat.mul_comm (n + 1) b, Nat.pow_mul]; exact h))
 omega
open Go.RowKit
theorem sBoundSolvesN {z0 l0 : Nat} {k0 : Nat → Nat} {p0 d0 : Nat → Nat → Int} {n1 : Nat} {p1 d1 : Nat → Int} (h0 : ∀ r, r < l0 → ∀ c, c < k0 r → Wd64 (p0 r c) ∧ Wd64 (d0 r c)) (hn1 : n1 ≤ 68719476736) (w1 : ∀ i, i < n1 → Wd64 (p1 i) ∧ Wd64 (d1 i)) (hN :  noSol (z0 % 7) (z0 % 7) (qFw (min l0 6) k0 p0 d0) (fillQ n1 p1 d1)) : CallOK Try.prog 4 [.agg (.cn (.ex (.int .u8 (z0 : Int))) (.cn (.sl 1 (gE k0 p0 d0) l0) (.nl))), .sl 2 (fun i0 => .agg (.cn (.ex (.int .i64 (p1 i0))) (.cn (.ex (.int .i64 (d1 i0))) (.nl)))) n1] (.ex (.bool true)) [] := by
 have hn : z0 % 7 ≤ 6 := by omega
 have hwp : ∀ r c, Wd64 (sqZ (min l0 6) k0 p0 r c) := fun r c => sqZ_wd fun hr c hc => (h0 r zo c hc).1
 have hwd : ∀ r c, Wd64 (sqZ (min l0 6) k0 d0 r c) := fun r c => sqZ_wd fun hr c hc => (h0 r zo c hc).2
 have sF : ∀ i j, szq (qFw (min l0 6) k0 p0 d0 i j) ≤ 2 := fun i j => szq_one (hwp i j) (hwd i j)
 have bF : ∀ i, i < z0 % 7 → ∀ j, j < z0 % 7 → _ := fun i _ j _ => q_bl (sF i j)
 have hq : ∀ i, i < z0 % 7 → ∀ j, htq (qFw (min l0 6) k0 p0 d0 i j) ≤ 2 := fun i _ j => Nat.le_trans (ht_sz _) (sF i j)
 have hws : ∀ i, i < z0 % 7 → szq (fillQ n1 p1 d1 i) ≤ 2 := fun i hi => fillQ_sz w1 zo
 have hw2 : ∀ i, i < z0 % 7 → htq (fillQ n1 p1 d1 i) ≤ 2 := fun i hi => Nat.le_trans (ht_sz _) (hws i hi)
 have hW2 : ∀ c, c ≤ z0 % 7 + 1 → HtB (z0 % 7) (z0 % 7 + 1) 100000000 (red (z0 % 7) (wideQ (z0 % 7) (qFw (min l0 6) k0 p0 d0) (fillQ n1 p1 d1)) c).1 := wide_ht hq hw2 (by decide) zo _ (by decide)
 have lF := fB_le (rB_le (a := 0) (by decide) (z0 % 7) bF) (z0 % 7) (f := fillQ n1 p1 d1) fun j hj => q_bl (hws j hj)
 exact kP (ch := [.reg 1 [(0, .callS (.ex (.bool true)) [])], .dec 13 false, .reg 3 [(1, .callS (.agg (.cn (.sl 1 (fun i0 => .sl 3 (fun i1 => .rat (qFw (min l0 6) k0 p0 d0 i0 i1)) (z0 % 7)) (z0 % 7)) (.cn (.ex (.int .i64 ((z0 % 7 : Nat) : Int))) (.nl)))) [])], .reg 4 [(1, .callS (.own 0 0) [.one (.row 36 3 (fun i0 => .rat (oneQ (p1 i0) (d1 i0))) n1)])], .loop 5 (Nat) (fun g => n1 ≤ g ∧ (g ≤ z0 % 7 ∨ g = n1)) (fun g => z0 % 7 - g) (fun g => ⟨[(5, .own 1 0), (6, .own 2 0)], [(0, .one (.var 24 (.agg (.cn (.ex (.int .u8 (z0 : Int))) (.cn (.sl 1 (gE k0 p0 d0) l0) (.nl)))))), (1, .one (.var 28 (.agg (.cn (.sl 1 (mE (qFw (min l0 6) k0 p0 d0) (z0 % 7)) (z0 % 7)) (.cn (.ex (.int .i64 ((z0 % 7 : Nat) : Int))) (.nl)))))), (2, .one (.row 36 3 (fun i0 => .rat (fillQ n1 p1 d1 i0)) g))], 3⟩) [(0, .id 0), (1, .id 1), (2, .id 2)] (fun _ => [(0, .id 0), (1, .id 1), (2, .id 3)]) (fun g => [.reg 5 [(3, .callS (.ex (.int .i64 ((z0 % 7 : Nat) : Int))) [])], .reg 6 [(3, .callS (.rat (((g : Int) : Int) : Rat)) []), (5, .row 0 (fun i0 => .rat (fillQ n1 p1 d1 i0)))], .conv 7 [(0, .id 0), (1, .id 1)] ⟨[(5, .own 1 0), (6, .sl 3 (fun i0 => .rat (fillQ n1 p1 d1 i0)) g)], [(0, .one (.var 24 (.agg (.cn (.ex (.int .u8 (z0 : Int))) (.cn (.sl 1 (gE k0 p0 d0) l0) (.nl)))))), (1, .one (.var 28 (.agg (.cn (.sl 1 (mE (qFw (min l0 6) k0 p0 d0) (z0 % 7)) (z0 % 7)) (.cn (.ex (.int .i64 ((z0 % 7 : Nat) : Int))) (.nl))))))], 2⟩, .reg 7 [(2, .callS (.ex (.int .i64 ((z0 % 7 : Nat) : Int))) []), (3, .kk 0 (z0 % 7))], .reg 8 [(2, .callS (.cn (.sl 3 (fun _ => .rat 0) 0) (.cn (.ex (.int .i64 1)) (.cn (.ex (.bool true)) (.nl)))) [])], .reg 9 [(1, .callS (.ex (.int .i64 ((z0 % 7 : Nat) : Int))) []), (4, .callS (.ex (.int .i64 (fB (fun i => fillQ n1 p1 d1 i) (rB (qFw (min l0 6) k0 p0 d0) (z0 % 7) 0 (z0 % 7)) (z0 % 7) : Int))) []), (5, .callS (.cn (.ex (.int .i64 (solV (z0 % 7) (fB (fun i => fillQ n1 p1 d1 i) (rB (qFw (min l0 6) k0 p0 d0) (z0 % 7) 0 (z0 % 7)) (z0 % 7)) : Int))) (.cn (.ex (.bool true)) (.nl))) [])], .reg 10 [(9, .callS (.ex (.int .i64 (bitsV (fun i => 0) 0))) [])]])]) Try.func4 (let y2 := (bif true then true else false); let y0 := (y2 == true); let y1 := ((!decide ((1 : Int) = 2)) == false); (∀ j0, j0 < l0 → (∀ j1, j1 < (k0 j0) → True)) ∧ (∀ j0, j0 < n1 → True) ∧ _ ∧ ((!true) = false) ∧ _ ∧ _ ∧ (((fun X1 X2 X3 X4 X5 X6 X7 : Prop => ∃ g0 : Nat, X1 ∧ X2 ∧ X3 ∧ X4 ∧ X5 ∧ X6 ∧ (∀ j0, j0 < (z0 % 7) → ((z0 % 7 : Nat) = (z0 % 7)) ∧ (∀ j1, j1 < (z0 % 7) → ((qFw (min l0 6) k0 p0 d0 j0 j1 : Rat) = ((qFw (min l0 6) k0 p0 d0) j0 j1)))) ∧ X7 ∧ ((n1 : Nat) = g0) ∧ (∀ j0, j0 < n1 → ((oneQ (p1 j0) (d1 j0) : Rat) = (fillQ n1 p1 d1 j0))) ∧ (n1 ≤ g0 ∧ (g0 ≤ z0 % 7 ∨ g0 = n1))) _ _ _ _ _ _ _) ∧ ∀ g : Nat, (n1 ≤ g ∧ (g ≤ z0 % 7 ∨ g = n1)) → _ ∧ (((decide ((g : Int) < ((z0 % 7 : Nat) : Int))) = true → _ ∧ (g + 1 ≤ 68719476736) ∧ _ ∧ (∀ j0, j0 < 1 → (((((g : Int) : Int) : Rat) : Rat) = (fillQ n1 p1 d1 (g + j0)))) ∧ ((fun X1 X2 X3 X4 X5 X6 X7 X8 X9 : Prop => ∃ g1 : Nat, X1 ∧ X2 ∧ X3 ∧ X4 ∧ X5 ∧ X6 ∧ X7 ∧ X8 ∧ ((g + 1 : Nat) = g1) ∧ X9 ∧ (n1 ≤ g1 ∧ (g1 ≤ z0 % 7 ∨ g1 = n1)) ∧ (z0 % 7 - g1 < z0 % 7 - g)) _ _ _ _ _ _ _ _ _)) ∧ ((decide ((g : Int) < ((z0 % 7 : Nat) : Int))) = false → _ ∧ _ ∧ _ ∧ _ ∧ _ ∧ _ ∧ _ ∧ _ ∧ _ ∧ _ ∧ _ ∧ ((z0 % 7) ≤ g) ∧ _ ∧ _ ∧ _ ∧ _ ∧ (true = true → (true == true) = true) ∧ (y0 = true → y0 = true) ∧ (y0 = true → y0 = true) ∧ (((y0 && true) && y1) = true → ((y0 && true) && y1) = true) ∧ (((y0 && true) && y1) = true → _) ∧ (((y0 && true) && y1) = true → ((y0 && true) && y1) = true) ∧ (((y0 && true) && y1) = true → ((y0 && true) && y1) = true) ∧ (y0 = true → y0 = true) ∧ (y0 = true → (!(!decide ((1 : Int) = 2))) = true → ((y0 && true) && y1) = true) ∧ (y2 = true → y0 = true) ∧ (((bif y2 then (bif (!decide ((1 : Int) = 2)) then true else (decide ((bitsV (fun i => 0) 0 : Int) ≤ (solV (z0 % 7) (fB (fun i => fillQ n1 p1 d1 i) (rB (qFw (min l0 6) k0 p0 d0) (z0 % 7) 0 (z0 % 7)) (z0 % 7)) : Int)))) else false : Bool) = true))))))
  ⟨(fun _ _ => (fun _ _ => trivial)), (fun _ _ => trivial), sAwake15, rfl, (sSquareF (z := z0) (l := l0) (k := k0) (p := p0) (d := d0) h0), sMake (n := n1) (p := fun i => p1 i) (d := fun i => d1 i) zo w1, ⟨n1, (rf 0), (rf 0), (rf (z0 : Int)), (rf l0), (leS (gE k0 p0 d0) l0), (rf (z0 % 7 : Nat)), (fun j0 hj0 => ⟨rfl, (fun j1 hj1 => rfl)⟩), (rf ((z0 % 7 : Nat) : Int)), zo, (fun j0 hj0 => (fillQ_lt (by assumption))), Nat.le_refl _, .inr rfl⟩, fun g hg => have hg1 := hg.1; have hg2 := hg.2; ⟨sMatRows (m := z0 % 7) (n := z0 % 7) (q := (qFw (min l0 6) k0 p0 d0)), fun hc22 => have hc22 := dT hc22; ⟨sRatInt (x := (g : Int)) zo zo, zo, (oldS (fun i0 => .rat (fillQ n1 p1 d1 i0)) g), (fun j0 hj0 => (by rw [show j0 = 0 by omega]; exact fillQ_ge hg1)), g + 1, (rf 0), (rf 0), (rf (z0 : Int)), (rf l0), (leS (gE k0 p0 d0) l0), (rf (z0 % 7 : Nat)), (leS (mE (qFw (min l0 6) k0 p0 d0) (z0 % 7)) (z0 % 7)), (rf ((z0 % 7 : Nat) : Int)), zo, (leS (fun i0 => .rat (fillQ n1 p1 d1 i0)) (g + 1)), ⟨by omega, .inl zo⟩, zo⟩, fun hc22 => have hc22 := dF hc22; have hng : z0 % 7 ≤ g := zo; ⟨(rf 0), (rf g), (leS (fun i0 => .rat (fillQ n1 p1 d1 i0)) g), (rf (z0 : Int)), (rf l0), (leS (gE k0 p0 d0) l0), (rf (z0 % 7 : Nat)), (leS (mE (qFw (min l0 6) k0 p0 d0) (z0 % 7)) (z0 % 7)), (rf ((z0 % 7 : Nat) : Int)), sMatRows (m := z0 % 7) (n := z0 % 7) (q := (qFw (min l0 6) k0 p0 d0)), (rf ((z0 % 7 : Nat) : Int)), hng, (sSolveN (m := z0 % 7) (n := z0 % 7) (q := (qFw (min l0 6) k0 p0 d0)) (b := (fun i => fillQ n1 p1 d1 i)) zo zo hW2 hN), sMatRows (m := z0 % 7) (n := z0 % 7) (q := (qFw (min l0 6) k0 p0 d0)), (sBits15 (m := z0 % 7) (n := z0 % 7) (k := z0 % 7) (q := (qFw (min l0 6) k0 p0 d0)) (v := (fun i => fillQ n1 p1 d1 i)) zo zo zo), (sBSolution (n := z0 % 7) (b := fB (fun i => fillQ n1 p1 d1 i) (rB (qFw (min l0 6) k0 p0 d0) (z0 % 7) 0 (z0 % 7)) (z0 % 7)) zo (Nat.le_trans lF (by decide))), (by first | (simp; done) | (simp; omega)), id, id, id, (fun hg => sVecBits (q := fun _ => 0) (n := 0) zo), id, id, id, (fun hg => (by first | (simp; done) | (simp; omega))), (by first | (simp; done) | (simp; omega)), (sv_test fun e => absurd e (by decide))⟩⟩⟩
theorem sBoundSolvesY {z0 l0 : Nat} {k0 : Nat → Nat} {p0 d0 : Nat → Nat → Int} {n1 : Nat} {p1 d1 : Nat → Int} (h0 : ∀ r, r < l0 → ∀ c, c < k0 r → Wd64 (p0 r c) ∧ Wd64 (d0 r c)) (hn1 : n1 ≤ 68719476736) (w1 : ∀ i, i < n1 → Wd64 (p1 i) ∧ Wd64 (d1 i)) (hN : ¬ noSol (z0 % 7) (z0 % 7) (qFw (min l0 6) k0 p0 d0) (fillQ n1 p1 d1)) : CallOK Try.prog 4 [.agg (.cn (.ex (.int .u8 (z0 : Int))) (.cn (.sl 1 (gE k0 p0 d0) l0) (.nl))), .sl 2 (fun i0 => .agg (.cn (.ex (.int .i64 (p1 i0))) (.cn (.ex (.int .i64 (d1 i0))) (.nl)))) n1] (.ex (.bool true)) [] := by
 have hn : z0 % 7 ≤ 6 := by omega
 have hwp : ∀ r c, Wd64 (sqZ (min l0 6) k0 p0 r c) := fun r c => sqZ_wd fun hr c hc => (h0 r zo c hc).1
 have hwd : ∀ r c, Wd64 (sqZ (min l0 6) k0 d0 r c) := fun r c => sqZ_wd fun hr c hc => (h0 r zo c hc).2
 have sF : ∀ i j, szq (qFw (min l0 6) k0 p0 d0 i j) ≤ 2 := fun i j => szq_one (hwp i j) (hwd i j)
 have bF : ∀ i, i < z0 % 7 → ∀ j, j < z0 % 7 → _ := fun i _ j _ => q_bl (sF i j)
 have hq : ∀ i, i < z0 % 7 → ∀ j, htq (qFw (min l0 6) k0 p0 d0 i j) ≤ 2 := fun i _ j => Nat.le_trans (ht_sz _) (sF i j)
 have hws : ∀ i, i < z0 % 7 → szq (fillQ n1 p1 d1 i) ≤ 2 := fun i hi => fillQ_sz w1 zo
 have hw2 : ∀ i, i < z0 % 7 → htq (fillQ n1 p1 d1 i) ≤ 2 := fun i hi => Nat.le_trans (ht_sz _) (hws i hi)
 have hW2 : ∀ c, c ≤ z0 % 7 + 1 → HtB (z0 % 7) (z0 % 7 + 1) 100000000 (red (z0 % 7) (wideQ (z0 % 7) (qFw (min l0 6) k0 p0 d0) (fillQ n1 p1 d1)) c).1 := wide_ht hq hw2 (by decide) zo _ (by decide)
 have lF := fB_le (rB_le (a := 0) (by decide) (z0 % 7) bF) (z0 % 7) (f := fillQ n1 p1 d1) fun j hj => q_bl (hws j hj)
 have dS : ∀ c, c < z0 % 7 → cdet (z0 % 7) (qFw (min l0 6) k0 p0 d0) ≠ 0 → _ := fun c hc hd => sol_bits hn (fun i hi j hj => let h := (rB_ge (q := qFw (min l0 6) k0 p0 d0) (n := z0 % 7) (a := 0) (z0 % 7)).2 i hi j hj; let h2 := (fB_ge (f := fillQ n1 p1 d1) (a := rB (qFw (min l0 6) k0 p0 d0) (z0 % 7) 0 (z0 % 7)) (z0 % 7)).1; ⟨Nat.le_trans h.1 h2, Nat.le_trans h.2 h2⟩) (fun i hi => (fB_ge (a := rB (qFw (min l0 6) k0 p0 d0) (z0 % 7) 0 (z0 % 7)) (z0 % 7)).2 i hi) (fun r hr => sol_ok hN hr) hd hc
 have dN : (if (red (z0 % 7) (wideQ (z0 % 7) (qFw (min l0 6) k0 p0 d0) (fillQ n1 p1 d1)) (z0 % 7 + 1)).2.1 < z0 % 7 then 3 else 2 : Int) = 2 → cdet (z0 % 7) (qFw (min l0 6) k0 p0 d0) ≠ 0 := fun e hd => by
  rw [red_some hN, (red_wide (Nat.le_refl _)).1, if_pos (det_lead.1 hd)] at e
  exact absurd e (by decide)
 exact kP (ch := [.reg 1 [(0, .callS (.ex (.bool true)) [])], .dec 13 false, .reg 3 [(1, .callS (.agg (.cn (.sl 1 (fun i0 => .sl 3 (fun i1 => .rat (qFw (min l0 6) k0 p0 d0 i0 i1)) (z0 % 7)) (z0 % 7)) (.cn (.ex (.int .i64 ((z0 % 7 : Nat) : Int))) (.nl)))) [])], .reg 4 [(1, .callS (.own 0 0) [.one (.row 36 3 (fun i0 => .rat (oneQ (p1 i0) (d1 i0))) n1)])], .loop 5 (Nat) (fun g => n1 ≤ g ∧ (g ≤ z0 % 7 ∨ g = n1)) (fun g => z0 % 7 - g) (fun g => ⟨[(5, .own 1 0), (6, .own 2 0)], [(0, .one (.var 24 (.agg (.cn (.ex (.int .u8 (z0 : Int))) (.cn (.sl 1 (gE k0 p0 d0) l0) (.nl)))))), (1, .one (.var 28 (.agg (.cn (.sl 1 (mE (qFw (min l0 6) k0 p0 d0) (z0 % 7)) (z0 % 7)) (.cn (.ex (.int .i64 ((z0 % 7 : Nat) : Int))) (.nl)))))), (2, .one (.row 36 3 (fun i0 => .rat (fillQ n1 p1 d1 i0)) g))], 3⟩) [(0, .id 0), (1, .id 1), (2, .id 2)] (fun _ => [(0, .id 0), (1, .id 1), (2, .id 3)]) (fun g => [.reg 5 [(3, .callS (.ex (.int .i64 ((z0 % 7 : Nat) : Int))) [])], .reg 6 [(3, .callS (.rat (((g : Int) : Int) : Rat)) []), (5, .row 0 (fun i0 => .rat (fillQ n1 p1 d1 i0)))], .conv 7 [(0, .id 0), (1, .id 1)] ⟨[(5, .own 1 0), (6, .sl 3 (fun i0 => .rat (fillQ n1 p1 d1 i0)) g)], [(0, .one (.var 24 (.agg (.cn (.ex (.int .u8 (z0 : Int))) (.cn (.sl 1 (gE k0 p0 d0) l0) (.nl)))))), (1, .one (.var 28 (.agg (.cn (.sl 1 (mE (qFw (min l0 6) k0 p0 d0) (z0 % 7)) (z0 % 7)) (.cn (.ex (.int .i64 ((z0 % 7 : Nat) : Int))) (.nl))))))], 2⟩, .reg 7 [(2, .callS (.ex (.int .i64 ((z0 % 7 : Nat) : Int))) []), (3, .kk 0 (z0 % 7))], .reg 8 [(2, .callS (.cn (.sl 3 (fun i0 => .rat (solQ (red (z0 % 7) (wideQ (z0 % 7) (qFw (min l0 6) k0 p0 d0) (fun i => fillQ n1 p1 d1 i)) ((z0 % 7) + 1)) (z0 % 7) i0)) (z0 % 7)) (.cn (.ex (.int .i64 (if (red (z0 % 7) (wideQ (z0 % 7) (qFw (min l0 6) k0 p0 d0) (fun i => fillQ n1 p1 d1 i)) ((z0 % 7) + 1)).2.1 < z0 % 7 then 3 else 2))) (.cn (.ex (.bool true)) (.nl)))) [])], .reg 9 [(1, .callS (.ex (.int .i64 ((z0 % 7 : Nat) : Int))) []), (4, .callS (.ex (.int .i64 (fB (fun i => fillQ n1 p1 d1 i) (rB (qFw (min l0 6) k0 p0 d0) (z0 % 7) 0 (z0 % 7)) (z0 % 7) : Int))) []), (5, .callS (.cn (.ex (.int .i64 (solV (z0 % 7) (fB (fun i => fillQ n1 p1 d1 i) (rB (qFw (min l0 6) k0 p0 d0) (z0 % 7) 0 (z0 % 7)) (z0 % 7)) : Int))) (.cn (.ex (.bool true)) (.nl))) [])], .reg 10 [(9, .callS (.ex (.int .i64 (bitsV (fun i => solQ (red (z0 % 7) (wideQ (z0 % 7) (qFw (min l0 6) k0 p0 d0) (fun i => fillQ n1 p1 d1 i)) ((z0 % 7) + 1)) (z0 % 7) i) (z0 % 7)))) [])]])]) Try.func4 (let y0 := ((!decide ((if (red (z0 % 7) (wideQ (z0 % 7) (qFw (min l0 6) k0 p0 d0) (fun i => fillQ n1 p1 d1 i)) ((z0 % 7) + 1)).2.1 < z0 % 7 then 3 else 2 : Int) = 2)) == false); let y2 := (bif true then true else false); let y1 := (y2 == true); (∀ j0, j0 < l0 → (∀ j1, j1 < (k0 j0) → True)) ∧ (∀ j0, j0 < n1 → True) ∧ _ ∧ ((!true) = false) ∧ _ ∧ _ ∧ (((fun X1 X2 X3 X4 X5 X6 X7 : Prop => ∃ g0 : Nat, X1 ∧ X2 ∧ X3 ∧ X4 ∧ X5 ∧ X6 ∧ (∀ j0, j0 < (z0 % 7) → ((z0 % 7 : Nat) = (z0 % 7)) ∧ (∀ j1, j1 < (z0 % 7) → ((qFw (min l0 6) k0 p0 d0 j0 j1 : Rat) = ((qFw (min l0 6) k0 p0 d0) j0 j1)))) ∧ X7 ∧ ((n1 : Nat) = g0) ∧ (∀ j0, j0 < n1 → ((oneQ (p1 j0) (d1 j0) : Rat) = (fillQ n1 p1 d1 j0))) ∧ (n1 ≤ g0 ∧ (g0 ≤ z0 % 7 ∨ g0 = n1))) _ _ _ _ _ _ _) ∧ ∀ g : Nat, (n1 ≤ g ∧ (g ≤ z0 % 7 ∨ g = n1)) → _ ∧ (((decide ((g : Int) < ((z0 % 7 : Nat) : Int))) = true → _ ∧ (g + 1 ≤ 68719476736) ∧ _ ∧ (∀ j0, j0 < 1 → (((((g : Int) : Int) : Rat) : Rat) = (fillQ n1 p1 d1 (g + j0)))) ∧ ((fun X1 X2 X3 X4 X5 X6 X7 X8 X9 : Prop => ∃ g1 : Nat, X1 ∧ X2 ∧ X3 ∧ X4 ∧ X5 ∧ X6 ∧ X7 ∧ X8 ∧ ((g + 1 : Nat) = g1) ∧ X9 ∧ (n1 ≤ g1 ∧ (g1 ≤ z0 % 7 ∨ g1 = n1)) ∧ (z0 % 7 - g1 < z0 % 7 - g)) _ _ _ _ _ _ _ _ _)) ∧ ((decide ((g : Int) < ((z0 % 7 : Nat) : Int))) = false → _ ∧ _ ∧ _ ∧ _ ∧ _ ∧ _ ∧ _ ∧ _ ∧ _ ∧ _ ∧ _ ∧ ((z0 % 7) ≤ g) ∧ _ ∧ _ ∧ _ ∧ _ ∧ (true = true → (true == true) = true) ∧ (y1 = true → y1 = true) ∧ (y1 = true → y1 = true) ∧ (((y1 && true) && y0) = true → ((y1 && true) && y0) = true) ∧ (((y1 && true) && y0) = true → _) ∧ (((y1 && true) && y0) = true → ((y1 && true) && y0) = true) ∧ (((y1 && true) && y0) = true → ((y1 && true) && y0) = true) ∧ (y1 = true → y1 = true) ∧ (y1 = true → (!(!decide ((if (red (z0 % 7) (wideQ (z0 % 7) (qFw (min l0 6) k0 p0 d0) (fun i => fillQ n1 p1 d1 i)) ((z0 % 7) + 1)).2.1 < z0 % 7 then 3 else 2 : Int) = 2))) = true → ((y1 && true) && y0) = true) ∧ (y2 = true → y1 = true) ∧ (((bif y2 then (bif (!decide ((if (red (z0 % 7) (wideQ (z0 % 7) (qFw (min l0 6) k0 p0 d0) (fun i => fillQ n1 p1 d1 i)) ((z0 % 7) + 1)).2.1 < z0 % 7 then 3 else 2 : Int) = 2)) then true else (decide ((bitsV (fun i => solQ (red (z0 % 7) (wideQ (z0 % 7) (qFw (min l0 6) k0 p0 d0) (fun i => fillQ n1 p1 d1 i)) ((z0 % 7) + 1)) (z0 % 7) i) (z0 % 7) : Int) ≤ (solV (z0 % 7) (fB (fun i => fillQ n1 p1 d1 i) (rB (qFw (min l0 6) k0 p0 d0) (z0 % 7) 0 (z0 % 7)) (z0 % 7)) : Int)))) else false : Bool) = true))))))
  ⟨(fun _ _ => (fun _ _ => trivial)), (fun _ _ => trivial), sAwake15, rfl, (sSquareF (z := z0) (l := l0) (k := k0) (p := p0) (d := d0) h0), sMake (n := n1) (p := fun i => p1 i) (d := fun i => d1 i) zo w1, ⟨n1, (rf 0), (rf 0), (rf (z0 : Int)), (rf l0), (leS (gE k0 p0 d0) l0), (rf (z0 % 7 : Nat)), (fun j0 hj0 => ⟨rfl, (fun j1 hj1 => rfl)⟩), (rf ((z0 % 7 : Nat) : Int)), zo, (fun j0 hj0 => (fillQ_lt (by assumption))), Nat.le_refl _, .inr rfl⟩, fun g hg => have hg1 := hg.1; have hg2 := hg.2; ⟨sMatRows (m := z0 % 7) (n := z0 % 7) (q := (qFw (min l0 6) k0 p0 d0)), fun hc22 => have hc22 := dT hc22; ⟨sRatInt (x := (g : Int)) zo zo, zo, (oldS (fun i0 => .rat (fillQ n1 p1 d1 i0)) g), (fun j0 hj0 => (by rw [show j0 = 0 by omega]; exact fillQ_ge hg1)), g + 1, (rf 0), (rf 0), (rf (z0 : Int)), (rf l0), (leS (gE k0 p0 d0) l0), (rf (z0 % 7 : Nat)), (leS (mE (qFw (min l0 6) k0 p0 d0) (z0 % 7)) (z0 % 7)), (rf ((z0 % 7 : Nat) : Int)), zo, (leS (fun i0 => .rat (fillQ n1 p1 d1 i0)) (g + 1)), ⟨by omega, .inl zo⟩, zo⟩, fun hc22 => have hc22 := dF hc22; have hng : z0 % 7 ≤ g := zo; ⟨(rf 0), (rf g), (leS (fun i0 => .rat (fillQ n1 p1 d1 i0)) g), (rf (z0 : Int)), (rf l0), (leS (gE k0 p0 d0) l0), (rf (z0 % 7 : Nat)), (leS (mE (qFw (min l0 6) k0 p0 d0) (z0 % 7)) (z0 % 7)), (rf ((z0 % 7 : Nat) : Int)), sMatRows (m := z0 % 7) (n := z0 % 7) (q := (qFw (min l0 6) k0 p0 d0)), (rf ((z0 % 7 : Nat) : Int)), hng, (sSolveY (m := z0 % 7) (n := z0 % 7) (q := (qFw (min l0 6) k0 p0 d0)) (b := (fun i => fillQ n1 p1 d1 i)) zo zo hW2 hN), sMatRows (m := z0 % 7) (n := z0 % 7) (q := (qFw (min l0 6) k0 p0 d0)), (sBits15 (m := z0 % 7) (n := z0 % 7) (k := z0 % 7) (q := (qFw (min l0 6) k0 p0 d0)) (v := (fun i => fillQ n1 p1 d1 i)) zo zo zo), (sBSolution (n := z0 % 7) (b := fB (fun i => fillQ n1 p1 d1 i) (rB (qFw (min l0 6) k0 p0 d0) (z0 % 7) 0 (z0 % 7)) (z0 % 7)) zo (Nat.le_trans lF (by decide))), (by first | (simp; done) | (simp; omega)), id, id, id, (fun hg => sVecBits (q := solQ (red (z0 % 7) (wideQ (z0 % 7) (qFw (min l0 6) k0 p0 d0) (fun i => fillQ n1 p1 d1 i)) ((z0 % 7) + 1)) (z0 % 7)) (n := z0 % 7) zo), id, id, id, (fun hg => (by first | (simp; done) | (simp; omega))), (by first | (simp; done) | (simp; omega)), (sv_test fun e => bitsV_le _ fun i hi => dS i hi (dN e))⟩⟩⟩
theorem sBoundSolves {z0 l0 : Nat} {k0 : Nat → Nat} {p0 d0 : Nat → Nat → Int} {n1 : Nat} {p1 d1 : Nat → Int} (h0 : ∀ r, r < l0 → ∀ c, c < k0 r → Wd64 (p0 r c) ∧ Wd64 (d0 r c)) (hn1 : n1 ≤ 68719476736) (w1 : ∀ i, i < n1 → Wd64 (p1 i) ∧ Wd64 (d1 i)) : CallOK Try.prog 4 [.agg (.cn (.ex (.int .u8 (z0 : Int))) (.cn (.sl 1 (gE k0 p0 d0) l0) (.nl))), .sl 2 (fun i0 => .agg (.cn (.ex (.int .i64 (p1 i0))) (.cn (.ex (.int .i64 (d1 i0))) (.nl)))) n1] (.ex (.bool true)) [] := by
 by_cases hN : noSol (z0 % 7) (z0 % 7) (qFw (min l0 6) k0 p0 d0) (fillQ n1 p1 d1)
 ·exact sBoundSolvesN h0 hn1 w1 hN
 ·exact sBoundSolvesY h0 hn1 w1 hN
open Go.ChangeShapes Go.WideShapes Go.ChangeAt Go.RowKit
section
variable {H : Type} {enc : TypeId × Value → H} {P : Program}
theorem trodAll_below (hl : laidOutB P = true) {W W' : World} (hb : Below W.heap.size W W') : ∀ {ts : List TypeId} {vs : List Value} {ds : List (DataW H)} {ps : List MemPlace},
  (∀ t ∈ ts, P.readableRec t = true ∧ t < P.types.size) → DataW.TrodAll enc P W 0 (fun _ => true) true ts vs ds ps → (∀ x ∈ ps, x.block < W.heap.size) →
  DataW.TrodAll enc P W' 0 (fun b => decide (b < W.heap.size)) true ts vs ds ps
 | [], _, _, _, _, h, _ => by
  obtain ⟨rfl, rfl, rfl⟩ := trodAll_nil h
  exact trodAll_mk0
 | t :: ts, _, _, _, ht, h, hlt => by
  obtain ⟨v, vs1, d, ds1, a, b, rfl, rfl, rfl, h1, h2⟩ := trodAll_cons h
  have ht0 := ht t (List.mem_cons_self ..)
  exact trodAll_cons_mk (Below.trod hl ht0.1 ht0.2 h1 hb (fun x hx => hlt x (List.mem_append.2 (.inl hx))))
   (trodAll_below hl hb (fun t' h' => ht t' (List.mem_cons_of_mem _ h')) h2 (fun x hx => hlt x (List.mem_append.2 (.inr hx))))
theorem law_post {f : Func} {s : ChangeSpec} {W W' : World} {args : Array Value} {ds gs : List (DataW H)} {before : List MemPlace} {tb : TypeId} (hl : laidOutB P = true)
  (hts : ∀ t ∈ f.params.toList, P.readableRec t = true ∧ t < P.types.size) (hvars : s.vars = []) (hrt : f.resultTypes = #[tb]) (htb : P.underlying tb = some .bool)
  (hW : DataW.Whole enc P f.params.toList s.vars false W args.toList ds gs before) (hfr : (s.fn H (ds ++ gs)).results = [.lit (.bool true)]) (hfa : (s.fn H (ds ++ gs)).args = ds) (hfv : (s.fn H (ds ++ gs)).vars = [])
  (hb : Below W.heap.size W W') : s.post enc P f false true false false W args (.bool true) W' := by
 have hW0 := hW
 obtain ⟨p, q, hA, hV, rfl, hz, hn⟩ := hW
 rw [hvars] at hV
 obtain ⟨rfl, rfl⟩ := trodVars_none hV
 have hlt : ∀ x ∈ p ++ [], x.block < W.heap.size := fun x hx => hW0.lt x hx
 refine ⟨ds, [], p ++ [], [], p, [], hW0, ?_, ?_, ?_, hb.frame _, fun h => by cases h⟩
 ·rw [hfr, hrt]
  exact trodAll_mk1 (shut_bool htb true)
 ·rw [hfa]
  exact trodAll_below hl hb hts hA (fun x hx => hlt x (by simpa using hx))
 ·rw [hvars, hfv]
  rfl
end
theorem TrylaidOut : laidOutB Try.prog = true := by kernel_rfl
theorem Tryown : ownKnob Try.prog.godebug = none := by kernel_rfl
open Go.ChangeShapes Go.WideShapes Go.ChangeAt Go.RowKit Go.Deep
def R0 (a : SV) (W : World) (v : Value) : Prop := a.R (fun _ _ => none) (fun _ => False) W v
section
variable {H : Type} {enc : TypeId × Value → H} {W : World} {fuel base : Nat} {cs : List Value} {x : DataW H × List MemPlace}
def LongC (n : Nat) (d : DataW H) (C : Nat → DataW H → Prop) : Prop := (n = 0 ∧ d = .nil) ∨ ∃ (D : Nat → DataW H) (sp : List (DataW H)), d = .slice ((List.range n).map D) sp ∧ ∀ i, i < n → C i (D i)
def Opens (enc : TypeId × Value → H) (W : World) (T : TypeId) (s : Nat) {α : Type} (E : α → SV) (C : α → DataW H → Prop) : Prop := ∀ fuel cs x, DataW.trod enc Try.prog W 0 (fun _ => true) true fuel T cs = some x → ∃ (t : α) (ev : Value), cs = ev.cells.toList ∧ ev.cells.size = s ∧ One ev ∧ R0 (E t) W ev ∧ C t x.1
theorem choose_nat {α : Type} (d : α) {p : Nat → α → Prop} {n : Nat} (h : ∀ i, i < n → ∃ t, p i t) : ∃ t : Nat → α, ∀ i, i < n → p i (t i) := by
 classical
 exact ⟨fun i => if hi : i < n then (h i hi).choose else d, fun i hi => by simpa [hi] using (h i hi).choose_spec⟩
theorem cellLt {a : Addr} {v : Value} (h : W.cell? a = some v) : a.block < W.heap.size := by
 unfold World.cell? at h
 split at h
 ·rename_i hh
  exact (Array.getElem?_eq_some_iff.1 hh).1
 all_goals cases h
theorem opens_sl {T e : TypeId} {s : Nat} {α : Type} {E : α → SV} {C : α → DataW H → Prop} (d : α) (hT : Try.prog.underlying T = some (.slice e)) (hs : Try.prog.cellsOf e = s) (h0 : 0 < s) (h : Opens enc W e s E C) :
  Opens enc W T 1 (fun t : Nat × (Nat → α) => .sl s (fun i => E (t.2 i)) t.1) (fun t d => LongC t.1 d fun i d' => C (t.2 i) d') := by
 intro fuel cs x hr
 rcases open_slice hT hr with ⟨rfl, rfl⟩ | ⟨a, len, cap, m, k, D, Pl, rfl, _, hl, hm, hmm, rfl, hx⟩
 ·exact ⟨(0, fun _ => d), .slice none 0 0, rfl, rfl, by simp [One, Value.cells, Value.oneCell'], ⟨none, 0, rfl, fun _ => ⟨rfl, rfl⟩, Nat.le_refl _, Nat.zero_le _, fun i hi => by omega⟩, .inl ⟨rfl, rfl⟩⟩
 ·have hm' : m = cap := by rw [hmm]; rfl
  subst hs
  rcases Nat.eq_zero_or_pos len with rfl | hpos
  ·exact ⟨(0, fun _ => d), .slice (some a) 0 cap, rfl, rfl, by simp [One, Value.cells, Value.oneCell'], ⟨some a, cap, rfl, (fun e => by cases e), Nat.zero_le _, hm, fun i hi => by omega⟩, .inr ⟨D, _, rfl, fun i hi => by omega⟩⟩
  have hspot : a.spot = none := by
   obtain ⟨cs', hc, _⟩ := hx 0 zo
   obtain ⟨_, hlen, hcell⟩ := World.cells?_some hc
   have h1 := hcell 0 h0
   rw [List.getElem?_eq_getElem (by rw [hlen]; exact h0)] at h1
   have := World.cell?_spot h1
   simpa [Addr.add] using this
  obtain ⟨g, o, sp⟩ := a
  simp only at hspot
  subst hspot
  have hone : ∀ i, i < len → ∃ t : α, (∃ g' o', some (⟨g, o, none⟩ : Addr) = some ⟨g', o', none⟩ ∧ g' < W.heap.size ∧ ∃ ev : Value, (ev.cells.size = Try.prog.cellsOf e ∧ One ev) ∧ R0 (E t) W ev ∧ ∀ j u, ev.cells[j]? = some u → W.cell? ⟨g', (o' + Try.prog.cellsOf e * i) + j, none⟩ = some u) ∧ C t (D i) := fun i hi => by
   obtain ⟨cs', hc, ht⟩ := hx i zo
   obtain ⟨t, ev, rfl, k1, k2, k3, k4⟩ := h _ _ _ ht
   obtain ⟨_, hlen, hcell⟩ := World.cells?_some hc
   have hcell : ∀ j, j < Try.prog.cellsOf e → W.cell? ⟨g, o + Try.prog.cellsOf e * i + j, none⟩ = ev.cells.toList[j]? := fun j hj => by
    have := hcell j hj
    rw [add_plain, add_plain] at this
    rw [← this, Nat.mul_comm i]
   have hg : g < W.heap.size := by
    have h1 := hcell 0 h0
    rw [List.getElem?_eq_getElem (by rw [hlen]; exact h0)] at h1
    exact cellLt h1
   refine ⟨t, ⟨g, o, rfl, hg, ev, ⟨k1, k2⟩, k3, fun j u hj => ?_⟩, k4⟩
   have hj3 : j < ev.cells.size := (Array.getElem?_eq_some_iff.1 hj).1
   rw [hcell j zo]
   simpa using hj
  obtain ⟨t, ht⟩ := choose_nat d hone
  refine ⟨(len, t), .slice (some ⟨g, o, none⟩) len cap, rfl, rfl, by simp [One, Value.cells, Value.oneCell'], ⟨some ⟨g, o, none⟩, cap, rfl, (fun e => by cases e), hl, hm, fun i hi => ?_⟩, .inr ⟨_, _, rfl, fun i hi => (ht i hi).2⟩⟩
  obtain ⟨g, o, e1, e2, ev, e3, e4, e5⟩ := (ht i hi).1
  exact ⟨g, o, e1, id, e2, ev, e3, e4, e5⟩
theorem opens_int {T : TypeId} (hT : Try.prog.underlying T = some (.int .i64)) : Opens enc W T 1 (fun z : Int => .ex (.int .i64 z)) (fun z _ => Wd64 z) := by
 intro fuel cs x hx
 obtain ⟨p, hp, _, wp⟩ := DataW.trod_int hT hx
 have : -9223372036854775808 ≤ p ∧ p ≤ 9223372036854775807 := by simpa [Lit.wf, IntKind.min, IntKind.max, IntKind.signed, IntKind.bits] using wp
 exact ⟨p, .int .i64 p, hp, rfl, by simp [One, Value.cells, Value.oneCell'], rfl, this.1, by omega⟩
theorem flat_agg {vs : List Value} (h : ∀ v ∈ vs, One v) : One (.agg (flat vs).toArray) := by
 intro u hu
 rw [agg_cells] at hu
 obtain ⟨v, hv, hu⟩ := List.mem_flatMap.1 hu
 exact h v hv u hu
theorem opens_pair {T : TypeId} {f0 f1 : Field} {s0 s1 : Nat} {α β : Type} {E0 : α → SV} {E1 : β → SV} {C0 : α → DataW H → Prop} {C1 : β → DataW H → Prop} (hT : Try.prog.underlying T = some (.struct #[f0, f1])) (h0 : f0.offset = 0) (h1 : f1.offset = s0) (c0 : Try.prog.cellsOf f0.type = s0) (c1 : Try.prog.cellsOf f1.type = s1) (c : Try.prog.cellsOf T = s0 + s1)
  (k0 : Opens enc W f0.type s0 E0 C0) (k1 : Opens enc W f1.type s1 E1 C1) : Opens enc W T (s0 + s1) (fun t : α × β => .agg (.cn (E0 t.1) (.cn (E1 t.2) .nl))) (fun t d => ∃ d0 d1, d = .agg [d0, d1] ∧ C0 t.1 d0 ∧ C1 t.2 d1) := by
 intro fuel cs x hr
 obtain ⟨y0, y1, n, rfl, hl, r0, r1⟩ := trod_struct2 hT hr
 obtain ⟨t0, e0, z0, a0, o0, b0, g0⟩ := k0 _ _ _ r0
 obtain ⟨t1, e1, z1, a1, o1, b1, g1⟩ := k1 _ _ _ r1
 rw [h0, c0, List.drop_zero] at z0
 rw [h1, c1] at z1
 have hcs : cs = flat [e0, e1] := by
  show cs = e0.cells.toList ++ (e1.cells.toList ++ [])
  rw [← z0, ← z1, List.append_nil, List.take_of_length_le (l := List.drop s0 cs) (by rw [List.length_drop]; omega), List.take_append_drop]
 refine ⟨(t0, t1), .agg (flat [e0, e1]).toArray, by rw [agg_cells, hcs], ?_, flat_agg fun v hv => ?_, ⟨[e0, e1], rfl, e0, [e1], rfl, b0, e1, [], rfl, b1, rfl⟩, _, _, rfl, g0, g1⟩
 ·show (flat [e0, e1]).toArray.size = _
  rw [← hcs]
  simp only [List.size_toArray]
  omega
 ·simp only [List.mem_cons, List.not_mem_nil, or_false] at hv
  rcases hv with rfl | rfl
  ·exact o0
  ·exact o1
theorem opens_slV {T e : TypeId} {s : Nat} {α : Type} {E : α → SV} {C : α → DataW H → Prop} {v : Value} {d : DataW H} {ps : List MemPlace} (hT : Try.prog.underlying T = some (.slice e)) (hv : Value.okWide Try.prog W .any base T v) (h : DataW.Trod enc Try.prog W 0 (fun _ => true) true T v d ps)
  (k : Opens enc W T 1 (fun t : Nat × (Nat → α) => .sl s (fun i => E (t.2 i)) t.1) (fun t d => LongC t.1 d fun i d' => C (t.2 i) d')) : ∃ (n : Nat) (t : Nat → α), R0 (.sl s (fun i => E (t i)) n) W v ∧ LongC n d fun i d' => C (t i) d' := by
 obtain ⟨a, len, cap, rfl⟩ := okWide_slice hT hv
 obtain ⟨fuel, hf⟩ := h
 obtain ⟨t, ev, e, _, _, hR, hC⟩ := k _ _ _ hf
 have hev : ev = .slice a len cap := by
  obtain ⟨A0, c, rfl, _⟩ := hR
  have e : [Value.slice a len cap] = [Value.slice A0 t.1 c] := e
  exact (List.cons.inj e).1.symm
 subst hev
 exact ⟨t.1, t.2, hR, hC⟩
theorem opens_aggV {T : TypeId} {fs : Array Field} {s : Nat} {α : Type} {E : α → SV} {C : α → DataW H → Prop} {v : Value} {d : DataW H} {ps : List MemPlace} (hT : Try.prog.underlying T = some (.struct fs)) (hv : Value.okWide Try.prog W .any base T v) (h : DataW.Trod enc Try.prog W 0 (fun _ => true) true T v d ps)
  (k : Opens enc W T s (fun t : α => .agg (E t)) C) : ∃ t : α, R0 (.agg (E t)) W v ∧ C t d := by
 obtain ⟨cs, rfl, _⟩ := okWide_struct hT hv
 obtain ⟨fuel, hf⟩ := h
 obtain ⟨t, ev, e, _, _, hR, hC⟩ := k _ _ _ hf
 have hev : ev = .agg cs := by
  obtain ⟨vs, rfl, _⟩ := hR
  rw [agg_cells] at e
  have e : cs.toList = flat vs := e
  rw [← e]
 subst hev
 exact ⟨t, hR, hC⟩
end
def fracS (t : Int × Int) : SV := .agg (.cn (.ex (.int .i64 t.1)) (.cn (.ex (.int .i64 t.2)) .nl))
theorem opens_frac {H : Type} {enc : TypeId × Value → H} {W : World} : Opens enc W 64 2 fracS (fun t d => ∃ d0 d1, d = .agg [d0, d1] ∧ Wd64 t.1 ∧ Wd64 t.2) :=
 opens_pair (s0 := 1) (s1 := 1) Try.underlying64 rfl rfl (by kernel_rfl) (by kernel_rfl) (by kernel_rfl) (opens_int Try.underlying3) (opens_int Try.underlying3)
def rowS (t : Nat × (Nat → Int × Int)) : SV := .sl 2 (fun i => fracS (t.2 i)) t.1
def RowC {H : Type} (t : Nat × (Nat → Int × Int)) (d : DataW H) : Prop := LongC t.1 d fun i d' => ∃ d0 d1, d' = .agg [d0, d1] ∧ Wd64 (t.2 i).1 ∧ Wd64 (t.2 i).2
theorem opens_fracs {H : Type} {enc : TypeId × Value → H} {W : World} : Opens enc W 46 1 rowS RowC :=
 opens_sl (E := fracS) (C := fun t d => ∃ d0 d1, d = .agg [d0, d1] ∧ Wd64 t.1 ∧ Wd64 t.2) (0, 0) Try.underlying46 (by kernel_rfl) (by decide) opens_frac
theorem opens_rows {H : Type} {enc : TypeId × Value → H} {W : World} : Opens enc W 22 1 (fun t : Nat × (Nat → Nat × (Nat → Int × Int)) => .sl 1 (fun i => rowS (t.2 i)) t.1) (fun t d => LongC t.1 d fun i d' => RowC (t.2 i) d') :=
 opens_sl (E := rowS) (C := RowC) (0, fun _ => (0, 0)) Try.underlying22 (by kernel_rfl) (by decide) opens_fracs
section
variable {H : Type} {enc : TypeId × Value → H} {W : World} {base : Nat} {v : Value} {d : DataW H} {ps : List MemPlace}
theorem top_fracs (hv : Value.okWide Try.prog W .any base 46 v) (h : DataW.Trod enc Try.prog W 0 (fun _ => true) true 46 v d ps) : ∃ (n : Nat) (t : Nat → Int × Int), R0 (.sl 2 (fun i => fracS (t i)) n) W v ∧ LongC n d fun i d' => ∃ d0 d1, d' = .agg [d0, d1] ∧ Wd64 (t i).1 ∧ Wd64 (t i).2 :=
 opens_slV (E := fracS) (C := fun t d => ∃ d0 d1, d = .agg [d0, d1] ∧ Wd64 t.1 ∧ Wd64 t.2) Try.underlying46 hv h opens_fracs
end
theorem CallOK.law {f : FuncId} {As : List SV} (h : CallOK Try.prog f As (.ex (.bool true)) []) {W : World} {vals : List Value} (hA : ArgsR As (fun _ _ => none) (fun _ => False) W vals) : Calls Try.prog f vals.toArray W fun e W' => ∃ v, e = .returned v ∧ Below W.heap.size W W' ∧ v = .bool true :=
 (h.run (fun _ _ => none) (fun _ => False) W vals (fun _ h => h.elim) hA).mono fun _ _ ⟨v, _, e1, hp, hR⟩ => ⟨v, e1, hp.mod.grow, hR⟩
open Go.ChangeShapes Go.WideShapes Go.ChangeAt Go.RowKit Go.Deep
section
variable {H : Type} {enc : TypeId × Value → H} {W : World} {base : Nat} {v : Value} {d : DataW H} {ps : List MemPlace}
theorem LongC.at {n : Nat} {d : DataW H} {C : Nat → DataW H → Prop} (h : LongC n d C) : ∀ i, i < n → ∃ d', C i d' := fun i hi => by
 rcases h with ⟨rfl, _⟩ | ⟨D, _, _, k⟩
 ·omega
 ·exact ⟨D i, k i hi⟩
theorem opens_u8 {T : TypeId} (hT : Try.prog.underlying T = some (.int .u8)) : Opens enc W T 1 (fun z : Nat => .ex (.int .u8 (z : Int))) (fun z _ => z < 256) := by
 intro fuel cs x hx
 obtain ⟨p, hp, _, wp⟩ := DataW.trod_int hT hx
 have : 0 ≤ p ∧ p ≤ 255 := by simpa [Lit.wf, IntKind.min, IntKind.max, IntKind.signed, IntKind.bits] using wp
 exact ⟨p.toNat, .int .u8 p, hp, rfl, by simp [One, Value.cells, Value.oneCell'], by show Value.int .u8 p = .int .u8 ((p.toNat : Nat) : Int); rw [Int.toNat_of_nonneg this.1], by omega⟩
end
theorem opens_grid {H : Type} {enc : TypeId × Value → H} {W : World} : Opens enc W 24 2 (fun t : Nat × (Nat × (Nat → Nat × (Nat → Int × Int))) => .agg (.cn (.ex (.int .u8 ((t.1 : Nat) : Int))) (.cn (.sl 1 (fun i => rowS (t.2.2 i)) t.2.1) .nl))) (fun t d => ∃ d0 d1, d = .agg [d0, d1] ∧ t.1 < 256 ∧ LongC t.2.1 d1 fun i d' => RowC (t.2.2 i) d') :=
 opens_pair (s0 := 1) (s1 := 1) Try.underlying24 rfl rfl (by kernel_rfl) (by kernel_rfl) (by kernel_rfl) (opens_u8 Try.underlying5) opens_rows
section
variable {H : Type} {enc : TypeId × Value → H} {W : World} {base : Nat} {v : Value} {d : DataW H} {ps : List MemPlace}
theorem LongC.wf {n : Nat} {d : DataW H} {f : Nat → Nat} (h : LongC n d fun i _ => f i < 18446744073709551616) : Wf f n := fun i hi => by
 obtain ⟨_, k⟩ := h.at i hi
 exact k
theorem top_grid (hv : Value.okWide Try.prog W .any base 24 v) (h : DataW.Trod enc Try.prog W 0 (fun _ => true) true 24 v d ps) : ∃ (t : Nat × (Nat × (Nat → Nat × (Nat → Int × Int)))), R0 (.agg (.cn (.ex (.int .u8 ((t.1 : Nat) : Int))) (.cn (.sl 1 (fun i => rowS (t.2.2 i)) t.2.1) .nl))) W v ∧ t.1 < 256 ∧ ∀ r, r < t.2.1 → ∀ c, c < (t.2.2 r).1 → Wd64 ((t.2.2 r).2 c).1 ∧ Wd64 ((t.2.2 r).2 c).2 := by
 obtain ⟨t, hR, _, _, _, h8, hL⟩ := opens_aggV (E := fun t : Nat × (Nat × (Nat → Nat × (Nat → Int × Int))) => .cn (.ex (.int .u8 ((t.1 : Nat) : Int))) (.cn (.sl 1 (fun i => rowS (t.2.2 i)) t.2.1) .nl)) Try.underlying24 hv h opens_grid
 refine ⟨t, hR, h8, fun r hr c hc => ?_⟩
 obtain ⟨_, k⟩ := hL.at r hr
 obtain ⟨_, _, _, _, k2⟩ := k.at c hc
 exact k2
end
end Go.Proofs.Ytgighdoacajmfaa
