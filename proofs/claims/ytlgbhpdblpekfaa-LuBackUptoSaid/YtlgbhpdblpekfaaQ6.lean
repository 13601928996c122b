/- The parts SL, SA, SG, Det, Red, Lin, Ht, DetI, SE, Lu, SU, LuS, SCl. -/
import Derived.Test.YtlgbhpdblpekfaaQ5
namespace Go.Proofs.Ytlgbhpdblpekfaa
open Go.RowKit
theorem nw_small {x : Nat} (h : x < 18446744073709551616) : nw x ≤ 1 := nw_le_of h
theorem szq_small (p : Int) {d : Int} (hd : d ≠ 0) (h1 : -9223372036854775808 ≤ p) (h2 : p < 9223372036854775808) (h3 : -9223372036854775808 ≤ d) (h4 : d < 9223372036854775808) : szq (Rat.divInt p d) ≤ 2 := by
  have h := szq_divInt p d hd
  have n1 := nw_small (x := p.natAbs) (by omega)
  have n2 := nw_small (x := d.natAbs) (by omega)
  omega
theorem cmpV_zero (a b : Int) : decide (cmpV a b = 0) = decide (a = b) := by
  unfold cmpV
  by_cases h : a < b
  · have : a ≠ b := by omega
    simp [h, this]
  · by_cases e : a = b <;> simp [h, e]
theorem is_eq2 {q : Rat} {p d : Int} (hd : d ≠ 0) : (bif bif bif !decide (d = 0) then decide (q = Rat.divInt p d) else false then decide (cmpV q.num (Rat.divInt p d).num = 0) else false then decide (cmpV ((q.den : Nat) : Int) (((Rat.divInt p d).den : Nat) : Int) = 0) else false) = decide (q = Rat.divInt p d) := by
  rw [cmpV_zero, cmpV_zero, decide_eq_false hd]
  by_cases e : q = Rat.divInt p d
  · rw [decide_eq_true e]; subst e; simp
  · simp [e]
def litI (l : List Int) (i : Nat) : Int := l.getD i 0
def litLL (l : List (List Int)) (i j : Nat) : Int := (l.getD i []).getD j 0
instance (p : Int) : Decidable (Wd64 p) := inferInstanceAs (Decidable (_ ∧ _))
theorem szq_one {p d : Int} (hp : Wd64 p) (hd : Wd64 d) : szq (oneQ p d) ≤ 2 := by
  unfold oneQ
  split
  · have := szq_small p (d := 1) (by decide) hp.1 hp.2 (by decide) (by decide)
    have e : Rat.divInt p 1 = ((p : Int) : Rat) := by have := Rat.num_divInt_den (((p : Int) : Rat)); simpa using this
    rwa [e] at this
  · rename_i h
    exact szq_small p h hp.1 hp.2 hd.1 hd.2
set_option maxRecDepth 100000 in
theorem sIs {q : Rat} {p d : Int} (hd : d ≠ 0) (hp : Wd64 p) (hd2 : Wd64 d) (hs : szq q ≤ 8589934592) : CallOK Try.prog 42 [.rat q, .ex (.int .i64 p), .ex (.int .i64 d)] (.ex (.bool (decide (q = Rat.divInt p d)))) [] := by
  have hp1 := hp.1; have hp2 := hp.2; have hd3 := hd2.1; have hd4 := hd2.2; have hs2 := szq_small p hd hp1 hp2 hd3 hd4
  exact callOK_P (ch := [.reg 1 [(2, .callS (.cn (.rat (Rat.divInt p d)) (.cn (.ex (.bool (!decide (d = 0)))) (.nl))) [])], .reg 2 [(4, .callS (.ex (.bool (decide (q = (Rat.divInt p d))))) []), (8, .callS (.int q.num) []), (10, .callS (.int ((Rat.divInt p d).num)) []), (11, .callS (.ex (.int .i64 (cmpV q.num ((Rat.divInt p d).num)))) []), (16, .callS (.nat q.den) []), (18, .callS (.nat ((Rat.divInt p d).den)) []), (19, .callS (.ex (.int .i64 (cmpV ((q.den : Nat) : Int) (((Rat.divInt p d).den : Nat) : Int)))) [])]]) hMix Try.func42 rfl (by kernel_rfl) (by kernel_rfl) (let y1 := (bif (!decide (d = 0)) then (decide (q = (Rat.divInt p d))) else false); let y0 := (bif y1 then (decide ((cmpV q.num ((Rat.divInt p d).num) : Int) = 0)) else false); let y2 := ((!decide (d = 0)) == true); _ ∧ (y2 = true → y2 = true) ∧ (y2 = true → y2 = true) ∧ (y2 = true → _) ∧ ((!decide (d = 0)) = true → y2 = true) ∧ ((y1 == true) = true → (y1 == true) = true) ∧ ((y1 == true) = true → _) ∧ ((y1 == true) = true → (y1 == true) = true) ∧ ((y1 == true) = true → _) ∧ ((y1 == true) = true → (y1 == true) = true) ∧ ((y1 == true) = true → (y1 == true) = true) ∧ ((y1 == true) = true → _) ∧ ((y1 == true) = true → (y1 == true) = true) ∧ (y1 = true → (y1 == true) = true) ∧ ((y0 == true) = true → (y0 == true) = true) ∧ ((y0 == true) = true → _) ∧ ((y0 == true) = true → (y0 == true) = true) ∧ ((y0 == true) = true → _) ∧ ((y0 == true) = true → (y0 == true) = true) ∧ ((y0 == true) = true → (y0 == true) = true) ∧ ((y0 == true) = true → _) ∧ ((y0 == true) = true → (y0 == true) = true) ∧ (y0 = true → (y0 == true) = true) ∧ (((bif y0 then (decide ((cmpV ((q.den : Nat) : Int) (((Rat.divInt p d).den : Nat) : Int) : Int) = 0)) else false : Bool) = (decide (q = Rat.divInt p d))))) (by kernel_rfl)
    ⟨sRatOf (x := p) (y := d) (by omega) (by omega) (by omega) (by omega), ⟨id, ⟨id, ⟨(fun hg => sRatSame (p := q) (q := Rat.divInt p d) (by first | assumption | omega)), ⟨(by first | (simp; done) | (simp; omega)), ⟨id, ⟨(fun hg => sRatNum (q := q)), ⟨id, ⟨(fun hg => sRatNum (q := Rat.divInt p d)), ⟨id, ⟨id, ⟨(fun hg => sIntCmp (y := q.num) (z := (Rat.divInt p d).num)), ⟨id, ⟨(by first | (simp; done) | (simp; omega)), ⟨id, ⟨(fun hg => sRatDen (q := q)), ⟨id, ⟨(fun hg => sRatDen (q := Rat.divInt p d)), ⟨id, ⟨id, ⟨(fun hg => sNatCmp (x := q.den) (y := (Rat.divInt p d).den)), ⟨id, ⟨(by first | (simp; done) | (simp; omega)), (is_eq2 hd)⟩⟩⟩⟩⟩⟩⟩⟩⟩⟩⟩⟩⟩⟩⟩⟩⟩⟩⟩⟩⟩⟩⟩
set_option maxRecDepth 100000 in
theorem sMake {p d : Nat → Int} {n : Nat} (hn : n ≤ 68719476736) (h : ∀ i, i < n → Wd64 (p i) ∧ Wd64 (d i)) : CallOK Try.prog 23 [.sl 2 (fun i0 => .agg (.cn (.ex (.int .i64 (p i0))) (.cn (.ex (.int .i64 (d i0))) (.nl)))) n] (.own 0 0) [.one (.row 36 3 (fun i0 => .rat (oneQ (p i0) (d i0))) n)] := by
  exact callOK_P (ch := [.loop 3 (Nat) (fun g => g ≤ n) (fun g => n - g) (fun g => ⟨[(0, .sl 2 (fun i0 => .agg (.cn (.ex (.int .i64 (p i0))) (.cn (.ex (.int .i64 (d i0))) (.nl)))) n), (3, .own 0 0), (4, .ex (.int .i64 ((g : Nat) : Int)))], [(0, .one (.row 36 3 (fun i0 => .rat (oneQ (p i0) (d i0))) g))], 1⟩) [(0, .nil)] (fun _ => [(0, .id 1)]) (fun g => [.reg 5 [(3, .k g), (5, .callS (.rat (oneQ (p g) (d g))) []), (7, .row 0 (fun i0 => .rat (oneQ (p i0) (d i0))))], .reg 4 [(1, .z ((g + 1 : Nat) : Int))], .ret 6 [(0, .id 0)]])]) hMix Try.func23 rfl (by kernel_rfl) (by kernel_rfl) ((∀ j0, j0 < n → True) ∧ (((fun X1 X2 X3 : Prop => ∃ g0 : Nat, X1 ∧ X2 ∧ X3 ∧ ((0 : Int) = ((g0 : Nat) : Int)) ∧ ((g0 : Nat) = 0) ∧ (g0 ≤ n)) _ _ _) ∧ ∀ g : Nat, (g ≤ n) → (((decide (((g : Nat) : Int) < ((n : Nat) : Int))) = true → _ ∧ (g < n) ∧ _ ∧ (g + 1 ≤ 68719476736) ∧ _ ∧ _ ∧ _ ∧ ((fun X1 X2 X3 X4 : Prop => ∃ g1 : Nat, X1 ∧ X2 ∧ X3 ∧ (((g + 1 : Nat) : Int) = ((g1 : Nat) : Int)) ∧ ((g + 1 : Nat) = g1) ∧ X4 ∧ (g1 ≤ n) ∧ (n - g1 < n - g)) _ _ _ _)) ∧ ((decide (((g : Nat) : Int) < ((n : Nat) : Int))) = false → (_ ∧ ((g : Nat) = n) ∧ _))))) (by kernel_rfl)
    ⟨(fun _ _ => trivial), ⟨⟨0, (rf n), (leS (fun i0 => .agg (.cn (.ex (.int .i64 (p i0))) (.cn (.ex (.int .i64 (d i0))) (.nl)))) n), (rf 0), (by omega), (by omega), (by omega)⟩, fun g hg => ⟨fun hc8 => have hc8 := of_decide_eq_true hc8; have hg2 := h g (by omega); ⟨(rf ((g : Nat) : Int)), ⟨(by omega), ⟨sOne (p := p g) (d := d g) hg2.1 hg2.2, ⟨(by omega), ⟨(oldS (fun i0 => .rat (oneQ (p i0) (d i0))) g), ⟨(newS (fun i0 => .rat (oneQ (p i0) (d i0))) g), ⟨(wI (g := g) (by omega)), ⟨g + 1, (rf n), (leS (fun i0 => .agg (.cn (.ex (.int .i64 (p i0))) (.cn (.ex (.int .i64 (d i0))) (.nl)))) n), (rf 0), (by omega), (by omega), (leS (fun i0 => .rat (oneQ (p i0) (d i0))) (g + 1)), (by omega), (by omega)⟩⟩⟩⟩⟩⟩⟩⟩, fun hc8 => have hc8 := of_decide_eq_false hc8; have hi2 : g = n := (by omega); ⟨(rf 0), (by omega), (leS (fun i0 => .rat (oneQ (p i0) (d i0))) g)⟩⟩⟩⟩
open Go.RowKit
def uptoR (g : Nat) (q : Nat → Nat → Rat) (r c : Nat) : Rat := if r < g then q r c else 0
theorem uptoR_at {g c : Nat} {q : Nat → Nat → Rat} : uptoR (g + 1) q g c = q g c := if_pos (Nat.lt_succ_self g)
theorem uptoR_ne {g t c : Nat} {q : Nat → Nat → Rat} (h : t ≠ g) : uptoR (g + 1) q t c = uptoR g q t c := by
  unfold uptoR
  by_cases h1 : t < g
  · rw [if_pos h1, if_pos (by omega)]
  · rw [if_neg h1, if_neg (by omega)]
theorem uptoR_zero {t c : Nat} {q : Nat → Nat → Rat} : uptoR 0 q t c = 0 := if_neg (Nat.not_lt_zero t)
theorem uptoR_self {g c : Nat} {q : Nat → Nat → Rat} : uptoR g q g c = 0 := if_neg (Nat.lt_irrefl g)
theorem rows_step {p q : Nat → Nat → Rat} {g n : Nat} (h : ∀ r : Nat, r < g → ∀ c : Nat, c < n → p r c = q r c) (e : ∀ c : Nat, c < n → p g c = q g c) : ∀ r : Nat, r < g + 1 → ∀ c : Nat, c < n → p r c = q r c := fun r hr => by
  by_cases hrg : r = g
  · subst hrg; exact e
  · exact h r (by omega)
theorem dims_no {n l m k : Nat} (h : (bif !decide (((n : Nat) : Int) = ((l : Nat) : Int)) then true else !decide (((m : Nat) : Int) = ((k : Nat) : Int))) = true) : ¬ (n = l ∧ m = k) := by
  rintro ⟨rfl, rfl⟩
  simp at h
theorem dims_yes {n l m k : Nat} (h : (bif !decide (((n : Nat) : Int) = ((l : Nat) : Int)) then true else !decide (((m : Nat) : Int) = ((k : Nat) : Int))) = false) : n = l ∧ m = k := by
  by_cases e : n = l
  · subst e
    by_cases e2 : m = k
    · exact ⟨rfl, e2⟩
    · have : ¬ (((m : Nat) : Int) = ((k : Nat) : Int)) := by omega
      simp [this] at h
  · have : ¬ (((n : Nat) : Int) = ((l : Nat) : Int)) := by omega
    simp [this] at h
theorem same_no {P : Prop} [Decidable P] (h : (!decide P) = true) : ¬ P := by simpa using h
theorem same_yes {P : Prop} [Decidable P] (h : (!decide P) = false) : P := by simpa using h
def idQ (r c : Nat) : Rat := if r = c then 1 else 0
theorem idQ_ne {r c : Nat} (h : c ≠ r) : idQ r c = 0 := if_neg fun e => h e.symm
theorem uptoR_all {g t c : Nat} {q : Nat → Nat → Rat} (h : t < g) : uptoR g q t c = q t c := if_pos h
set_option maxRecDepth 100000 in
theorem sMatNew {m n : Nat} (hm : m ≤ 64) (hn : n ≤ 64) : CallOK Try.prog 90 [.ex (.int .i64 ((m : Nat) : Int)), .ex (.int .i64 ((n : Nat) : Int))] (.cn (.agg (.cn (.own 0 0) (.cn (.ex (.int .i64 ((n : Nat) : Int))) (.nl)))) (.cn (.ex (.bool true)) (.nl))) [.one (.row 48 1 (fun i0 => .own 1 i0) m), .fam m (fun _ => .row 36 3 (fun _ => .rat 0) n)] := by
  exact callOK_P (ch := [.dec 20 false, .loop 5 (Nat) (fun g => g ≤ m) (fun g => m - g) (fun g => ⟨[(1, .ex (.int .i64 ((n : Nat) : Int))), (4, .own 0 0), (6, .own 1 0), (24, .ex (.int .i64 ((m : Nat) : Int))), (25, .ex (.int .i64 ((g : Nat) : Int)))], [(0, .one (.var 28 (.ex (.agg #[.slice none 0 0, .int .i64 0])))), (1, .one (.var 28 (.agg (.cn (.own 2 0) (.cn (.ex (.int .i64 ((n : Nat) : Int))) (.nl)))))), (2, .one (.row 48 1 (fun i0 => .own 3 i0) g)), (3, .fam g (fun _ => .row 36 3 (fun _ => .rat 0) n))], 4⟩) [(0, .id 0), (1, .id 1), (2, .nil), (3, .emp)] (fun g => [(0, .id 0), (1, .id 1), (2, .id 5), (3, .put 3 g 4)]) (fun g => [.reg 6 [(3, .row n (fun _ => .rat 0)), (5, .row 0 (fun i0 => .own (if i0 < g then 3 else 4) (if i0 < g then i0 else 0)))], .reg 7 [(0, .z ((g + 1 : Nat) : Int))], .ret 8 [(0, .id 2), (1, .id 3)]])]) hMix Try.func90 rfl (by kernel_rfl) (by kernel_rfl) (let y2 := (decide (((m : Nat) : Int) < 0)); let y0 := (bif y2 then true else (decide ((64 : Int) < ((m : Nat) : Int)))); let y1 := (bif y0 then true else (decide (((n : Nat) : Int) < 0))); ((y2 == false) = true → (y2 == false) = true) ∧ ((!y2) = true → (y2 == false) = true) ∧ ((y0 == false) = true → (y0 == false) = true) ∧ ((!y0) = true → (y0 == false) = true) ∧ ((y1 == false) = true → (y1 == false) = true) ∧ ((!y1) = true → (y1 == false) = true) ∧ ((bif y1 then true else (decide ((64 : Int) < ((n : Nat) : Int)))) = false) ∧ (((fun X1 X2 X3 X4 X5 X6 : Prop => ∃ g0 : Nat, X1 ∧ X2 ∧ X3 ∧ X4 ∧ ((0 : Int) = ((g0 : Nat) : Int)) ∧ ((.agg #[.slice none 0 0, .int .i64 0] : Value) = .agg #[.slice none 0 0, .int .i64 0]) ∧ X5 ∧ X6 ∧ ((g0 : Nat) = 0) ∧ ((g0 : Nat) = 0) ∧ (g0 ≤ m)) _ _ _ _ _ _) ∧ ∀ g : Nat, (g ≤ m) → (((decide (((g : Nat) : Int) < ((m : Nat) : Int))) = true → _ ∧ _ ∧ (n ≤ 68719476736) ∧ (∀ j0, j0 < n → ((0 : Rat) = 0)) ∧ (g + 1 ≤ 68719476736) ∧ (∀ j0, j0 < g → (.own (if j0 < g then 3 else 4) (if j0 < g then j0 else 0) : SV) = .own 3 j0) ∧ (∀ j0, j0 < 1 → ((4 : Nat) = (if g + j0 < g then 3 else 4)) ∧ ((0 : Nat) = (if g + j0 < g then g + j0 else 0))) ∧ _ ∧ ((fun X1 X2 X3 X4 X5 X6 X7 : Prop => ∃ g1 : Nat, X1 ∧ X2 ∧ X3 ∧ X4 ∧ (((g + 1 : Nat) : Int) = ((g1 : Nat) : Int)) ∧ ((.agg #[.slice none 0 0, .int .i64 0] : Value) = .agg #[.slice none 0 0, .int .i64 0]) ∧ X5 ∧ X6 ∧ ((g + 1 : Nat) = g1) ∧ (∀ j0, j0 < (g + 1) → (((if j0 < g then 3 else 4 : Nat) = 4 ∧ (if j0 < g then j0 else 0 : Nat) = 0 ∧ (j0 : Nat) = g) ∨ ((if j0 < g then 3 else 4 : Nat) = 3 ∧ (if j0 < g then j0 else 0 : Nat) = j0 ∧ (j0 : Nat) ≠ g))) ∧ ((g1 : Nat) = g + 1) ∧ X7 ∧ (((n : Nat) = n) ∧ (∀ j1, j1 < n → ((0 : Rat) = 0))) ∧ (∀ j0, j0 < g → ((n : Nat) = n) ∧ (∀ j1, j1 < n → ((0 : Rat) = 0))) ∧ (g1 ≤ m) ∧ (m - g1 < m - g)) _ _ _ _ _ _ _)) ∧ ((decide (((g : Nat) : Int) < ((m : Nat) : Int))) = false → (_ ∧ _ ∧ _ ∧ ((g : Nat) = m) ∧ (∀ j0, j0 < g → ((j0 : Nat) = j0)) ∧ ((g : Nat) = m) ∧ (∀ j0, j0 < g → ((n : Nat) = n) ∧ (∀ j1, j1 < n → ((0 : Rat) = 0)))))))) (by kernel_rfl)
    ⟨id, ⟨(by first | (simp; done) | (simp; omega)), ⟨id, ⟨(by first | (simp; done) | (simp; omega)), ⟨id, ⟨(by first | (simp; done) | (simp; omega)), ⟨(by simp; omega), ⟨⟨0, (rf ((n : Nat) : Int)), (rf 0), (rf 0), (rf ((m : Nat) : Int)), (by omega), rfl, (rf 0), (rf ((n : Nat) : Int)), (by omega), (by omega), (by omega)⟩, fun g hg => ⟨fun hc26 => have hc26 := of_decide_eq_true hc26; ⟨(rf ((n : Nat) : Int)), ⟨(rf ((n : Nat) : Int)), ⟨(by omega), ⟨(fun j0 hj0 => rfl), ⟨(by omega), ⟨(fun j0 hj0 => by rw [if_pos hj0, if_pos hj0]), ⟨(fun j0 hj0 => ⟨(by rw [if_neg (by omega)]), (by rw [if_neg (by omega)])⟩), ⟨(wI (g := g) (by omega)), ⟨g + 1, (rf ((n : Nat) : Int)), (rf 0), (rf 0), (rf ((m : Nat) : Int)), (by omega), rfl, (rf 0), (rf ((n : Nat) : Int)), (by omega), (fun j0 hj0 => (by first | omega | (split <;> omega))), (by omega), (rf g), ⟨rfl, (fun j1 hj1 => rfl)⟩, (fun j0 hj0 => ⟨rfl, (fun j1 hj1 => rfl)⟩), (by omega), (by omega)⟩⟩⟩⟩⟩⟩⟩⟩⟩, fun hc26 => have hc26 := of_decide_eq_false hc26; have hi2 : g = m := (by omega); ⟨(rf 0), (rf ((n : Nat) : Int)), (rf (true : Bool)), (by omega), (fun j0 hj0 => rfl), (by omega), (fun j0 hj0 => ⟨rfl, (fun j1 hj1 => rfl)⟩)⟩⟩⟩⟩⟩⟩⟩⟩⟩⟩
set_option maxRecDepth 100000 in
theorem sMatOf {q : Nat → Nat → Rat} {m n : Nat} (hm : m ≤ 64) (hn : n ≤ 64) : CallOK Try.prog 61 [.ex (.int .i64 ((n : Nat) : Int)), .sl 1 (fun i0 => .sl 3 (fun i1 => .rat (q i0 i1)) n) m] (.cn (.agg (.cn (.sl 1 (fun i0 => .sl 3 (fun i1 => .rat (q i0 i1)) n) m) (.cn (.ex (.int .i64 ((n : Nat) : Int))) (.nl)))) (.cn (.ex (.bool true)) (.nl))) [] := by
  exact callOK_P (ch := [.reg 1 [(3, .callS (.cn (.agg (.cn (.own 0 0) (.cn (.ex (.int .i64 ((n : Nat) : Int))) (.nl)))) (.cn (.ex (.bool true)) (.nl))) [.one (.row 48 1 (fun i0 => .own 1 i0) m), .fam m (fun _ => .row 36 3 (fun _ => .rat 0) n)])], .dec 18 false, .loop 5 (Nat) (fun g => g ≤ m) (fun g => m - g) (fun g => ⟨[(0, .ex (.int .i64 ((n : Nat) : Int))), (4, .own 0 0), (6, .own 3 0), (20, .sl 1 (fun i0 => .sl 3 (fun i1 => .rat (q i0 i1)) n) m), (21, .ex (.int .i64 ((m : Nat) : Int))), (22, .ex (.int .i64 ((g : Nat) : Int)))], [(0, .one (.var 28 (.ex (.agg #[.slice none 0 0, .int .i64 0])))), (1, .one (.row 48 1 (fun i0 => .own 2 i0) m)), (2, .fam m (fun i0 => .row 36 3 (fun i1 => .rat (uptoR g q i0 i1)) n)), (3, .one (.var 28 (.agg (.cn (.own 1 0) (.cn (.ex (.int .i64 ((n : Nat) : Int))) (.nl))))))], 4⟩) [(0, .id 0), (1, .id 1), (2, .id 2), (3, .id 3)] (fun _ => [(0, .id 0), (1, .id 1), (2, .id 2), (3, .id 3)]) (fun g => [.reg 6 [(1, .k g)], .dec 30 false, .reg 9 [(3, .k g), (6, .rowF (fun i0 => .rat (uptoR (g + 1) q g i0)) (fun i0 => .row 36 3 (fun i1 => .rat (uptoR (g + 1) q i0 i1)) n))], .reg 10 [(0, .z ((g + 1 : Nat) : Int))]])]) hMix Try.func61 rfl (by kernel_rfl) (by kernel_rfl) ((∀ j0, j0 < m → (∀ j1, j1 < n → True)) ∧ _ ∧ ((!true) = false) ∧ (((fun X1 X2 X3 X4 X5 X6 X7 X8 X9 X10 : Prop => ∃ g0 : Nat, X1 ∧ X2 ∧ X3 ∧ X4 ∧ X5 ∧ X6 ∧ ((0 : Int) = ((g0 : Nat) : Int)) ∧ ((.agg #[.slice none 0 0, .int .i64 0] : Value) = .agg #[.slice none 0 0, .int .i64 0]) ∧ X7 ∧ (∀ j0, j0 < m → ((j0 : Nat) = j0)) ∧ X8 ∧ (∀ j0, j0 < m → ((n : Nat) = n) ∧ (∀ j1, j1 < n → ((0 : Rat) = (uptoR g0 q j0 j1)))) ∧ X9 ∧ X10 ∧ (g0 ≤ m)) _ _ _ _ _ _ _ _ _ _) ∧ ∀ g : Nat, (g ≤ m) → (((decide (((g : Nat) : Int) < ((m : Nat) : Int))) = true → _ ∧ (g < m) ∧ ((!decide (((n : Nat) : Int) = ((n : Nat) : Int))) = false) ∧ _ ∧ (g < m) ∧ (g < m) ∧ (n ≤ n) ∧ (∀ j0, j0 < n → n ≤ j0 → (.rat (uptoR (g + 1) q g j0) : SV) = .rat (uptoR g q g j0)) ∧ (∀ j0, j0 < n → ((q g j0 : Rat) = (uptoR (g + 1) q g j0))) ∧ (g < m) ∧ ((.row 36 3 (fun i0 => .rat (uptoR (g + 1) q g i0)) n : OB) = .row 36 3 (fun i0 => .rat (uptoR (g + 1) q g i0)) n) ∧ (∀ t, t < m → t ≠ g → (.row 36 3 (fun i0 => .rat (uptoR (g + 1) q t i0)) n : OB) = .row 36 3 (fun i0 => .rat (uptoR g q t i0)) n) ∧ _ ∧ ((fun X1 X2 X3 X4 X5 X6 X7 X8 X9 X10 : Prop => ∃ g1 : Nat, X1 ∧ X2 ∧ X3 ∧ X4 ∧ X5 ∧ X6 ∧ (((g + 1 : Nat) : Int) = ((g1 : Nat) : Int)) ∧ ((.agg #[.slice none 0 0, .int .i64 0] : Value) = .agg #[.slice none 0 0, .int .i64 0]) ∧ X7 ∧ (∀ j0, j0 < m → ((j0 : Nat) = j0)) ∧ X8 ∧ (∀ j0, j0 < m → ((n : Nat) = n) ∧ (∀ j1, j1 < n → ((uptoR (g + 1) q j0 j1 : Rat) = (uptoR g1 q j0 j1)))) ∧ X9 ∧ X10 ∧ (g1 ≤ m) ∧ (m - g1 < m - g)) _ _ _ _ _ _ _ _ _ _)) ∧ ((decide (((g : Nat) : Int) < ((m : Nat) : Int))) = false → (_ ∧ (∀ j0, j0 < m → ((n : Nat) = n) ∧ (∀ j1, j1 < n → ((uptoR g q j0 j1 : Rat) = (q j0 j1))) ∧ (j0 < m)) ∧ _ ∧ _))))) (by kernel_rfl)
    ⟨(fun _ _ => (fun _ _ => trivial)), ⟨sMatNew (m := m) (n := n) (by omega) (by omega), ⟨rfl, ⟨⟨0, (rf ((n : Nat) : Int)), (rf 0), (rf 0), (rf m), (leS (fun i0 => .sl 3 (fun i1 => .rat (q i0 i1)) n) m), (rf ((m : Nat) : Int)), (by omega), rfl, (rf m), (fun j0 hj0 => rfl), (rf m), (fun j0 hj0 => ⟨rfl, (fun j1 hj1 => (by rw [uptoR_zero]))⟩), (rf 0), (rf ((n : Nat) : Int)), (by omega)⟩, fun g hg => ⟨fun hc23 => have hc23 := of_decide_eq_true hc23; ⟨(rf ((g : Nat) : Int)), ⟨(by omega), ⟨(by simp), ⟨(rf ((g : Nat) : Int)), ⟨(by omega), ⟨(by omega), ⟨(by omega), ⟨(fun j0 hj0 hm => absurd hj0 (Nat.not_lt.2 hm)), ⟨(fun j0 hj0 => (by rw [uptoR_at])), ⟨(by omega), ⟨rfl, ⟨(fun t ht hne => by simp only [uptoR_ne hne]), ⟨(wI (g := g) (by omega)), ⟨g + 1, (rf ((n : Nat) : Int)), (rf 0), (rf 0), (rf m), (leS (fun i0 => .sl 3 (fun i1 => .rat (q i0 i1)) n) m), (rf ((m : Nat) : Int)), (by omega), rfl, (rf m), (fun j0 hj0 => rfl), (rf m), (fun j0 hj0 => ⟨rfl, (fun j1 hj1 => rfl)⟩), (rf 0), (rf ((n : Nat) : Int)), (by omega), (by omega)⟩⟩⟩⟩⟩⟩⟩⟩⟩⟩⟩⟩⟩⟩, fun hc23 => have hc23 := of_decide_eq_false hc23; have hi2 : g = m := (by omega); ⟨(rf m), (fun j0 hj0 => ⟨rfl, (fun j1 hj1 => (by rw [hi2]; exact uptoR_all (by omega))), (by omega)⟩), (rf ((n : Nat) : Int)), (rf (true : Bool))⟩⟩⟩⟩⟩⟩
set_option maxRecDepth 100000 in
theorem sMatOne {n : Nat} (hn : n ≤ 64) : CallOK Try.prog 71 [.ex (.int .i64 ((n : Nat) : Int))] (.cn (.agg (.cn (.sl 1 (fun i0 => .sl 3 (fun i1 => .rat (idQ i0 i1)) n) n) (.cn (.ex (.int .i64 ((n : Nat) : Int))) (.nl)))) (.cn (.ex (.bool true)) (.nl))) [] := by
  exact callOK_P (ch := [.reg 1 [(2, .callS (.cn (.agg (.cn (.own 0 0) (.cn (.ex (.int .i64 ((n : Nat) : Int))) (.nl)))) (.cn (.ex (.bool true)) (.nl))) [.one (.row 48 1 (fun i0 => .own 1 i0) n), .fam n (fun _ => .row 36 3 (fun _ => .rat 0) n)])], .loop 3 (Nat) (fun g => g ≤ n) (fun g => n - g) (fun g => ⟨[(2, .own 0 0), (4, .own 3 0), (5, .ex (.bool true)), (15, .ex (.int .i64 ((n : Nat) : Int))), (16, .ex (.int .i64 ((g : Nat) : Int)))], [(0, .one (.var 28 (.ex (.agg #[.slice none 0 0, .int .i64 0])))), (1, .one (.row 48 1 (fun i0 => .own 2 i0) n)), (2, .fam n (fun i0 => .row 36 3 (fun i1 => .rat (uptoR g idQ i0 i1)) n)), (3, .one (.var 28 (.agg (.cn (.own 1 0) (.cn (.ex (.int .i64 ((n : Nat) : Int))) (.nl))))))], 4⟩) [(0, .id 0), (1, .id 1), (2, .id 2), (3, .id 3)] (fun _ => [(0, .id 0), (1, .id 1), (2, .id 2), (3, .id 3)]) (fun g => [.reg 5 [(3, .k g), (6, .callS (.rat ((1 : Int) : Rat)) []), (7, .k g), (8, .rowF (fun i0 => .rat (uptoR (g + 1) idQ g i0)) (fun i0 => .row 36 3 (fun i1 => .rat (uptoR (g + 1) idQ i0 i1)) n))], .reg 6 [(0, .z ((g + 1 : Nat) : Int))]])]) hMix Try.func71 rfl (by kernel_rfl) (by kernel_rfl) (_ ∧ (((fun X1 X2 X3 X4 X5 X6 X7 X8 : Prop => ∃ g0 : Nat, X1 ∧ X2 ∧ X3 ∧ X4 ∧ ((0 : Int) = ((g0 : Nat) : Int)) ∧ ((.agg #[.slice none 0 0, .int .i64 0] : Value) = .agg #[.slice none 0 0, .int .i64 0]) ∧ X5 ∧ (∀ j0, j0 < n → ((j0 : Nat) = j0)) ∧ X6 ∧ (∀ j0, j0 < n → ((n : Nat) = n) ∧ (∀ j1, j1 < n → ((0 : Rat) = (uptoR g0 idQ j0 j1)))) ∧ X7 ∧ X8 ∧ (g0 ≤ n)) _ _ _ _ _ _ _ _) ∧ ∀ g : Nat, (g ≤ n) → (((decide (((g : Nat) : Int) < ((n : Nat) : Int))) = true → _ ∧ (g < n) ∧ (g < n) ∧ _ ∧ _ ∧ (g < n) ∧ (g < n) ∧ (g < n) ∧ (((((1 : Int) : Rat) : Rat) = (uptoR (g + 1) idQ g g))) ∧ (∀ t, t < n → t ≠ g → (.rat (uptoR (g + 1) idQ g t) : SV) = .rat (uptoR g idQ g t)) ∧ (g < n) ∧ ((.row 36 3 (fun i0 => .rat (uptoR (g + 1) idQ g i0)) n : OB) = .row 36 3 (fun i0 => .rat (uptoR (g + 1) idQ g i0)) n) ∧ (∀ t, t < n → t ≠ g → (.row 36 3 (fun i0 => .rat (uptoR (g + 1) idQ t i0)) n : OB) = .row 36 3 (fun i0 => .rat (uptoR g idQ t i0)) n) ∧ _ ∧ ((fun X1 X2 X3 X4 X5 X6 X7 X8 : Prop => ∃ g1 : Nat, X1 ∧ X2 ∧ X3 ∧ X4 ∧ (((g + 1 : Nat) : Int) = ((g1 : Nat) : Int)) ∧ ((.agg #[.slice none 0 0, .int .i64 0] : Value) = .agg #[.slice none 0 0, .int .i64 0]) ∧ X5 ∧ (∀ j0, j0 < n → ((j0 : Nat) = j0)) ∧ X6 ∧ (∀ j0, j0 < n → ((n : Nat) = n) ∧ (∀ j1, j1 < n → ((uptoR (g + 1) idQ j0 j1 : Rat) = (uptoR g1 idQ j0 j1)))) ∧ X7 ∧ X8 ∧ (g1 ≤ n) ∧ (n - g1 < n - g)) _ _ _ _ _ _ _ _)) ∧ ((decide (((g : Nat) : Int) < ((n : Nat) : Int))) = false → (_ ∧ (∀ j0, j0 < n → ((n : Nat) = n) ∧ (∀ j1, j1 < n → ((uptoR g idQ j0 j1 : Rat) = (idQ j0 j1))) ∧ (j0 < n)) ∧ _ ∧ _))))) (by kernel_rfl)
    ⟨sMatNew (m := n) (n := n) (by omega) (by omega), ⟨⟨0, (rf 0), (rf 0), (rf (true : Bool)), (rf ((n : Nat) : Int)), (by omega), rfl, (rf n), (fun j0 hj0 => rfl), (rf n), (fun j0 hj0 => ⟨rfl, (fun j1 hj1 => (by rw [uptoR_zero]))⟩), (rf 0), (rf ((n : Nat) : Int)), (by omega)⟩, fun g hg => ⟨fun hc17 => have hc17 := of_decide_eq_true hc17; ⟨(rf ((g : Nat) : Int)), ⟨(by omega), ⟨(by omega), ⟨sRatInt (x := 1) (by omega) (by omega), ⟨(rf ((g : Nat) : Int)), ⟨(by omega), ⟨(by omega), ⟨(by omega), ⟨(by rw [uptoR_at, idQ, if_pos rfl]; rfl), ⟨(fun t ht hne => by simp only [uptoR_at, idQ_ne hne, uptoR_self]), ⟨(by omega), ⟨rfl, ⟨(fun t ht hne => by simp only [uptoR_ne hne]), ⟨(wI (g := g) (by omega)), ⟨g + 1, (rf 0), (rf 0), (rf (true : Bool)), (rf ((n : Nat) : Int)), (by omega), rfl, (rf n), (fun j0 hj0 => rfl), (rf n), (fun j0 hj0 => ⟨rfl, (fun j1 hj1 => rfl)⟩), (rf 0), (rf ((n : Nat) : Int)), (by omega), (by omega)⟩⟩⟩⟩⟩⟩⟩⟩⟩⟩⟩⟩⟩⟩⟩, fun hc17 => have hc17 := of_decide_eq_false hc17; have hi2 : g = n := (by omega); ⟨(rf n), (fun j0 hj0 => ⟨rfl, (fun j1 hj1 => (by rw [hi2]; exact uptoR_all (by omega))), (by omega)⟩), (rf ((n : Nat) : Int)), (rf (true : Bool))⟩⟩⟩⟩
set_option maxRecDepth 100000 in
theorem sMatBy {q : Nat → Nat → Rat} {v : Nat → Rat} {m n : Nat} (hm : m ≤ 68719476736) (hn : n ≤ 68719476736) (hs : ∀ t, t < m → ∀ i, i < n → szq (v t) + szq (q t i) ≤ 17179869184 ∧ szq (dotQ v (fun r => q r i) t) + szq (v t * q t i) ≤ 17179869184) : CallOK Try.prog 47 [.agg (.cn (.sl 1 (fun i0 => .sl 3 (fun i1 => .rat (q i0 i1)) n) m) (.cn (.ex (.int .i64 ((n : Nat) : Int))) (.nl))), .sl 3 (fun i0 => .rat (v i0)) m] (.cn (.sl 3 (fun i0 => .rat (dotQ v (fun r => q r i0) m)) n) (.cn (.ex (.bool true)) (.nl))) [] := by
  exact callOK_P (ch := [.dec 14 false, .reg 3 [(2, .row n (fun _ => .rat 0))], .loop 5 (Nat) (fun g => g ≤ m) (fun g => m - g) (fun g => ⟨[(1, .sl 3 (fun i0 => .rat (v i0)) m), (6, .sl 3 (fun i0 => .rat (dotQ v (fun r => q r i0) g)) n), (19, .sl 1 (fun i0 => .sl 3 (fun i1 => .rat (q i0 i1)) n) m), (20, .ex (.int .i64 ((m : Nat) : Int))), (21, .ex (.int .i64 ((g : Nat) : Int)))], [], 2⟩) [] (fun _ => []) (fun g => [.reg 6 [(1, .k g)], .reg 7 [(3, .k g), (6, .callS (.cn (.sl 3 (fun i0 => .rat ((dotQ v (fun r => q r i0) g) + (v g) * (q g i0))) n) (.cn (.ex (.bool true)) (.nl))) [])], .reg 8 [(0, .z ((g + 1 : Nat) : Int))]])]) hMix Try.func47 rfl (by kernel_rfl) (by kernel_rfl) ((∀ j0, j0 < m → (∀ j1, j1 < n → True)) ∧ (∀ j0, j0 < m → True) ∧ ((!decide (((m : Nat) : Int) = ((m : Nat) : Int))) = false) ∧ _ ∧ _ ∧ (n ≤ 68719476736) ∧ (∀ j0, j0 < n → ((0 : Rat) = 0)) ∧ (((fun X1 X2 X3 X4 X5 X6 : Prop => ∃ g0 : Nat, X1 ∧ X2 ∧ X3 ∧ (∀ j0, j0 < n → ((0 : Rat) = (dotQ v (fun r => q r j0) g0))) ∧ X4 ∧ X5 ∧ X6 ∧ ((0 : Int) = ((g0 : Nat) : Int)) ∧ (g0 ≤ m)) _ _ _ _ _ _) ∧ ∀ g : Nat, (g ≤ m) → (((decide (((g : Nat) : Int) < ((m : Nat) : Int))) = true → _ ∧ (g < m) ∧ _ ∧ (g < m) ∧ _ ∧ _ ∧ ((fun X1 X2 X3 X4 X5 X6 : Prop => ∃ g1 : Nat, X1 ∧ X2 ∧ X3 ∧ (∀ j0, j0 < n → (((dotQ v (fun r => q r j0) g) + (v g) * (q g j0) : Rat) = (dotQ v (fun r => q r j0) g1))) ∧ X4 ∧ X5 ∧ X6 ∧ (((g + 1 : Nat) : Int) = ((g1 : Nat) : Int)) ∧ (g1 ≤ m) ∧ (m - g1 < m - g)) _ _ _ _ _ _)) ∧ ((decide (((g : Nat) : Int) < ((m : Nat) : Int))) = false → (_ ∧ (∀ j0, j0 < n → ((dotQ v (fun r => q r j0) g : Rat) = (dotQ v (fun r => q r j0) m))) ∧ _))))) (by kernel_rfl)
    ⟨(fun _ _ => (fun _ _ => trivial)), ⟨(fun _ _ => trivial), ⟨(by simp), ⟨(rf ((n : Nat) : Int)), ⟨(rf ((n : Nat) : Int)), ⟨(by omega), ⟨(fun j0 hj0 => rfl), ⟨⟨0, (rf m), (leS (fun i0 => .rat (v i0)) m), (rf n), (fun j0 hj0 => rfl), (rf m), (leS (fun i0 => .sl 3 (fun i1 => .rat (q i0 i1)) n) m), (rf ((m : Nat) : Int)), (by omega), (by omega)⟩, fun g hg => ⟨fun hc22 => have hc22 := of_decide_eq_true hc22; have hg2 := hs g (by omega); ⟨(rf ((g : Nat) : Int)), ⟨(by omega), ⟨(rf ((g : Nat) : Int)), ⟨(by omega), ⟨(sVecAddTimes (a := fun i0 => dotQ v (fun r => q r i0) g) (b := q g) (n := n) (r := v g) (by omega) hg2).frzV2, ⟨(wI (g := g) (by omega)), ⟨g + 1, (rf m), (leS (fun i0 => .rat (v i0)) m), (rf n), (fun j0 hj0 => rfl), (rf m), (leS (fun i0 => .sl 3 (fun i1 => .rat (q i0 i1)) n) m), (rf ((m : Nat) : Int)), (by omega), (by omega), (by omega)⟩⟩⟩⟩⟩⟩⟩, fun hc22 => have hc22 := of_decide_eq_false hc22; have hi2 : g = m := (by omega); ⟨(rf n), (fun j0 hj0 => (by rw [hi2])), (rf (true : Bool))⟩⟩⟩⟩⟩⟩⟩⟩⟩⟩
set_option maxRecDepth 100000 in
theorem sMatSame {p q : Nat → Nat → Rat} {m n k l : Nat} (hm : m ≤ 68719476736) (hn : n ≤ 68719476736) (hs : n = l → m = k → ∀ r, r < m → ∀ c, c < n → c < l → szq (p r c) + szq (q r c) ≤ 17179869184) : CallOK Try.prog 53 [.agg (.cn (.sl 1 (fun i0 => .sl 3 (fun i1 => .rat (p i0 i1)) n) m) (.cn (.ex (.int .i64 ((n : Nat) : Int))) (.nl))), .agg (.cn (.sl 1 (fun i0 => .sl 3 (fun i1 => .rat (q i0 i1)) l) k) (.cn (.ex (.int .i64 ((l : Nat) : Int))) (.nl)))] (.ex (.bool (decide (n = l ∧ m = k ∧ ∀ r : Nat, r < m → ∀ c : Nat, c < n → p r c = q r c)))) [] := by
  exact callOK_P (ch := [.loop 4 (Nat) (fun g => g ≤ m ∧ ∀ r : Nat, r < g → ∀ c : Nat, c < n → p r c = q r c) (fun g => m - g) (fun g => ⟨[(2, .own 0 0), (3, .own 1 0), (22, .ex (.int .i64 ((m : Nat) : Int))), (23, .ex (.int .i64 ((g : Nat) : Int)))], [(0, .one (.var 28 (.agg (.cn (.sl 1 (fun i0 => .sl 3 (fun i1 => .rat (p i0 i1)) n) m) (.cn (.ex (.int .i64 ((n : Nat) : Int))) (.nl)))))), (1, .one (.var 28 (.agg (.cn (.sl 1 (fun i0 => .sl 3 (fun i1 => .rat (q i0 i1)) l) k) (.cn (.ex (.int .i64 ((l : Nat) : Int))) (.nl))))))], 2⟩) [(0, .id 0), (1, .id 1)] (fun _ => [(0, .id 0), (1, .id 1)]) (fun g => [.reg 6 [(3, .k g), (8, .k g), (10, .callS (.ex (.bool (decide (n = l ∧ ∀ j : Nat, j < n → (p g j : Rat) = (q g j))))) [])], .reg 8 [(0, .z ((g + 1 : Nat) : Int))]])]) hMix Try.func53 rfl (by kernel_rfl) (by kernel_rfl) (let y0 := ((!decide (((n : Nat) : Int) = ((l : Nat) : Int))) == false); let y1 := (decide (n = l ∧ m = k ∧ ∀ r : Nat, r < m → ∀ c : Nat, c < n → p r c = q r c)); let y2 := (bif (!decide (((n : Nat) : Int) = ((l : Nat) : Int))) then true else (!decide (((m : Nat) : Int) = ((k : Nat) : Int)))); (∀ j0, j0 < m → (∀ j1, j1 < n → True)) ∧ (∀ j0, j0 < k → (∀ j1, j1 < l → True)) ∧ (y0 = true → y0 = true) ∧ (y0 = true → y0 = true) ∧ (y0 = true → y0 = true) ∧ (y0 = true → y0 = true) ∧ (y0 = true → y0 = true) ∧ (y0 = true → y0 = true) ∧ ((!(!decide (((n : Nat) : Int) = ((l : Nat) : Int)))) = true → y0 = true) ∧ ((y2 = true → (((false : Bool) = y1))) ∧ (y2 = false → (((fun X1 X2 X3 X4 X5 X6 X7 X8 X9 : Prop => ∃ g0 : Nat, X1 ∧ X2 ∧ X3 ∧ ((0 : Int) = ((g0 : Nat) : Int)) ∧ X4 ∧ X5 ∧ X6 ∧ X7 ∧ X8 ∧ X9 ∧ (g0 ≤ m ∧ ∀ r : Nat, r < g0 → ∀ c : Nat, c < n → p r c = q r c)) _ _ _ _ _ _ _ _ _) ∧ ∀ g : Nat, (g ≤ m ∧ ∀ r : Nat, r < g → ∀ c : Nat, c < n → p r c = q r c) → (((decide (((g : Nat) : Int) < ((m : Nat) : Int))) = true → _ ∧ (g < m) ∧ _ ∧ (g < k) ∧ _ ∧ (((!(decide (n = l ∧ ∀ j : Nat, j < n → (p g j : Rat) = (q g j)))) = true → (((false : Bool) = y1))) ∧ ((!(decide (n = l ∧ ∀ j : Nat, j < n → (p g j : Rat) = (q g j)))) = false → _ ∧ ((fun X1 X2 X3 X4 X5 X6 X7 X8 X9 : Prop => ∃ g1 : Nat, X1 ∧ X2 ∧ X3 ∧ (((g + 1 : Nat) : Int) = ((g1 : Nat) : Int)) ∧ X4 ∧ X5 ∧ X6 ∧ X7 ∧ X8 ∧ X9 ∧ (g1 ≤ m ∧ ∀ r : Nat, r < g1 → ∀ c : Nat, c < n → p r c = q r c) ∧ (m - g1 < m - g)) _ _ _ _ _ _ _ _ _)))) ∧ ((decide (((g : Nat) : Int) < ((m : Nat) : Int))) = false → (((true : Bool) = y1)))))))) (by kernel_rfl)
    ⟨(fun _ _ => (fun _ _ => trivial)), ⟨(fun _ _ => (fun _ _ => trivial)), ⟨id, ⟨id, ⟨id, ⟨id, ⟨id, ⟨id, ⟨(by first | (simp; done) | (simp; omega)), ⟨fun hc19 => have hd := dims_no hc19; (decide_eq_false fun h => hd ⟨h.1, h.2.1⟩).symm, fun hc19 => have hd := dims_yes hc19; ⟨⟨0, (rf 0), (rf 0), (rf ((m : Nat) : Int)), (by omega), (rf m), (leS (fun i0 => .sl 3 (fun i1 => .rat (p i0 i1)) n) m), (rf ((n : Nat) : Int)), (rf k), (leS (fun i0 => .sl 3 (fun i1 => .rat (q i0 i1)) l) k), (rf ((l : Nat) : Int)), ⟨by omega, fun r hr => by omega⟩⟩, fun g hg => have hg1 := hg.1; ⟨fun hc24 => have hc24 := of_decide_eq_true hc24; have hg2 := hs hd.1 hd.2 g (by omega); ⟨(rf ((g : Nat) : Int)), ⟨(by omega), ⟨(rf ((g : Nat) : Int)), ⟨(by omega), ⟨(sVecSame (n := n) (m := l) (a := (fun i => p g i)) (b := (fun i => q g i)) (by omega) hg2), ⟨fun hc37 => have hr2 := same_no hc37; (decide_eq_false fun h => hr2 ⟨h.1, fun c hc => h.2.2 g (by omega) c hc⟩).symm, fun hc37 => have hr2 := same_yes hc37; ⟨(wI (g := g) (by omega)), ⟨g + 1, (rf 0), (rf 0), (rf ((m : Nat) : Int)), (by omega), (rf m), (leS (fun i0 => .sl 3 (fun i1 => .rat (p i0 i1)) n) m), (rf ((n : Nat) : Int)), (rf k), (leS (fun i0 => .sl 3 (fun i1 => .rat (q i0 i1)) l) k), (rf ((l : Nat) : Int)), ⟨by omega, rows_step hg.2 hr2.2⟩, (by omega)⟩⟩⟩⟩⟩⟩⟩⟩, fun hc24 => have hc24 := of_decide_eq_false hc24; (decide_eq_true ⟨hd.1, hd.2, fun r hr => hg.2 r (by omega)⟩).symm⟩⟩⟩⟩⟩⟩⟩⟩⟩⟩⟩⟩
set_option maxRecDepth 100000 in
theorem sMatRows {q : Nat → Nat → Rat} {m n : Nat}  : CallOK Try.prog 15 [.agg (.cn (.sl 1 (fun i0 => .sl 3 (fun i1 => .rat (q i0 i1)) n) m) (.cn (.ex (.int .i64 ((n : Nat) : Int))) (.nl)))] (.ex (.int .i64 ((m : Nat) : Int))) [] := by
  exact callOK_P (ch := []) hMix Try.func15 rfl (by kernel_rfl) (by kernel_rfl) ((∀ j0, j0 < m → (∀ j1, j1 < n → True)) ∧ (_)) (by kernel_rfl)
    ⟨(fun _ _ => (fun _ _ => trivial)), (rf ((m : Nat) : Int))⟩
set_option maxRecDepth 100000 in
theorem sMatCols {q : Nat → Nat → Rat} {m n : Nat}  : CallOK Try.prog 50 [.agg (.cn (.sl 1 (fun i0 => .sl 3 (fun i1 => .rat (q i0 i1)) n) m) (.cn (.ex (.int .i64 ((n : Nat) : Int))) (.nl)))] (.ex (.int .i64 ((n : Nat) : Int))) [] := by
  exact callOK_P (ch := []) hMix Try.func50 rfl (by kernel_rfl) (by kernel_rfl) ((∀ j0, j0 < m → (∀ j1, j1 < n → True)) ∧ (_)) (by kernel_rfl)
    ⟨(fun _ _ => (fun _ _ => trivial)), (rf ((n : Nat) : Int))⟩
set_option maxRecDepth 100000 in
theorem sMatRow {q : Nat → Nat → Rat} {m n r : Nat} (hr : r < m) (hn : n ≤ 68719476736) : CallOK Try.prog 32 [.agg (.cn (.sl 1 (fun i0 => .sl 3 (fun i1 => .rat (q i0 i1)) n) m) (.cn (.ex (.int .i64 ((n : Nat) : Int))) (.nl))), .ex (.int .i64 ((r : Nat) : Int))] (.cn (.sl 3 (fun i0 => .rat (q r i0)) n) (.cn (.ex (.bool true)) (.nl))) [] := by
  exact callOK_P (ch := [.dec 14 false, .reg 3 [(3, .k r), (5, .callS (.sl 3 (fun i0 => .rat (q r i0)) n) [])]]) hMix Try.func32 rfl (by kernel_rfl) (by kernel_rfl) ((∀ j0, j0 < m → (∀ j1, j1 < n → True)) ∧ (((decide (((r : Nat) : Int) < 0)) == false) = true → ((decide (((r : Nat) : Int) < 0)) == false) = true) ∧ (((decide (((r : Nat) : Int) < 0)) == false) = true → ((decide (((r : Nat) : Int) < 0)) == false) = true) ∧ (((decide (((r : Nat) : Int) < 0)) == false) = true → ((decide (((r : Nat) : Int) < 0)) == false) = true) ∧ (((decide (((r : Nat) : Int) < 0)) == false) = true → ((decide (((r : Nat) : Int) < 0)) == false) = true) ∧ ((!(decide (((r : Nat) : Int) < 0))) = true → ((decide (((r : Nat) : Int) < 0)) == false) = true) ∧ ((bif (decide (((r : Nat) : Int) < 0)) then true else (decide (((m : Nat) : Int) ≤ ((r : Nat) : Int)))) = false) ∧ _ ∧ (r < m) ∧ _ ∧ (_ ∧ _ ∧ _)) (by kernel_rfl)
    ⟨(fun _ _ => (fun _ _ => trivial)), ⟨id, ⟨id, ⟨id, ⟨id, ⟨(by first | (simp; done) | (simp; omega)), ⟨(by simp; omega), ⟨(rf ((r : Nat) : Int)), ⟨(by omega), ⟨(sVecCopy (n := n) (q := (fun i => q r i)) (by omega)).frzV, ⟨(rf n), (leS (fun i0 => .rat (q r i0)) n), (rf (true : Bool))⟩⟩⟩⟩⟩⟩⟩⟩⟩⟩⟩
set_option maxRecDepth 100000 in
theorem sMatTimes {q : Nat → Nat → Rat} {v : Nat → Rat} {m n : Nat} (hm : m ≤ 68719476736) (hn : n ≤ 68719476736) (hs : ∀ r, r < m → ∀ i, i < n → szq (q r i) + szq (v i) ≤ 17179869184 ∧ szq (dotQ (q r) v i) + szq (q r i * v i) ≤ 17179869184) : CallOK Try.prog 46 [.agg (.cn (.sl 1 (fun i0 => .sl 3 (fun i1 => .rat (q i0 i1)) n) m) (.cn (.ex (.int .i64 ((n : Nat) : Int))) (.nl))), .sl 3 (fun i0 => .rat (v i0)) n] (.cn (.own 0 0) (.cn (.ex (.bool true)) (.nl))) [.one (.row 36 3 (fun i0 => .rat (dotQ (q i0) v n)) m)] := by
  exact callOK_P (ch := [.dec 13 false, .reg 3 [(3, .row m (fun _ => .rat 0))], .loop 5 (Nat) (fun g => g ≤ m) (fun g => m - g) (fun g => ⟨[(1, .sl 3 (fun i0 => .rat (v i0)) n), (6, .own 1 0), (19, .sl 1 (fun i0 => .sl 3 (fun i1 => .rat (q i0 i1)) n) m), (20, .ex (.int .i64 ((m : Nat) : Int))), (21, .ex (.int .i64 ((g : Nat) : Int)))], [(1, .one (.row 36 3 (fun i0 => .rat (upto g (fun k => dotQ (q k) v n) i0)) m)), (0, .one (.var 28 (.agg (.cn (.sl 1 (fun i0 => .sl 3 (fun i1 => .rat (q i0 i1)) n) m) (.cn (.ex (.int .i64 ((n : Nat) : Int))) (.nl))))))], 2⟩) [(1, .id 1), (0, .id 0)] (fun _ => [(1, .id 1), (0, .id 0)]) (fun g => [.reg 6 [(1, .k g)], .reg 7 [(4, .callS (.cn (.rat (dotQ (fun i => q g i) v n)) (.cn (.ex (.bool true)) (.nl))) []), (8, .k g), (9, .row 0 (fun i0 => .rat (upto (g + 1) (fun k => dotQ (q k) v n) i0)))], .reg 8 [(0, .z ((g + 1 : Nat) : Int))], .ret 9 [(0, .id 1)]])]) hMix Try.func46 rfl (by kernel_rfl) (by kernel_rfl) ((∀ j0, j0 < m → (∀ j1, j1 < n → True)) ∧ (∀ j0, j0 < n → True) ∧ ((!decide (((n : Nat) : Int) = ((n : Nat) : Int))) = false) ∧ _ ∧ _ ∧ (m ≤ 68719476736) ∧ (∀ j0, j0 < m → ((0 : Rat) = 0)) ∧ (((fun X1 X2 X3 X4 X5 X6 X7 X8 X9 X10 : Prop => ∃ g0 : Nat, X1 ∧ X2 ∧ X3 ∧ X4 ∧ X5 ∧ X6 ∧ ((0 : Int) = ((g0 : Nat) : Int)) ∧ X7 ∧ (∀ j0, j0 < m → ((0 : Rat) = (upto g0 (fun k => dotQ (q k) v n) j0))) ∧ X8 ∧ X9 ∧ X10 ∧ (g0 ≤ m)) _ _ _ _ _ _ _ _ _ _) ∧ ∀ g : Nat, (g ≤ m) → (((decide (((g : Nat) : Int) < ((m : Nat) : Int))) = true → _ ∧ (g < m) ∧ _ ∧ _ ∧ (g < m) ∧ (g < m) ∧ (((dotQ (fun i => q g i) v n : Rat) = (upto (g + 1) (fun k => dotQ (q k) v n) g))) ∧ (∀ t, t < m → t ≠ g → (.rat (upto (g + 1) (fun k => dotQ (q k) v n) t) : SV) = .rat (upto g (fun k => dotQ (q k) v n) t)) ∧ _ ∧ ((fun X1 X2 X3 X4 X5 X6 X7 X8 X9 X10 : Prop => ∃ g1 : Nat, X1 ∧ X2 ∧ X3 ∧ X4 ∧ X5 ∧ X6 ∧ (((g + 1 : Nat) : Int) = ((g1 : Nat) : Int)) ∧ X7 ∧ (∀ j0, j0 < m → ((upto (g + 1) (fun k => dotQ (q k) v n) j0 : Rat) = (upto g1 (fun k => dotQ (q k) v n) j0))) ∧ X8 ∧ X9 ∧ X10 ∧ (g1 ≤ m) ∧ (m - g1 < m - g)) _ _ _ _ _ _ _ _ _ _)) ∧ ((decide (((g : Nat) : Int) < ((m : Nat) : Int))) = false → (_ ∧ _ ∧ _ ∧ (∀ j0, j0 < m → ((upto g (fun k => dotQ (q k) v n) j0 : Rat) = (dotQ (q j0) v n)))))))) (by kernel_rfl)
    ⟨(fun _ _ => (fun _ _ => trivial)), ⟨(fun _ _ => trivial), ⟨(by simp), ⟨(rf ((m : Nat) : Int)), ⟨(rf ((m : Nat) : Int)), ⟨(by omega), ⟨(fun j0 hj0 => rfl), ⟨⟨0, (rf n), (leS (fun i0 => .rat (v i0)) n), (rf 0), (rf m), (leS (fun i0 => .sl 3 (fun i1 => .rat (q i0 i1)) n) m), (rf ((m : Nat) : Int)), (by omega), (rf m), (fun j0 hj0 => (by rw [upto_zero])), (rf m), (leS (fun i0 => .sl 3 (fun i1 => .rat (q i0 i1)) n) m), (rf ((n : Nat) : Int)), (by omega)⟩, fun g hg => ⟨fun hc22 => have hc22 := of_decide_eq_true hc22; have hg1 := hs g (by omega); ⟨(rf ((g : Nat) : Int)), ⟨(by omega), ⟨sVecDot (a := q g) (b := v) (n := n) (by omega) hg1, ⟨(rf ((g : Nat) : Int)), ⟨(by omega), ⟨(by omega), ⟨(by rw [upto_at]), ⟨(fun t ht hne => by rw [upto_ne hne]), ⟨(wI (g := g) (by omega)), ⟨g + 1, (rf n), (leS (fun i0 => .rat (v i0)) n), (rf 0), (rf m), (leS (fun i0 => .sl 3 (fun i1 => .rat (q i0 i1)) n) m), (rf ((m : Nat) : Int)), (by omega), (rf m), (fun j0 hj0 => rfl), (rf m), (leS (fun i0 => .sl 3 (fun i1 => .rat (q i0 i1)) n) m), (rf ((n : Nat) : Int)), (by omega), (by omega)⟩⟩⟩⟩⟩⟩⟩⟩⟩⟩, fun hc22 => have hc22 := of_decide_eq_false hc22; have hi2 : g = m := (by omega); ⟨(rf 0), (rf (true : Bool)), (rf m), (fun j0 hj0 => (by rw [hi2]; exact upto_all (by assumption)))⟩⟩⟩⟩⟩⟩⟩⟩⟩⟩
open Go.RowKit
theorem bif_true {P Q : Prop} [Decidable P] [Decidable Q] (h : (bif decide P then decide Q else false) = true) : P ∧ Q := by
  by_cases p : P
  · exact ⟨p, by simpa [p] using h⟩
  · simp [p] at h
theorem bif_false {P Q : Prop} [Decidable P] [Decidable Q] (h : (bif decide P then decide Q else false) = false) : ¬ (P ∧ Q) := fun ⟨p, q⟩ => by simp [p, q] at h
def padZ (g : Nat) (f : Nat → Int) (t : Nat) : Int := if t < g then f t else 0
theorem padZ_at {g : Nat} {f : Nat → Int} : padZ (g + 1) f g = f g := if_pos (Nat.lt_succ_self g)
theorem padZ_zero {t : Nat} {f : Nat → Int} : padZ 0 f t = 0 := if_neg (Nat.not_lt_zero t)
theorem padZ_wd {g t : Nat} {f : Nat → Int} (h : t < g → Wd64 (f t)) : Wd64 (padZ g f t) := by
  unfold padZ
  split
  · rename_i k; exact h k
  · decide
theorem padZ_end {g h t : Nat} {f : Nat → Int} (e : t < g ↔ t < h) : padZ g f t = padZ h f t := by
  unfold padZ
  by_cases k : t < g
  · rw [if_pos k, if_pos (e.1 k)]
  · rw [if_neg k, if_neg fun k' => k (e.2 k')]
theorem padZ_ne {g t : Nat} {f : Nat → Int} (h : t ≠ g) : padZ (g + 1) f t = padZ g f t := by
  unfold padZ
  by_cases h1 : t < g
  · rw [if_pos h1, if_pos (by omega)]
  · rw [if_neg h1, if_neg (by omega)]
set_option maxRecDepth 100000 in
theorem sRows11 {z l : Nat} {k : Nat → Nat} {p d : Nat → Nat → Int}  : CallOK Try.prog 60 [.agg (.cn (.ex (.int .u8 ((z : Nat) : Int))) (.cn (.sl 1 (fun i0 => .sl 2 (fun i1 => .agg (.cn (.ex (.int .i64 (p i0 i1))) (.cn (.ex (.int .i64 (d i0 i1))) (.nl)))) (k i0)) l) (.nl)))] (.cn (.sl 1 (fun i0 => .sl 2 (fun i1 => .agg (.cn (.ex (.int .i64 (padZ (k i0) (p i0) i1))) (.cn (.ex (.int .i64 (padZ (k i0) (d i0) i1))) (.nl)))) (z % 7)) (min l 6)) (.cn (.ex (.int .i64 ((z % 7 : Nat) : Int))) (.nl))) [] := by
  exact callOK_P (ch := [.reg 1 [(2, .z ((z % 7 : Nat) : Int)), (3, .z ((z % 7 : Nat) : Int))], .loop 4 (Nat) (fun g => g ≤ (min l 6)) (fun g => min l 6 - g) (fun g => ⟨[(1, .own 0 0), (4, .ex (.int .i64 ((z % 7 : Nat) : Int))), (5, .own 1 0), (6, .ex (.int .i64 ((g : Nat) : Int)))], [(0, .one (.var 24 (.agg (.cn (.ex (.int .u8 ((z : Nat) : Int))) (.cn (.sl 1 (fun i0 => .sl 2 (fun i1 => .agg (.cn (.ex (.int .i64 (p i0 i1))) (.cn (.ex (.int .i64 (d i0 i1))) (.nl)))) (k i0)) l) (.nl)))))), (1, .one (.row 46 1 (fun i0 => .sl 2 (fun i1 => .agg (.cn (.ex (.int .i64 (padZ (k i0) (p i0) i1))) (.cn (.ex (.int .i64 (padZ (k i0) (d i0) i1))) (.nl)))) (z % 7)) g))], 2⟩) [(0, .id 0), (1, .nil)] (fun _ => [(0, .id 0), (1, .id 3)]) (fun g => [.reg 6 [(1, .row (z % 7) (fun i0 => .agg (.cn (.ex (.int .i64 (padZ 0 (p g) i0))) (.cn (.ex (.int .i64 (padZ 0 (d g) i0))) (.nl)))))], .loop 8 (Nat) (fun h => h ≤ z % 7 ∧ h ≤ k g) (fun h => z % 7 - h) (fun h => ⟨[(1, .own 0 0), (4, .ex (.int .i64 ((z % 7 : Nat) : Int))), (5, .own 1 0), (6, .ex (.int .i64 ((g : Nat) : Int))), (7, .own 2 0), (8, .ex (.int .i64 ((h : Nat) : Int)))], [(0, .one (.var 24 (.agg (.cn (.ex (.int .u8 ((z : Nat) : Int))) (.cn (.sl 1 (fun i0 => .sl 2 (fun i1 => .agg (.cn (.ex (.int .i64 (p i0 i1))) (.cn (.ex (.int .i64 (d i0 i1))) (.nl)))) (k i0)) l) (.nl)))))), (1, .one (.row 46 1 (fun i0 => .sl 2 (fun i1 => .agg (.cn (.ex (.int .i64 (padZ (k i0) (p i0) i1))) (.cn (.ex (.int .i64 (padZ (k i0) (d i0) i1))) (.nl)))) (z % 7)) g)), (2, .one (.row 87 2 (fun i0 => .agg (.cn (.ex (.int .i64 (padZ h (p g) i0))) (.cn (.ex (.int .i64 (padZ h (d g) i0))) (.nl)))) (z % 7)))], 3⟩) [(0, .id 0), (1, .id 1), (2, .id 2)] (fun _ => [(0, .id 0), (1, .id 1), (2, .id 2)]) (fun h => [.reg 8 [(8, .k g)], .reg 10 [(5, .k g), (8, .k h), (10, .k h), (11, .row 0 (fun i0 => .agg (.cn (.ex (.int .i64 (padZ (h + 1) (p g) i0))) (.cn (.ex (.int .i64 (padZ (h + 1) (d g) i0))) (.nl)))))], .reg 9 [(1, .z ((h + 1 : Nat) : Int))], .conv 11 [(0, .id 0), (1, .id 1)] ⟨[(1, .own 0 0), (4, .ex (.int .i64 ((z % 7 : Nat) : Int))), (5, .own 1 0), (6, .ex (.int .i64 ((g : Nat) : Int))), (7, .sl 2 (fun i0 => .agg (.cn (.ex (.int .i64 (padZ (k g) (p g) i0))) (.cn (.ex (.int .i64 (padZ (k g) (d g) i0))) (.nl)))) (z % 7))], [(0, .one (.var 24 (.agg (.cn (.ex (.int .u8 ((z : Nat) : Int))) (.cn (.sl 1 (fun i0 => .sl 2 (fun i1 => .agg (.cn (.ex (.int .i64 (p i0 i1))) (.cn (.ex (.int .i64 (d i0 i1))) (.nl)))) (k i0)) l) (.nl)))))), (1, .one (.row 46 1 (fun i0 => .sl 2 (fun i1 => .agg (.cn (.ex (.int .i64 (padZ (k i0) (p i0) i1))) (.cn (.ex (.int .i64 (padZ (k i0) (d i0) i1))) (.nl)))) (z % 7)) g))], 3⟩, .reg 11 [(3, .row 0 (fun i0 => .sl 2 (fun i1 => .agg (.cn (.ex (.int .i64 (padZ (k i0) (p i0) i1))) (.cn (.ex (.int .i64 (padZ (k i0) (d i0) i1))) (.nl)))) (z % 7)))], .reg 5 [(1, .z ((g + 1 : Nat) : Int))]])])]) hMix Try.func60 rfl (by kernel_rfl) (by kernel_rfl) ((∀ j0, j0 < l → (∀ j1, j1 < (k j0) → True)) ∧ ((7 : Int) ≠ 0) ∧ (((z : Nat) : Int).tmod 7 = (((z % 7 : Nat) : Int))) ∧ (IntKind.wrap .i64 ((z % 7 : Nat) : Int) = (((z % 7 : Nat) : Int))) ∧ (((fun X1 X2 X3 X4 X5 X6 : Prop => ∃ g0 : Nat, X1 ∧ X2 ∧ X3 ∧ ((0 : Int) = ((g0 : Nat) : Int)) ∧ X4 ∧ X5 ∧ X6 ∧ ((g0 : Nat) = 0) ∧ (g0 ≤ (min l 6))) _ _ _ _ _ _) ∧ ∀ g : Nat, (g ≤ (min l 6)) → (((decide (((g : Nat) : Int) < ((l : Nat) : Int))) == true) = true → ((decide (((g : Nat) : Int) < ((l : Nat) : Int))) == true) = true) ∧ ((decide (((g : Nat) : Int) < ((l : Nat) : Int))) = true → ((decide (((g : Nat) : Int) < ((l : Nat) : Int))) == true) = true) ∧ (((bif (decide (((g : Nat) : Int) < ((l : Nat) : Int))) then (decide (((g : Nat) : Int) < 6)) else false) = true → _ ∧ _ ∧ ((z % 7) ≤ 68719476736) ∧ (∀ j0, j0 < (z % 7) → ((0 : Int) = (padZ 0 (p g) j0)) ∧ ((0 : Int) = (padZ 0 (d g) j0))) ∧ (((fun X1 X2 X3 X4 X5 X6 X7 X8 X9 X10 X11 : Prop => ∃ h0 : Nat, X1 ∧ X2 ∧ X3 ∧ X4 ∧ X5 ∧ ((0 : Int) = ((h0 : Nat) : Int)) ∧ X6 ∧ X7 ∧ X8 ∧ X9 ∧ X10 ∧ X11 ∧ (∀ j0, j0 < (z % 7) → ((padZ 0 (p g) j0 : Int) = (padZ h0 (p g) j0)) ∧ ((padZ 0 (d g) j0 : Int) = (padZ h0 (d g) j0))) ∧ (h0 ≤ z % 7 ∧ h0 ≤ k g)) _ _ _ _ _ _ _ _ _ _ _) ∧ ∀ h : Nat, (h ≤ z % 7 ∧ h ≤ k g) → (((decide (((h : Nat) : Int) < ((z % 7 : Nat) : Int))) == true) = true → ((decide (((h : Nat) : Int) < ((z % 7 : Nat) : Int))) == true) = true) ∧ (((decide (((h : Nat) : Int) < ((z % 7 : Nat) : Int))) == true) = true → ((decide (((h : Nat) : Int) < ((z % 7 : Nat) : Int))) == true) = true) ∧ (((decide (((h : Nat) : Int) < ((z % 7 : Nat) : Int))) == true) = true → ((decide (((h : Nat) : Int) < ((z % 7 : Nat) : Int))) == true) = true) ∧ (((decide (((h : Nat) : Int) < ((z % 7 : Nat) : Int))) == true) = true → _) ∧ (((decide (((h : Nat) : Int) < ((z % 7 : Nat) : Int))) == true) = true → g < l) ∧ (((decide (((h : Nat) : Int) < ((z % 7 : Nat) : Int))) == true) = true → ((decide (((h : Nat) : Int) < ((z % 7 : Nat) : Int))) == true) = true) ∧ (((decide (((h : Nat) : Int) < ((z % 7 : Nat) : Int))) == true) = true → ((decide (((h : Nat) : Int) < ((z % 7 : Nat) : Int))) == true) = true) ∧ (((decide (((h : Nat) : Int) < ((z % 7 : Nat) : Int))) == true) = true → ((decide (((h : Nat) : Int) < ((z % 7 : Nat) : Int))) == true) = true) ∧ (((decide (((h : Nat) : Int) < ((z % 7 : Nat) : Int))) == true) = true → ((decide (((h : Nat) : Int) < ((z % 7 : Nat) : Int))) == true) = true) ∧ ((decide (((h : Nat) : Int) < ((z % 7 : Nat) : Int))) = true → ((decide (((h : Nat) : Int) < ((z % 7 : Nat) : Int))) == true) = true) ∧ (((bif (decide (((h : Nat) : Int) < ((z % 7 : Nat) : Int))) then (decide (((h : Nat) : Int) < ((k g : Nat) : Int))) else false) = true → _ ∧ (g < l) ∧ _ ∧ (h < (k g)) ∧ _ ∧ (h < (z % 7)) ∧ (h < (z % 7)) ∧ (((p g h : Int) = (padZ (h + 1) (p g) h)) ∧ ((d g h : Int) = (padZ (h + 1) (d g) h))) ∧ (∀ t, t < (z % 7) → t ≠ h → (.agg (.cn (.ex (.int .i64 (padZ (h + 1) (p g) t))) (.cn (.ex (.int .i64 (padZ (h + 1) (d g) t))) (.nl))) : SV) = .agg (.cn (.ex (.int .i64 (padZ h (p g) t))) (.cn (.ex (.int .i64 (padZ h (d g) t))) (.nl)))) ∧ _ ∧ ((fun X1 X2 X3 X4 X5 X6 X7 X8 X9 X10 X11 : Prop => ∃ h1 : Nat, X1 ∧ X2 ∧ X3 ∧ X4 ∧ X5 ∧ (((h + 1 : Nat) : Int) = ((h1 : Nat) : Int)) ∧ X6 ∧ X7 ∧ X8 ∧ X9 ∧ X10 ∧ X11 ∧ (∀ j0, j0 < (z % 7) → ((padZ (h + 1) (p g) j0 : Int) = (padZ h1 (p g) j0)) ∧ ((padZ (h + 1) (d g) j0 : Int) = (padZ h1 (d g) j0))) ∧ (h1 ≤ z % 7 ∧ h1 ≤ k g) ∧ (z % 7 - h1 < z % 7 - h)) _ _ _ _ _ _ _ _ _ _ _)) ∧ ((bif (decide (((h : Nat) : Int) < ((z % 7 : Nat) : Int))) then (decide (((h : Nat) : Int) < ((k g : Nat) : Int))) else false) = false → _ ∧ _ ∧ _ ∧ _ ∧ _ ∧ (∀ j0, j0 < (z % 7) → ((padZ h (p g) j0 : Int) = (padZ (k g) (p g) j0)) ∧ ((padZ h (d g) j0 : Int) = (padZ (k g) (d g) j0))) ∧ _ ∧ _ ∧ _ ∧ _ ∧ _ ∧ (g + 1 ≤ 68719476736) ∧ _ ∧ _ ∧ _ ∧ ((fun X1 X2 X3 X4 X5 X6 X7 : Prop => ∃ g1 : Nat, X1 ∧ X2 ∧ X3 ∧ (((g + 1 : Nat) : Int) = ((g1 : Nat) : Int)) ∧ X4 ∧ X5 ∧ X6 ∧ ((g + 1 : Nat) = g1) ∧ X7 ∧ (g1 ≤ (min l 6)) ∧ (min l 6 - g1 < min l 6 - g)) _ _ _ _ _ _ _))))) ∧ ((bif (decide (((g : Nat) : Int) < ((l : Nat) : Int))) then (decide (((g : Nat) : Int) < 6)) else false) = false → (((g : Nat) = (min l 6)) ∧ _ ∧ _))))) (by kernel_rfl)
    ⟨(fun _ _ => (fun _ _ => trivial)), ⟨(by decide), ⟨rfl, ⟨(by rw [IntKind.wrap_i64]; omega), ⟨⟨0, (rf 0), (rf ((z % 7 : Nat) : Int)), (rf 0), (by omega), (rf ((z : Nat) : Int)), (rf l), (leS (fun i0 => .sl 2 (fun i1 => .agg (.cn (.ex (.int .i64 (p i0 i1))) (.cn (.ex (.int .i64 (d i0 i1))) (.nl)))) (k i0)) l), (by omega), (by omega)⟩, fun g hg => ⟨id, ⟨(by first | (simp; done) | (simp; omega)), ⟨fun hc21 => have hc := bif_true hc21; ⟨(rf ((z % 7 : Nat) : Int)), ⟨(rf ((z % 7 : Nat) : Int)), ⟨(by omega), ⟨(fun j0 hj0 => ⟨(padZ_zero).symm, (padZ_zero).symm⟩), ⟨⟨0, (rf 0), (rf ((z % 7 : Nat) : Int)), (rf 0), (rf ((g : Nat) : Int)), (rf 0), (by omega), (rf ((z : Nat) : Int)), (rf l), (leS (fun i0 => .sl 2 (fun i1 => .agg (.cn (.ex (.int .i64 (p i0 i1))) (.cn (.ex (.int .i64 (d i0 i1))) (.nl)))) (k i0)) l), (rf g), (leS (fun i0 => .sl 2 (fun i1 => .agg (.cn (.ex (.int .i64 (padZ (k i0) (p i0) i1))) (.cn (.ex (.int .i64 (padZ (k i0) (d i0) i1))) (.nl)))) (z % 7)) g), (rf (z % 7 : Nat)), (fun j0 hj0 => ⟨(by omega), (by omega)⟩), (by omega)⟩, fun h hh => ⟨id, ⟨id, ⟨id, ⟨(fun hg => (rf ((g : Nat) : Int))), ⟨(fun hg => (by omega)), ⟨id, ⟨id, ⟨id, ⟨id, ⟨(by first | (simp; done) | (simp; omega)), ⟨fun hc38 => have hc2 := bif_true hc38; ⟨(rf ((g : Nat) : Int)), ⟨(by omega), ⟨(rf ((h : Nat) : Int)), ⟨(by omega), ⟨(rf ((h : Nat) : Int)), ⟨(by omega), ⟨(by omega), ⟨⟨(padZ_at).symm, (padZ_at).symm⟩, ⟨(fun t ht hne => by simp only [padZ_ne hne]), ⟨(wI (g := h) (by omega)), ⟨h + 1, (rf 0), (rf ((z % 7 : Nat) : Int)), (rf 0), (rf ((g : Nat) : Int)), (rf 0), (by omega), (rf ((z : Nat) : Int)), (rf l), (leS (fun i0 => .sl 2 (fun i1 => .agg (.cn (.ex (.int .i64 (p i0 i1))) (.cn (.ex (.int .i64 (d i0 i1))) (.nl)))) (k i0)) l), (rf g), (leS (fun i0 => .sl 2 (fun i1 => .agg (.cn (.ex (.int .i64 (padZ (k i0) (p i0) i1))) (.cn (.ex (.int .i64 (padZ (k i0) (d i0) i1))) (.nl)))) (z % 7)) g), (rf (z % 7 : Nat)), (fun j0 hj0 => ⟨(by omega), (by omega)⟩), (by omega), (by omega)⟩⟩⟩⟩⟩⟩⟩⟩⟩⟩⟩, fun hc38 => have hi3 := bif_false hc38; ⟨(rf 0), ⟨(rf ((z % 7 : Nat) : Int)), ⟨(rf 0), ⟨(rf ((g : Nat) : Int)), ⟨(rf (z % 7 : Nat)), ⟨(fun j0 hj0 => ⟨(padZ_end (by omega)), (padZ_end (by omega))⟩), ⟨(rf ((z : Nat) : Int)), ⟨(rf l), ⟨(leS (fun i0 => .sl 2 (fun i1 => .agg (.cn (.ex (.int .i64 (p i0 i1))) (.cn (.ex (.int .i64 (d i0 i1))) (.nl)))) (k i0)) l), ⟨(rf g), ⟨(leS (fun i0 => .sl 2 (fun i1 => .agg (.cn (.ex (.int .i64 (padZ (k i0) (p i0) i1))) (.cn (.ex (.int .i64 (padZ (k i0) (d i0) i1))) (.nl)))) (z % 7)) g), ⟨(by omega), ⟨(oldS (fun i0 => .sl 2 (fun i1 => .agg (.cn (.ex (.int .i64 (padZ (k i0) (p i0) i1))) (.cn (.ex (.int .i64 (padZ (k i0) (d i0) i1))) (.nl)))) (z % 7)) g), ⟨(newS (fun i0 => .sl 2 (fun i1 => .agg (.cn (.ex (.int .i64 (padZ (k i0) (p i0) i1))) (.cn (.ex (.int .i64 (padZ (k i0) (d i0) i1))) (.nl)))) (z % 7)) g), ⟨(wI (g := g) (by omega)), ⟨g + 1, (rf 0), (rf ((z % 7 : Nat) : Int)), (rf 0), (by omega), (rf ((z : Nat) : Int)), (rf l), (leS (fun i0 => .sl 2 (fun i1 => .agg (.cn (.ex (.int .i64 (p i0 i1))) (.cn (.ex (.int .i64 (d i0 i1))) (.nl)))) (k i0)) l), (by omega), (leS (fun i0 => .sl 2 (fun i1 => .agg (.cn (.ex (.int .i64 (padZ (k i0) (p i0) i1))) (.cn (.ex (.int .i64 (padZ (k i0) (d i0) i1))) (.nl)))) (z % 7)) (g + 1)), (by omega), (by omega)⟩⟩⟩⟩⟩⟩⟩⟩⟩⟩⟩⟩⟩⟩⟩⟩⟩⟩⟩⟩⟩⟩⟩⟩⟩⟩⟩⟩⟩⟩⟩⟩, fun hc21 => have hi2 : g = min l 6 := (by have := bif_false hc21; omega); ⟨hi2, (leS (fun i0 => .sl 2 (fun i1 => .agg (.cn (.ex (.int .i64 (padZ (k i0) (p i0) i1))) (.cn (.ex (.int .i64 (padZ (k i0) (d i0) i1))) (.nl)))) (z % 7)) g), (rf ((z % 7 : Nat) : Int))⟩⟩⟩⟩⟩⟩⟩⟩⟩
set_option maxRecDepth 100000 in
theorem sMake11 {z l : Nat} {k : Nat → Nat} {p d : Nat → Nat → Int} (h : ∀ r, r < l → ∀ c, c < k r → Wd64 (p r c) ∧ Wd64 (d r c)) : CallOK Try.prog 29 [.agg (.cn (.ex (.int .u8 ((z : Nat) : Int))) (.cn (.sl 1 (fun i0 => .sl 2 (fun i1 => .agg (.cn (.ex (.int .i64 (p i0 i1))) (.cn (.ex (.int .i64 (d i0 i1))) (.nl)))) (k i0)) l) (.nl)))] (.agg (.cn (.sl 1 (fun i0 => .sl 3 (fun i1 => .rat (oneQ (padZ (k i0) (p i0) i1) (padZ (k i0) (d i0) i1))) (z % 7)) (min l 6)) (.cn (.ex (.int .i64 ((z % 7 : Nat) : Int))) (.nl)))) [] := by
  have hw : ∀ r, r < min l 6 → ∀ c, c < z % 7 → Wd64 (padZ (k r) (p r) c) ∧ Wd64 (padZ (k r) (d r) c) := fun r hr c _ => ⟨padZ_wd fun hc => (h r (by omega) c hc).1, padZ_wd fun hc => (h r (by omega) c hc).2⟩
  exact callOK_P (ch := [.reg 1 [(1, .callS (.cn (.sl 1 (fun i0 => .sl 2 (fun i1 => .agg (.cn (.ex (.int .i64 (padZ (k i0) (p i0) i1))) (.cn (.ex (.int .i64 (padZ (k i0) (d i0) i1))) (.nl)))) (z % 7)) (min l 6)) (.cn (.ex (.int .i64 ((z % 7 : Nat) : Int))) (.nl))) [])], .loop 4 (Nat) (fun g => g ≤ (min l 6)) (fun g => min l 6 - g) (fun g => ⟨[(2, .own 1 0), (3, .sl 1 (fun i0 => .sl 2 (fun i1 => .agg (.cn (.ex (.int .i64 (padZ (k i0) (p i0) i1))) (.cn (.ex (.int .i64 (padZ (k i0) (d i0) i1))) (.nl)))) (z % 7)) (min l 6)), (4, .ex (.int .i64 ((z % 7 : Nat) : Int))), (5, .own 2 0), (6, .ex (.int .i64 ((g : Nat) : Int)))], [(0, .one (.var 24 (.agg (.cn (.ex (.int .u8 ((z : Nat) : Int))) (.cn (.sl 1 (fun i0 => .sl 2 (fun i1 => .agg (.cn (.ex (.int .i64 (p i0 i1))) (.cn (.ex (.int .i64 (d i0 i1))) (.nl)))) (k i0)) l) (.nl)))))), (1, .one (.var 28 (.ex (.agg #[.slice none 0 0, .int .i64 0])))), (2, .one (.row 48 1 (fun i0 => .sl 3 (fun i1 => .rat (oneQ (padZ (k i0) (p i0) i1) (padZ (k i0) (d i0) i1))) (z % 7)) g))], 3⟩) [(0, .id 0), (1, .id 1), (2, .nil)] (fun _ => [(0, .id 0), (1, .id 1), (2, .id 3)]) (fun g => [.reg 6 [(3, .k g), (5, .callS (.sl 3 (fun i0 => .rat (oneQ (padZ (k g) (p g) i0) (padZ (k g) (d g) i0))) (z % 7)) []), (7, .row 0 (fun i0 => .sl 3 (fun i1 => .rat (oneQ (padZ (k i0) (p i0) i1) (padZ (k i0) (d i0) i1))) (z % 7)))], .reg 5 [(1, .z ((g + 1 : Nat) : Int))], .conv 7 [(0, .id 0), (1, .id 1)] ⟨[(2, .own 1 0), (4, .ex (.int .i64 ((z % 7 : Nat) : Int))), (5, .sl 1 (fun i0 => .sl 3 (fun i1 => .rat (oneQ (padZ (k i0) (p i0) i1) (padZ (k i0) (d i0) i1))) (z % 7)) (min l 6))], [(0, .one (.var 24 (.agg (.cn (.ex (.int .u8 ((z : Nat) : Int))) (.cn (.sl 1 (fun i0 => .sl 2 (fun i1 => .agg (.cn (.ex (.int .i64 (p i0 i1))) (.cn (.ex (.int .i64 (d i0 i1))) (.nl)))) (k i0)) l) (.nl)))))), (1, .one (.var 28 (.ex (.agg #[.slice none 0 0, .int .i64 0]))))], 3⟩, .reg 7 [(2, .callS (.cn (.agg (.cn (.sl 1 (fun i0 => .sl 3 (fun i1 => .rat (oneQ (padZ (k i0) (p i0) i1) (padZ (k i0) (d i0) i1))) (z % 7)) (min l 6)) (.cn (.ex (.int .i64 ((z % 7 : Nat) : Int))) (.nl)))) (.cn (.ex (.bool true)) (.nl))) [])]])]) hMix Try.func29 rfl (by kernel_rfl) (by kernel_rfl) ((∀ j0, j0 < l → (∀ j1, j1 < (k j0) → True)) ∧ _ ∧ (((fun X1 X2 X3 X4 X5 X6 X7 X8 : Prop => ∃ g0 : Nat, X1 ∧ X2 ∧ X3 ∧ X4 ∧ X5 ∧ ((0 : Int) = ((g0 : Nat) : Int)) ∧ X6 ∧ X7 ∧ X8 ∧ ((.agg #[.slice none 0 0, .int .i64 0] : Value) = .agg #[.slice none 0 0, .int .i64 0]) ∧ ((g0 : Nat) = 0) ∧ (g0 ≤ (min l 6))) _ _ _ _ _ _ _ _) ∧ ∀ g : Nat, (g ≤ (min l 6)) → (((decide (((g : Nat) : Int) < ((min l 6 : Nat) : Int))) = true → _ ∧ (g < (min l 6)) ∧ _ ∧ (g + 1 ≤ 68719476736) ∧ _ ∧ _ ∧ _ ∧ ((fun X1 X2 X3 X4 X5 X6 X7 X8 X9 : Prop => ∃ g1 : Nat, X1 ∧ X2 ∧ X3 ∧ X4 ∧ X5 ∧ (((g + 1 : Nat) : Int) = ((g1 : Nat) : Int)) ∧ X6 ∧ X7 ∧ X8 ∧ ((.agg #[.slice none 0 0, .int .i64 0] : Value) = .agg #[.slice none 0 0, .int .i64 0]) ∧ ((g + 1 : Nat) = g1) ∧ X9 ∧ (g1 ≤ (min l 6)) ∧ (min l 6 - g1 < min l 6 - g)) _ _ _ _ _ _ _ _ _)) ∧ ((decide (((g : Nat) : Int) < ((min l 6 : Nat) : Int))) = false → _ ∧ _ ∧ ((g : Nat) = (min l 6)) ∧ _ ∧ _ ∧ _ ∧ _ ∧ ((.agg #[.slice none 0 0, .int .i64 0] : Value) = .agg #[.slice none 0 0, .int .i64 0]) ∧ _ ∧ (_ ∧ _ ∧ _))))) (by kernel_rfl)
    ⟨(fun _ _ => (fun _ _ => trivial)), ⟨sRows11 (z := z) (l := l) (k := k) (p := p) (d := d), ⟨⟨0, (rf 0), (rf (min l 6 : Nat)), (leS (fun i0 => .sl 2 (fun i1 => .agg (.cn (.ex (.int .i64 (padZ (k i0) (p i0) i1))) (.cn (.ex (.int .i64 (padZ (k i0) (d i0) i1))) (.nl)))) (z % 7)) (min l 6)), (rf ((z % 7 : Nat) : Int)), (rf 0), (by omega), (rf ((z : Nat) : Int)), (rf l), (leS (fun i0 => .sl 2 (fun i1 => .agg (.cn (.ex (.int .i64 (p i0 i1))) (.cn (.ex (.int .i64 (d i0 i1))) (.nl)))) (k i0)) l), rfl, (by omega), (by omega)⟩, fun g hg => ⟨fun hc17 => have hc17 := of_decide_eq_true hc17; have hg2 := hw g (by omega); ⟨(rf ((g : Nat) : Int)), ⟨(by omega), ⟨(sMake (n := z % 7) (p := fun i => padZ (k g) (p g) i) (d := fun i => padZ (k g) (d g) i) (by omega) hg2).frzV, ⟨(by omega), ⟨(oldS (fun i0 => .sl 3 (fun i1 => .rat (oneQ (padZ (k i0) (p i0) i1) (padZ (k i0) (d i0) i1))) (z % 7)) g), ⟨(newS (fun i0 => .sl 3 (fun i1 => .rat (oneQ (padZ (k i0) (p i0) i1) (padZ (k i0) (d i0) i1))) (z % 7)) g), ⟨(wI (g := g) (by omega)), ⟨g + 1, (rf 0), (rf (min l 6 : Nat)), (leS (fun i0 => .sl 2 (fun i1 => .agg (.cn (.ex (.int .i64 (padZ (k i0) (p i0) i1))) (.cn (.ex (.int .i64 (padZ (k i0) (d i0) i1))) (.nl)))) (z % 7)) (min l 6)), (rf ((z % 7 : Nat) : Int)), (rf 0), (by omega), (rf ((z : Nat) : Int)), (rf l), (leS (fun i0 => .sl 2 (fun i1 => .agg (.cn (.ex (.int .i64 (p i0 i1))) (.cn (.ex (.int .i64 (d i0 i1))) (.nl)))) (k i0)) l), rfl, (by omega), (leS (fun i0 => .sl 3 (fun i1 => .rat (oneQ (padZ (k i0) (p i0) i1) (padZ (k i0) (d i0) i1))) (z % 7)) (g + 1)), (by omega), (by omega)⟩⟩⟩⟩⟩⟩⟩⟩, fun hc17 => have hc17 := of_decide_eq_false hc17; have hi2 : g = min l 6 := (by omega); ⟨(rf 0), ⟨(rf ((z % 7 : Nat) : Int)), ⟨hi2, ⟨(leS (fun i0 => .sl 3 (fun i1 => .rat (oneQ (padZ (k i0) (p i0) i1) (padZ (k i0) (d i0) i1))) (z % 7)) g), ⟨(rf ((z : Nat) : Int)), ⟨(rf l), ⟨(leS (fun i0 => .sl 2 (fun i1 => .agg (.cn (.ex (.int .i64 (p i0 i1))) (.cn (.ex (.int .i64 (d i0 i1))) (.nl)))) (k i0)) l), ⟨rfl, ⟨(sMatOf (m := min l 6) (n := z % 7) (q := fun r c => oneQ (padZ (k r) (p r) c) (padZ (k r) (d r) c)) (by omega) (by omega)), ⟨(rf (min l 6 : Nat)), (leS (fun i0 => .sl 3 (fun i1 => .rat (oneQ (padZ (k i0) (p i0) i1) (padZ (k i0) (d i0) i1))) (z % 7)) (min l 6)), (rf ((z % 7 : Nat) : Int))⟩⟩⟩⟩⟩⟩⟩⟩⟩⟩⟩⟩⟩⟩
def sumQ (f : Nat → Rat) : Nat → Rat
  | 0 => 0
  | n + 1 => sumQ f n + f n
theorem sumQ_congr {f g : Nat → Rat} : ∀ n, (∀ i, i < n → f i = g i) → sumQ f n = sumQ g n
  | 0, _ => rfl
  | n + 1, h => by show sumQ f n + f n = sumQ g n + g n; rw [sumQ_congr n fun i hi => h i (by omega), h n (by omega)]
theorem sumQ_add (f g : Nat → Rat) : ∀ n, sumQ (fun i => f i + g i) n = sumQ f n + sumQ g n
  | 0 => by show (0 : Rat) = 0 + 0; grind
  | n + 1 => by show sumQ (fun i => f i + g i) n + (f n + g n) = _ + f n + (_ + g n); rw [sumQ_add f g n]; grind
theorem sumQ_mul (t : Rat) (f : Nat → Rat) : ∀ n, sumQ (fun i => t * f i) n = t * sumQ f n
  | 0 => by show (0 : Rat) = t * 0; grind
  | n + 1 => by show sumQ (fun i => t * f i) n + t * f n = t * (_ + f n); rw [sumQ_mul t f n]; grind
theorem sumQ_zero : ∀ n, sumQ (fun _ => 0) n = 0
  | 0 => rfl
  | n + 1 => by show sumQ (fun _ => 0) n + 0 = 0; rw [sumQ_zero n]; grind
theorem sumQ_comm (f : Nat → Nat → Rat) (m : Nat) : ∀ n, sumQ (fun i => sumQ (f i) m) n = sumQ (fun j => sumQ (fun i => f i j) n) m
  | 0 => by show 0 = sumQ (fun _ => 0) m; rw [sumQ_zero]
  | n + 1 => by
    show sumQ (fun i => sumQ (f i) m) n + sumQ (f n) m = sumQ (fun j => sumQ (fun i => f i j) n + f n j) m
    rw [sumQ_comm f m n, sumQ_add]
theorem sumQ_one {f : Nat → Rat} {k : Nat} : ∀ n, k < n → (∀ i, i < n → i ≠ k → f i = 0) → sumQ f n = f k
  | 0, h, _ => absurd h (Nat.not_lt_zero k)
  | n + 1, h, hz => by
    show sumQ f n + f n = f k
    by_cases e : k = n
    · subst e
      rw [sumQ_congr k (g := fun _ => 0) (fun i hi => hz i (by omega) (by omega)), sumQ_zero]; grind
    · rw [sumQ_one n (by omega) (fun i hi => hz i (by omega)), hz n (by omega) (by omega)]; grind
def sgn : Nat → Rat
  | 0 => 1
  | n + 1 => - sgn n
def skp (k i : Nat) : Nat := if i < k then i else i + 1
def minor (A : Nat → Nat → Rat) (r c : Nat) : Nat → Nat → Rat := fun i j => A (skp r i) (skp c j)
def trM (A : Nat → Nat → Rat) : Nat → Nat → Rat := fun i j => A j i
def cdet : Nat → (Nat → Nat → Rat) → Rat
  | 0, _ => 1
  | n + 1, A => sumQ (fun r => sgn r * A r 0 * cdet n (minor A r 0)) (n + 1)
theorem skp_lt {k i n : Nat} (hi : i < n) : skp k i < n + 1 := by unfold skp; split <;> omega
theorem cdet_congr : ∀ n {A B : Nat → Nat → Rat}, (∀ i, i < n → ∀ j, j < n → A i j = B i j) → cdet n A = cdet n B
  | 0, _, _, _ => rfl
  | n + 1, A, B, h => sumQ_congr _ fun c hc => by
    rw [h c hc 0 (by omega), cdet_congr n (A := minor A c 0) (B := minor B c 0) fun i hi j hj => h _ (skp_lt hi) _ (skp_lt hj)]
def setR (A : Nat → Nat → Rat) (r : Nat) (x : Nat → Rat) : Nat → Nat → Rat := fun i j => if i = r then x j else A i j
def unsk (k i : Nat) : Nat := if i < k then i else i - 1
theorem minor_setR_self (A : Nat → Nat → Rat) (r : Nat) (x : Nat → Rat) (c : Nat) : minor (setR A r x) r c = minor A r c := by
  funext i j
  show (if skp r i = r then _ else _) = _
  rw [if_neg (by unfold skp; split <;> omega)]; rfl
theorem minor_setR (A : Nat → Nat → Rat) {r i : Nat} (h : i ≠ r) (x : Nat → Rat) (c : Nat) : minor (setR A r x) i c = setR (minor A i c) (unsk i r) (fun j => x (skp c j)) := by
  funext k j
  show (if skp i k = r then _ else _) = (if k = unsk i r then _ else _)
  have e : skp i k = r ↔ k = unsk i r := by unfold skp unsk; split <;> split <;> omega
  by_cases q : skp i k = r
  · rw [if_pos q, if_pos (e.1 q)]
  · rw [if_neg q, if_neg fun q' => q (e.2 q')]; rfl
theorem cdet_lin : ∀ n (A : Nat → Nat → Rat) (r : Nat) (x y : Nat → Rat) (s t : Rat), r < n → cdet n (setR A r (fun j => s * x j + t * y j)) = s * cdet n (setR A r x) + t * cdet n (setR A r y)
  | 0, _, _, _, _, _, _, h => absurd h (Nat.not_lt_zero _)
  | n + 1, A, r, x, y, s, t, h => by
    show sumQ _ (n + 1) = s * sumQ _ (n + 1) + t * sumQ _ (n + 1)
    rw [← sumQ_mul, ← sumQ_mul, ← sumQ_add]
    refine sumQ_congr _ fun i hi => ?_
    by_cases e : i = r
    · subst e
      rw [minor_setR_self, minor_setR_self, minor_setR_self]
      show sgn i * (if i = i then _ else _) * _ = s * (sgn i * (if i = i then _ else _) * _) + t * (sgn i * (if i = i then _ else _) * _)
      rw [if_pos rfl, if_pos rfl, if_pos rfl]; grind
    · rw [minor_setR A e, minor_setR A e, minor_setR A e, cdet_lin n _ _ (fun j => x (skp 0 j)) (fun j => y (skp 0 j)) s t (by unfold unsk; split <;> omega)]
      show sgn i * (if i = r then _ else _) * _ = s * (sgn i * (if i = r then _ else _) * _) + t * (sgn i * (if i = r then _ else _) * _)
      rw [if_neg e, if_neg e, if_neg e]; grind
def swapR (A : Nat → Nat → Rat) (k l : Nat) : Nat → Nat → Rat := fun i j => A (if i = k then l else if i = l then k else i) j
theorem cdet_adj : ∀ n (A : Nat → Nat → Rat) (k : Nat), k + 1 < n → cdet n (swapR A k (k + 1)) = - cdet n A
  | 0, _, _, h => absurd h (Nat.not_lt_zero _)
  | n + 1, A, k, h => by
    show sumQ _ (n + 1) = - sumQ _ (n + 1)
    have e : ∀ f : Nat → Rat, - sumQ f (n + 1) = (-1 : Rat) * sumQ f (n + 1) := fun f => by grind
    rw [e, ← sumQ_mul]
    have key : ∀ i, i < n + 1 → (fun r => sgn r * swapR A k (k + 1) r 0 * cdet n (minor (swapR A k (k + 1)) r 0)) i = (-1 : Rat) * (fun r => sgn r * A r 0 * cdet n (minor A r 0)) (if i = k then k + 1 else if i = k + 1 then k else i) := fun i hi => by
      by_cases h1 : i = k
      · subst h1
        rw [if_pos rfl]
        show sgn i * A (if i = i then i + 1 else _) 0 * cdet n (minor (swapR A i (i + 1)) i 0) = -1 * ((- sgn i) * A (i + 1) 0 * cdet n (minor A (i + 1) 0))
        rw [if_pos rfl]
        have : minor (swapR A i (i + 1)) i 0 = minor A (i + 1) 0 := by
          funext a b
          show A (if skp i a = i then i + 1 else if skp i a = i + 1 then i else skp i a) _ = A (skp (i + 1) a) _
          congr 1
          unfold skp; repeat (first | split | omega)
        rw [this]; grind
      · by_cases h2 : i = k + 1
        · subst h2
          rw [if_neg h1, if_pos rfl]
          show (- sgn k) * A (if k + 1 = k then k + 1 else if k + 1 = k + 1 then k else _) 0 * cdet n (minor (swapR A k (k + 1)) (k + 1) 0) = -1 * (sgn k * A k 0 * cdet n (minor A k 0))
          rw [if_neg h1, if_pos rfl]
          have : minor (swapR A k (k + 1)) (k + 1) 0 = minor A k 0 := by
            funext a b
            show A (if skp (k + 1) a = k then k + 1 else if skp (k + 1) a = k + 1 then k else skp (k + 1) a) _ = A (skp k a) _
            congr 1
            unfold skp; repeat (first | split | omega)
          rw [this]; grind
        · rw [if_neg h1, if_neg h2]
          show sgn i * A (if i = k then k + 1 else if i = k + 1 then k else i) 0 * cdet n (minor (swapR A k (k + 1)) i 0) = -1 * (sgn i * A i 0 * cdet n (minor A i 0))
          rw [if_neg h1, if_neg h2]
          have : minor (swapR A k (k + 1)) i 0 = swapR (minor A i 0) (unsk i k) (unsk i k + 1) := by
            funext a b
            show A (if skp i a = k then k + 1 else if skp i a = k + 1 then k else skp i a) _ = A (skp i (if a = unsk i k then unsk i k + 1 else if a = unsk i k + 1 then unsk i k else a)) _
            congr 1
            unfold skp unsk; repeat (first | split | omega)
          rw [this, cdet_adj n (minor A i 0) (unsk i k) (by unfold unsk; split <;> omega)]; grind
    rw [sumQ_congr _ key]
    show sumQ (fun i => (-1 : Rat) * (fun r => sgn r * A r 0 * cdet n (minor A r 0)) (if i = k then k + 1 else if i = k + 1 then k else i)) (n + 1) = _
    rw [sumQ_mul, sumQ_mul]
    congr 1
    exact sumQ_swap (fun r => sgn r * A r 0 * cdet n (minor A r 0)) _ h
where sumQ_swap (f : Nat → Rat) {k : Nat} : ∀ n, k + 1 < n → sumQ (fun i => f (if i = k then k + 1 else if i = k + 1 then k else i)) n = sumQ f n
  | 0, h => absurd h (Nat.not_lt_zero _)
  | n + 1, h => by
    by_cases e : k + 1 = n
    · subst e
      show sumQ _ k + f (if k = k then _ else _) + f (if k + 1 = k then _ else _) = sumQ f k + f k + f (k + 1)
      rw [if_pos rfl, if_neg (by omega), if_pos rfl, sumQ_congr k (g := f) fun i hi => by rw [if_neg (by omega), if_neg (by omega)]]
      grind
    · show sumQ _ n + f (if n = k then _ else _) = sumQ f n + f n
      rw [sumQ_swap f n (by omega), if_neg (by omega), if_neg (by omega)]
theorem cdet_eq0 : ∀ (d n : Nat) (A : Nat → Nat → Rat) (k : Nat), k + d + 1 < n → (∀ j, j < n → A k j = A (k + d + 1) j) → cdet n A = 0
  | 0, n, A, k, h, e => by
    have h1 := cdet_adj n A k h
    have h2 : cdet n (swapR A k (k + 1)) = cdet n A := cdet_congr n fun i _ j hj => by
      show A (if i = k then k + 1 else if i = k + 1 then k else i) j = A i j
      by_cases a : i = k
      · rw [if_pos a, a]; exact (e j hj).symm
      · by_cases b : i = k + 1
        · rw [if_neg a, if_pos b, b]; exact e j hj
        · rw [if_neg a, if_neg b]
    grind
  | d + 1, n, A, k, h, e => by
    have h1 := cdet_adj n A (k + d + 1) (by omega)
    have h2 := cdet_eq0 d n (swapR A (k + d + 1) (k + d + 1 + 1)) k (by omega) fun j hj => by
      show A (if k = k + d + 1 then _ else if k = k + d + 1 + 1 then _ else k) j = A (if k + d + 1 = k + d + 1 then _ else _) j
      rw [if_neg (by omega), if_neg (by omega), if_pos rfl]
      exact e j hj
    grind
theorem cdet_eq {n : Nat} {A : Nat → Nat → Rat} {k l : Nat} (hk : k < n) (hl : l < n) (hkl : k ≠ l) (e : ∀ j, j < n → A k j = A l j) : cdet n A = 0 := by
  by_cases h : k < l
  · obtain ⟨d, rfl⟩ : ∃ d, l = k + d + 1 := ⟨l - k - 1, by omega⟩
    exact cdet_eq0 d n A k hl e
  · obtain ⟨d, rfl⟩ : ∃ d, k = l + d + 1 := ⟨k - l - 1, by omega⟩
    exact cdet_eq0 d n A l hk fun j hj => (e j hj).symm
theorem setR_self {A : Nat → Nat → Rat} {r : Nat} : setR A r (A r) = A := by
  funext i j
  show (if i = r then A r j else A i j) = A i j
  by_cases e : i = r
  · rw [if_pos e, e]
  · rw [if_neg e]
theorem cdet_addR {n : Nat} (A : Nat → Nat → Rat) {r k : Nat} (t : Rat) (hr : r < n) (hk : k < n) (h : r ≠ k) : cdet n (setR A r (fun j => A r j + t * A k j)) = cdet n A := by
  have h1 := cdet_lin n A r (A r) (A k) 1 t hr
  have h2 : cdet n (setR A r (A k)) = 0 := cdet_eq hr hk h fun j _ => by
    show (if r = r then _ else _) = (if k = r then _ else _)
    rw [if_pos rfl, if_neg (Ne.symm h)]
  have h3 : setR A r (fun j => A r j + t * A k j) = setR A r (fun j => 1 * A r j + t * A k j) := by congr 1; funext j; grind
  rw [h3, h1, h2, setR_self]; grind
theorem cdet_swap {n : Nat} (A : Nat → Nat → Rat) {k l : Nat} (hk : k < n) (hl : l < n) (h : k ≠ l) : cdet n (swapR A k l) = - cdet n A := by
  have S : ∀ x y x' y' : Nat → Rat, cdet n (setR (setR A k x) l (fun j => 1 * y j + 1 * y' j)) = 1 * cdet n (setR (setR A k x) l y) + 1 * cdet n (setR (setR A k x) l y') := fun x y _ y' => cdet_lin n _ l y y' 1 1 hl
  have C : ∀ x y : Nat → Rat, setR (setR A k x) l y = setR (setR A l y) k x := fun x y => by
    funext i j
    show (if i = l then y j else if i = k then x j else A i j) = (if i = k then x j else if i = l then y j else A i j)
    by_cases a : i = l
    · subst a; rw [if_pos rfl, if_neg (Ne.symm h), if_pos rfl]
    · rw [if_neg a, if_neg a]
  have Z : ∀ x : Nat → Rat, cdet n (setR (setR A k x) l x) = 0 := fun x => cdet_eq hk hl h fun j _ => by
    show (if k = l then _ else if k = k then _ else _) = (if l = l then _ else _)
    rw [if_neg h, if_pos rfl, if_pos rfl]
  have z := fun j => (1 : Rat) * A k j + 1 * A l j
  have e0 := Z (fun j => 1 * A k j + 1 * A l j)
  have e1 := cdet_lin n (setR A k (fun j => 1 * A k j + 1 * A l j)) l (A k) (A l) 1 1 hl
  have e2 : ∀ y, cdet n (setR (setR A k (fun j => 1 * A k j + 1 * A l j)) l y) = cdet n (setR (setR A k (A k)) l y) + cdet n (setR (setR A k (A l)) l y) := fun y => by
    rw [C, cdet_lin n (setR A l y) k (A k) (A l) 1 1 hk, ← C, ← C]; grind
  rw [e0, e2, e2, Z, Z, setR_self] at e1
  have e3 : setR A l (A l) = A := setR_self
  have e4 : swapR A k l = setR (setR A k (A l)) l (A k) := by
    funext i j
    show A (if i = k then l else if i = l then k else i) j = (if i = l then A k j else if i = k then A l j else A i j)
    by_cases a : i = k
    · subst a; rw [if_pos rfl, if_neg h, if_pos rfl]
    · by_cases b : i = l
      · rw [if_neg a, if_pos b, if_pos b]
      · rw [if_neg a, if_neg b, if_neg b, if_neg a]
  rw [e3] at e1
  rw [e4]; grind
def blk (c : Nat) (A : Nat → Nat → Rat) : Nat → Nat → Rat := fun i j => A (c + i) (c + j)
theorem cdet_col0 {n : Nat} {A : Nat → Nat → Rat} (h : ∀ i, 0 < i → i < n + 1 → A i 0 = 0) : cdet (n + 1) A = A 0 0 * cdet n (blk 1 A) := by
  show sumQ _ (n + 1) = _
  rw [sumQ_one (k := 0) (n + 1) (by omega) (fun i hi h0 => by rw [h i (by omega) hi]; grind)]
  have : minor A 0 0 = blk 1 A := by
    funext i j
    show A (skp 0 i) (skp 0 j) = A (1 + i) (1 + j)
    unfold skp; rw [if_neg (Nat.not_lt_zero i), if_neg (Nat.not_lt_zero j), Nat.add_comm, Nat.add_comm j]
  rw [this]
  show (1 : Rat) * A 0 0 * _ = _
  grind
theorem cdet_zero0 {n : Nat} {A : Nat → Nat → Rat} (h : ∀ i, i < n + 1 → A i 0 = 0) : cdet (n + 1) A = 0 := by
  rw [cdet_col0 fun i _ hi => h i hi, h 0 (by omega)]; grind
def elimQ (B : Nat → Nat → Rat) (c h : Nat) : Nat → Nat → Rat := fun i j => if c < i ∧ i < h then B i j + - (B i c / B c c) * B c j else B i j
theorem elimQ_zero {B : Nat → Nat → Rat} {c i j : Nat} : B i j = elimQ B c (c + 1) i j := (if_neg (by omega)).symm
theorem elimQ_at {B : Nat → Nat → Rat} {c h j : Nat} (hc : c < h) : B h j + - (B h c / B c c) * B c j = elimQ B c (h + 1) h j := (if_pos ⟨hc, Nat.lt_succ_self h⟩).symm
theorem elimQ_ne {B : Nat → Nat → Rat} {c h i : Nat} (hi : i ≠ h) : elimQ B c (h + 1) i = elimQ B c h i := by
  funext j
  unfold elimQ
  by_cases e : c < i ∧ i < h
  · rw [if_pos e, if_pos ⟨e.1, by omega⟩]
  · rw [if_neg e, if_neg fun e' => e ⟨e'.1, by omega⟩]
theorem elimQ_top {B : Nat → Nat → Rat} {c h i : Nat} (hi : i ≤ c) : elimQ B c h i = B i := by
  funext j; exact if_neg (by omega)
theorem elimQ_end {B : Nat → Nat → Rat} {c h i : Nat} (hi : h ≤ i) : elimQ B c h i = B i := by
  funext j; exact if_neg (by omega)
theorem elimQ_det {B : Nat → Nat → Rat} {c n : Nat} : ∀ d, c + 1 + d ≤ n → cdet (n - c) (blk c (elimQ B c (c + 1 + d))) = cdet (n - c) (blk c B)
  | 0, _ => cdet_congr _ fun i _ j _ => (elimQ_zero (B := B) (c := c) (i := c + i) (j := c + j)).symm
  | d + 1, h => by
    refine Eq.trans ?_ (elimQ_det (B := B) d (by omega))
    have h1 := cdet_addR (n := n - c) (blk c (elimQ B c (c + 1 + d))) (r := d + 1) (k := 0) (- (B (c + (d + 1)) c / B c c)) (by omega) (by omega) (by omega)
    rw [← h1]
    refine cdet_congr _ fun i hi j hj => ?_
    show elimQ B c (c + 1 + d + 1) (c + i) (c + j) = (if i = d + 1 then elimQ B c (c + 1 + d) (c + (d + 1)) (c + j) + - (B (c + (d + 1)) c / B c c) * elimQ B c (c + 1 + d) (c + 0) (c + j) else elimQ B c (c + 1 + d) (c + i) (c + j))
    by_cases e : i = d + 1
    · subst e
      rw [if_pos rfl, elimQ_end (B := B) (h := c + 1 + d) (i := c + (d + 1)) (by omega), elimQ_top (B := B) (h := c + 1 + d) (i := c + 0) (by omega)]
      exact if_pos ⟨by omega, by omega⟩
    · rw [if_neg e, elimQ_ne (by omega)]
theorem swap_det {B : Nat → Nat → Rat} {c k n : Nat} (hc : c < k) (hk : k < n) : cdet (n - c) (blk c (swapR B c k)) = - cdet (n - c) (blk c B) := by
  rw [← cdet_swap (blk c B) (k := 0) (l := k - c) (by omega) (by omega) (by omega)]
  refine cdet_congr _ fun i _ j _ => ?_
  show B (if c + i = c then k else if c + i = k then c else c + i) (c + j) = B (c + (if i = 0 then k - c else if i = k - c then 0 else i)) (c + j)
  congr 1
  by_cases a : i = 0
  · rw [if_pos (by omega), if_pos a]; omega
  · by_cases b : i = k - c
    · rw [if_neg (by omega), if_pos (by omega), if_neg a, if_pos b]; rfl
    · rw [if_neg (by omega), if_neg (by omega), if_neg a, if_neg b]
theorem det_none {B : Nat → Nat → Rat} {c n : Nat} {o : Rat} (hc : c < n) (h : ∀ i, c ≤ i → i < n → B i c = 0) : o * cdet (n - c) (blk c B) = 0 := by
  obtain ⟨m, hm⟩ : ∃ m, n - c = m + 1 := ⟨n - c - 1, by omega⟩
  rw [hm, cdet_zero0 fun i hi => h (c + i) (by omega) (by omega)]; grind
theorem det_step {B : Nat → Nat → Rat} {c n : Nat} {o D : Rat} (hc : c < n) (hp : B c c ≠ 0) (h : o * cdet (n - c) (blk c B) = D) : o * B c c * cdet (n - (c + 1)) (blk (c + 1) (elimQ B c n)) = D := by
  obtain ⟨m, hm⟩ : ∃ m, n - c = m + 1 := ⟨n - c - 1, by omega⟩
  have h1 := elimQ_det (B := B) (c := c) (n := n) (n - c - 1) (by omega)
  rw [show c + 1 + (n - c - 1) = n by omega, hm, cdet_col0 fun i h0 hi => by
    show elimQ B c n (c + i) (c + 0) = 0
    unfold elimQ
    rw [if_pos ⟨by omega, by omega⟩]
    show B (c + i) c + - (B (c + i) c / B c c) * B c c = 0
    rw [Rat.neg_mul, Rat.div_mul_cancel hp]; grind] at h1
  have h2 : blk c (elimQ B c n) 0 0 = B c c := by show elimQ B c n (c + 0) (c + 0) = _; rw [elimQ_top (by omega)]; rfl
  have h3 : cdet m (blk 1 (blk c (elimQ B c n))) = cdet (n - (c + 1)) (blk (c + 1) (elimQ B c n)) := by
    rw [show n - (c + 1) = m by omega]
    refine cdet_congr _ fun i _ j _ => ?_
    show elimQ B c n (c + (1 + i)) (c + (1 + j)) = elimQ B c n (c + 1 + i) (c + 1 + j)
    rw [Nat.add_assoc, Nat.add_assoc]
  rw [h2, h3] at h1
  rw [← h, hm, ← h1]; grind
def leadK (B : Nat → Nat → Rat) (c : Nat) : Nat → Nat → Nat
  | a, 0 => a
  | a, d + 1 => if B a c = 0 then leadK B c (a + 1) d else a
theorem leadK_le {B : Nat → Nat → Rat} {c : Nat} : ∀ d a, a ≤ leadK B c a d ∧ leadK B c a d ≤ a + d
  | 0, a => ⟨Nat.le_refl a, Nat.le_refl a⟩
  | d + 1, a => by
    unfold leadK
    split
    · have := leadK_le (B := B) (c := c) d (a + 1); omega
    · omega
theorem leadK_at {B : Nat → Nat → Rat} {c : Nat} : ∀ d a, leadK B c a d < a + d → B (leadK B c a d) c ≠ 0
  | 0, a, h => absurd h (Nat.lt_irrefl a)
  | d + 1, a, h => by
    unfold leadK at h ⊢
    split
    · rename_i e; rw [if_pos e] at h; exact leadK_at d (a + 1) (by omega)
    · assumption
theorem leadK_none {B : Nat → Nat → Rat} {c : Nat} : ∀ d a i, a ≤ i → i < leadK B c a d → B i c = 0
  | 0, a, i, h, h2 => absurd h2 (Nat.not_lt.2 h)
  | d + 1, a, i, h, h2 => by
    unfold leadK at h2
    split at h2
    · rename_i e
      by_cases q : i = a
      · rw [q]; exact e
      · exact leadK_none d (a + 1) i (by omega) h2
    · omega
theorem leadK_eq {B : Nat → Nat → Rat} {c : Nat} : ∀ d a k, a ≤ k → k ≤ a + d → (∀ i, a ≤ i → i < k → B i c = 0) → (k < a + d → B k c ≠ 0) → leadK B c a d = k
  | 0, a, k, h, h2, _, _ => by show a = k; omega
  | d + 1, a, k, h, h2, h3, h4 => by
    unfold leadK
    split
    · rename_i e
      have : a ≠ k := fun q => h4 (by omega) (by rw [← q]; exact e)
      exact leadK_eq d (a + 1) k (by omega) (by omega) (fun i hi => h3 i (by omega)) (fun hk => h4 (by omega))
    · rename_i e
      by_cases q : a = k
      · exact q
      · exact absurd (h3 a (Nat.le_refl a) (by omega)) e
def scaleQ (B : Nat → Nat → Rat) (a c : Nat) : Nat → Nat → Rat := setR B a (fun j => (B a c)⁻¹ * B a j)
def clearQ (B : Nat → Nat → Rat) (a c : Nat) : Nat → Nat → Rat := fun r j => if r = a then B a j else B r j + -(B r c) * B a j
abbrev RedS := (Nat → Nat → Rat) × Nat × (Nat → Nat)
def redStep (m : Nat) (s : RedS) (c : Nat) : RedS :=
  if leadK s.1 c s.2.1 (m - s.2.1) < m then (clearQ (scaleQ (swapR s.1 s.2.1 (leadK s.1 c s.2.1 (m - s.2.1))) s.2.1 c) s.2.1 c, s.2.1 + 1, fun i => if i = s.2.1 then c else s.2.2 i) else s
def red (m : Nat) (A : Nat → Nat → Rat) : Nat → RedS
  | 0 => (A, 0, fun _ => 0)
  | c + 1 => redStep m (red m A c) c
def Spn (m : Nat) (B : Nat → Nat → Rat) (x : Nat → Rat) : Prop := ∃ t : Nat → Rat, ∀ j, x j = sumQ (fun k => t k * B k j) m
theorem Spn.self {m : Nat} {B : Nat → Nat → Rat} {r : Nat} (hr : r < m) : Spn m B (B r) := ⟨fun k => if k = r then 1 else 0, fun j => by
  rw [sumQ_one (k := r) m hr fun i _ hi => by show (if i = r then (1 : Rat) else 0) * B i j = 0; rw [if_neg hi]; grind]
  show B r j = (if r = r then (1 : Rat) else 0) * B r j
  rw [if_pos rfl]; grind⟩
theorem Spn.lin {m : Nat} {B : Nat → Nat → Rat} {x y : Nat → Rat} (s t : Rat) (hx : Spn m B x) (hy : Spn m B y) : Spn m B (fun j => s * x j + t * y j) := by
  obtain ⟨u, hu⟩ := hx
  obtain ⟨v, hv⟩ := hy
  refine ⟨fun k => s * u k + t * v k, fun j => ?_⟩
  show s * x j + t * y j = sumQ (fun k => (s * u k + t * v k) * B k j) m
  rw [hu, hv, ← sumQ_mul, ← sumQ_mul, ← sumQ_add]
  exact sumQ_congr m fun i _ => by grind
theorem Spn.sum {m p : Nat} {B : Nat → Nat → Rat} {X : Nat → Nat → Rat} {t : Nat → Rat} (h : ∀ k, k < p → Spn m B (X k)) : Spn m B (fun j => sumQ (fun k => t k * X k j) p) := by
  induction p with
  | zero => exact ⟨fun _ => 0, fun j => by show 0 = sumQ (fun k => 0 * B k j) m; rw [sumQ_congr m (g := fun _ => 0) fun i _ => by grind, sumQ_zero]⟩
  | succ p ih =>
    have h1 := Spn.lin 1 (t p) (ih fun k hk => h k (by omega)) (h p (by omega))
    obtain ⟨u, hu⟩ := h1
    exact ⟨u, fun j => by rw [← hu]; show sumQ (fun k => t k * X k j) p + t p * X p j = _; grind⟩
theorem Spn.trans {m p : Nat} {B C : Nat → Nat → Rat} {x : Nat → Rat} (hx : Spn p C x) (h : ∀ k, k < p → Spn m B (C k)) : Spn m B x := by
  obtain ⟨t, ht⟩ := hx
  obtain ⟨u, hu⟩ := Spn.sum (t := t) h
  exact ⟨u, fun j => (ht j).trans (hu j)⟩
def Same2 (m : Nat) (A B : Nat → Nat → Rat) : Prop := (∀ r, r < m → Spn m B (A r)) ∧ ∀ r, r < m → Spn m A (B r)
theorem Same2.rfl {m : Nat} {A : Nat → Nat → Rat} : Same2 m A A := ⟨fun _ h => .self h, fun _ h => .self h⟩
theorem Same2.trans {m : Nat} {A B C : Nat → Nat → Rat} (h : Same2 m A B) (k : Same2 m B C) : Same2 m A C := ⟨fun r hr => (h.1 r hr).trans k.1, fun r hr => (k.2 r hr).trans h.2⟩
structure RedInv (m : Nat) (A : Nat → Nat → Rat) (c : Nat) (s : RedS) : Prop where
  am : s.2.1 ≤ m
  ac : s.2.1 ≤ c
  lt : ∀ i, i < s.2.1 → s.2.2 i < c
  inc : ∀ i j, i < j → j < s.2.1 → s.2.2 i < s.2.2 j
  one : ∀ i, i < s.2.1 → s.1 i (s.2.2 i) = 1
  zero : ∀ i, i < s.2.1 → ∀ r, r < m → r ≠ i → s.1 r (s.2.2 i) = 0
  left : ∀ i, i < s.2.1 → ∀ j, j < s.2.2 i → s.1 i j = 0
  low : ∀ r, s.2.1 ≤ r → r < m → ∀ j, j < c → s.1 r j = 0
  same : Same2 m A s.1
theorem sumQ_cut {f : Nat → Rat} {a : Nat} : ∀ m, a ≤ m → (∀ k, a ≤ k → k < m → f k = 0) → sumQ f m = sumQ f a
  | 0, h, _ => by rw [Nat.le_zero.1 h]
  | m + 1, h, hz => by
    by_cases e : a = m + 1
    · rw [e]
    · show sumQ f m + f m = _
      rw [sumQ_cut m (by omega) (fun k h1 h2 => hz k h1 (by omega)), hz m (by omega) (by omega)]; grind
theorem RedInv.row {m n : Nat} {A : Nat → Nat → Rat} {s : RedS} (H : RedInv m A n s) {r : Nat} (hr : r < m) : ∀ j, j < n → A r j = sumQ (fun k => A r (s.2.2 k) * s.1 k j) s.2.1 := by
  obtain ⟨t, ht⟩ := H.same.1 r hr
  have h1 : ∀ j, j < n → A r j = sumQ (fun k => t k * s.1 k j) s.2.1 := fun j hj => by
    rw [ht, sumQ_cut m H.am fun k h1 h2 => by rw [H.low k h1 h2 j hj]; grind]
  intro j hj
  rw [h1 j hj]
  refine sumQ_congr _ fun k hk => ?_
  have hl := H.lt k hk
  rw [h1 _ hl, sumQ_one (k := k) _ hk fun i hi hne => by rw [H.zero k hk i (Nat.lt_of_lt_of_le hi H.am) hne]; grind, H.one k hk]; grind
theorem RedInv.inj {m n : Nat} {A : Nat → Nat → Rat} {s : RedS} (H : RedInv m A n s) {i k : Nat} (hi : i < s.2.1) (hk : k < s.2.1) (e : s.2.2 i = s.2.2 k) : i = k := by
  rcases Nat.lt_trichotomy i k with h | h | h
  · have := H.inc i k h hk; omega
  · exact h
  · have := H.inc k i h hi; omega
theorem RedInv.free {m n : Nat} {A : Nat → Nat → Rat} {s : RedS} (H : RedInv m A n s) (hn : s.2.1 < n) : ∃ c, c < n ∧ ∀ i, i < s.2.1 → s.2.2 i ≠ c := by
  refine Classical.byContradiction fun hc => ?_
  have all : ∀ c, c < n → ∃ i, i < s.2.1 ∧ s.2.2 i = c := fun c hcn => Classical.byContradiction fun k => hc ⟨c, hcn, fun i hi e => k ⟨i, hi, e⟩⟩
  have key : ∀ c, c < n → c < s.2.1 ∧ s.2.2 c = c := by
    intro c
    induction c using Nat.strongRecOn with
    | _ c ih =>
      intro hcn
      obtain ⟨i, hi, e⟩ := all c hcn
      rcases Nat.lt_trichotomy i c with q | q | q
      · have := (ih i q (by omega)).2; omega
      · subst q; exact ⟨hi, e⟩
      · have h1 := H.inc c i q hi
        by_cases c0 : c = 0
        · omega
        · have h2 := (ih (c - 1) (by omega) (by omega)).2
          have h3 := H.inc (c - 1) c (by omega) (by omega)
          omega
  have := (key s.2.1 hn).1
  omega
def wideQ (n : Nat) (q : Nat → Nat → Rat) (b : Nat → Rat) : Nat → Nat → Rat := fun r j => if j < n then q r j else b r
def noSol (m n : Nat) (q : Nat → Nat → Rat) (b : Nat → Rat) : Prop := leadK (red m (wideQ n q b) n).1 n (red m (wideQ n q b) n).2.1 (m - (red m (wideQ n q b) n).2.1) < m
instance (m n : Nat) (q : Nat → Nat → Rat) (b : Nat → Rat) : Decidable (noSol m n q b) := inferInstanceAs (Decidable (_ < _))
theorem Spn.rel {m n : Nat} {A : Nat → Nat → Rat} {w x : Nat → Rat} (h : ∀ r, r < m → A r n = sumQ (fun j => A r j * w j) n) (hx : Spn m A x) : x n = sumQ (fun j => x j * w j) n := by
  obtain ⟨t, ht⟩ := hx
  rw [ht n, sumQ_congr m (g := fun k => sumQ (fun j => t k * (A k j * w j)) n) fun k hk => by rw [h k hk, sumQ_mul], sumQ_comm (fun k j => t k * (A k j * w j)) n m]
  refine sumQ_congr n fun j _ => ?_
  rw [ht j]
  have : sumQ (fun k => t k * A k j) m * w j = w j * sumQ (fun k => t k * A k j) m := by grind
  rw [this, ← sumQ_mul]
  exact sumQ_congr m fun k _ => by grind
def htq (q : Rat) : Nat := max (nw q.num.natAbs) (nw q.den)
theorem ht_sz (q : Rat) : htq q ≤ szq q := by unfold htq szq; omega
theorem sz_ht (q : Rat) : szq q ≤ 2 * htq q := by unfold htq szq; omega
theorem ht_divInt (a b : Int) (hb : b ≠ 0) : htq (Rat.divInt a b) ≤ max (nw a.natAbs) (nw b.natAbs) := by
  unfold htq
  rw [new_den a b hb, new_num a b hb]
  have e : ∀ (s : Bool) (x : Nat), (signed s x).natAbs = x := fun s x => by cases s <;> simp [signed]
  rw [e]
  have h1 := nw_mono' (Nat.div_le_self a.natAbs (Nat.gcd a.natAbs b.natAbs))
  have h2 := nw_mono' (Nat.div_le_self b.natAbs (Nat.gcd a.natAbs b.natAbs))
  omega
theorem ht_mul (p q : Rat) : htq (p * q) ≤ htq p + htq q := by
  rw [mul_as]
  have h := ht_divInt (p.num * q.num) ((p.den * q.den : Nat) : Int) (den2_ne p q)
  rw [Int.natAbs_mul, Int.natAbs_natCast] at h
  have h1 := nw_mul p.num.natAbs q.num.natAbs
  have h2 := nw_mul p.den q.den
  unfold htq at *
  omega
theorem ht_add (p q : Rat) : htq (p + q) ≤ htq p + htq q + 1 := by
  rw [add_as]
  have h := ht_divInt (p.num * q.den + q.num * p.den) ((p.den * q.den : Nat) : Int) (den2_ne p q)
  rw [Int.natAbs_natCast] at h
  have h0 := nw_mono' (natAbs_add_nat (p.num * q.den) (q.num * p.den))
  rw [Int.natAbs_mul, Int.natAbs_mul, Int.natAbs_natCast, Int.natAbs_natCast] at h0
  have h3 := nw_add (p.num.natAbs * q.den) (q.num.natAbs * p.den)
  have h4 := nw_mul p.num.natAbs q.den
  have h5 := nw_mul q.num.natAbs p.den
  have h2 := nw_mul p.den q.den
  unfold htq at *
  omega
theorem ht_neg (p : Rat) : htq (-p) = htq p := by unfold htq; rw [Rat.neg_num, Rat.neg_den, Int.natAbs_neg]
theorem ht_zero : htq 0 = 1 := by decide +kernel
theorem ht_one : htq 1 = 1 := by decide +kernel
theorem ht_inv (p : Rat) : htq p⁻¹ ≤ htq p := by
  by_cases h : p = 0
  · rw [h, Rat.inv_zero]; exact Nat.le_refl _
  · rw [Rat.inv_def]
    have h1 : p.num ≠ 0 := fun e => h (Rat.num_eq_zero.1 e)
    have := ht_divInt p.den p.num h1
    rw [Int.natAbs_natCast] at this
    unfold htq at *
    omega
theorem ht_sub (p q : Rat) : htq (p - q) ≤ htq p + htq q + 1 := by
  have := ht_add p (-q)
  rw [ht_neg] at this
  rw [Rat.sub_eq_add_neg]; exact this
theorem ht_div (p q : Rat) : htq (p / q) ≤ htq p + htq q := by
  rw [Rat.div_def]
  have := ht_mul p q⁻¹
  have := ht_inv q
  omega
theorem ht_room {a b : Rat} {S : Nat} (ha : htq a ≤ S) (hb : htq b ≤ S) (hS : S ≤ 4294967296) : szq a + szq b ≤ 17179869184 := by
  have := sz_ht a
  have := sz_ht b
  omega
theorem ht_room2 {a b r : Rat} {S : Nat} (ha : htq a ≤ S) (hb : htq b ≤ S) (hr : htq r ≤ S) (hS : S ≤ 1073741824) : szq r + szq b ≤ 17179869184 ∧ szq a + szq (r * b) ≤ 17179869184 := by
  have := sz_ht a
  have := sz_ht b
  have := sz_ht r
  have := sz_ht (r * b)
  have := ht_mul r b
  omega
def hE (s c : Nat) : Nat := (s + 1) * 4 ^ c
theorem hE_succ (s c : Nat) : hE s (c + 1) = 4 * hE s c := by unfold hE; rw [Nat.pow_succ, ← Nat.mul_assoc, Nat.mul_comm]
theorem hE_zero (s : Nat) : hE s 0 = s + 1 := by unfold hE; omega
def HtB (m n B : Nat) (A : Nat → Nat → Rat) : Prop := ∀ i, i < m → ∀ j, j < n → htq (A i j) + 1 ≤ B
theorem HtB.swap {m n B k l : Nat} {A : Nat → Nat → Rat} (hk : k < m) (hl : l < m) (h : HtB m n B A) : HtB m n B (swapR A k l) := fun i hi j hj => by
  show htq (A (if i = k then l else if i = l then k else i) j) + 1 ≤ B
  refine h _ ?_ j hj
  split
  · exact hl
  · split
    · exact hk
    · exact hi
theorem HtB.scale {m n B a c : Nat} {A : Nat → Nat → Rat} (ha : a < m) (hc : c < n) (h : HtB m n B A) {j : Nat} (hj : j < n) : htq ((A a c)⁻¹ * A a j) + 2 ≤ 2 * B := by
  have h1 := h a ha c hc
  have h2 := h a ha j hj
  have h3 := ht_mul (A a c)⁻¹ (A a j)
  have h4 := ht_inv (A a c)
  omega
theorem HtB.clear {m n B a c : Nat} {A : Nat → Nat → Rat} (ha : a < m) (hc : c < n) (h : HtB m n B A) : HtB m n (4 * B) (clearQ (scaleQ A a c) a c) := fun i hi j hj => by
  have h1 := h.scale ha hc hj
  unfold clearQ scaleQ setR
  dsimp only
  rw [if_pos rfl]
  split
  · omega
  · have h2 := h i hi j hj
    have h3 := h i hi c hc
    have h4 := ht_add (A i j) (-(A i c) * ((A a c)⁻¹ * A a j))
    have h5 := ht_mul (-(A i c)) ((A a c)⁻¹ * A a j)
    rw [ht_neg] at h5
    omega
def szE (s c : Nat) : Nat := (s + 3) * 9 ^ c
theorem szE_succ (s c : Nat) : szE s (c + 1) = 9 * szE s c := by unfold szE; rw [Nat.pow_succ, ← Nat.mul_assoc, Nat.mul_comm]
theorem szE_ge (s c : Nat) : s + 3 ≤ szE s c := by
  unfold szE
  exact Nat.le_mul_of_pos_right _ (Nat.pow_pos (by decide))
structure DetI (s n : Nat) (q : Nat → Nat → Rat) (g : Nat × (Nat → Nat → Rat) × Rat) : Prop where
  le : g.1 ≤ n
  eq : g.2.2 * cdet (n - g.1) (blk g.1 g.2.1) = cdet n q
  sz : ∀ i, i < n → ∀ j, j < n → szq (g.2.1 i j) ≤ szE s g.1
  so : szq g.2.2 ≤ 2 + g.1 * szE s g.1
theorem blk_zero (A : Nat → Nat → Rat) : blk 0 A = A := by
  funext i j
  show A (0 + i) (0 + j) = A i j
  rw [Nat.zero_add, Nat.zero_add]
theorem DetI.start {s n : Nat} {q : Nat → Nat → Rat} (hs : ∀ i, i < n → ∀ j, j < n → szq (q i j) ≤ s) : DetI s n q (0, q, 1) :=
  ⟨Nat.zero_le n, by show (1 : Rat) * cdet (n - 0) (blk 0 q) = _; rw [blk_zero, Nat.sub_zero]; grind, fun i hi j hj => Nat.le_trans (hs i hi j hj) (by have := szE_ge s 0; show s ≤ szE s 0; omega), by show szq 1 ≤ 2 + 0 * _; rw [Nat.zero_mul]; decide +kernel⟩
theorem setR_ne {A : Nat → Nat → Rat} {r t : Nat} {x : Nat → Rat} (h : t ≠ r) : setR A r x t = A t := by funext j; exact if_neg h
theorem swap_self {A : Nat → Nat → Rat} {k : Nat} : swapR A k k = A := by
  funext i j
  show A (if i = k then k else if i = k then k else i) j = A i j
  by_cases z : i = k
  · rw [if_pos z, z]
  · rw [if_neg z, if_neg z]
theorem swap_sz {A : Nat → Nat → Rat} {k l n B : Nat} (hk : k < n) (hl : l < n) (h : ∀ i, i < n → ∀ j, j < n → szq (A i j) ≤ B) : ∀ i, i < n → ∀ j, j < n → szq (swapR A k l i j) ≤ B := fun i hi j hj => by
  show szq (A (if i = k then l else if i = l then k else i) j) ≤ B
  refine h _ ?_ j hj
  split
  · exact hl
  · split
    · exact hk
    · exact hi
theorem elim_sz1 {a b c d : Rat} {S : Nat} (h0 : 3 ≤ S) (ha : szq a ≤ S) (hb : szq b ≤ S) (hc : szq c ≤ S) (hd : szq d ≤ S) : szq (b / c) ≤ 2 * S + 1 ∧ szq (-(b / c) * d) ≤ 3 * S + 1 ∧ szq (a + -(b / c) * d) ≤ 9 * S := by
  have h1 : szq (b / c) ≤ 2 * S + 1 := by
    rw [Rat.div_def]
    have := szq_mul b c⁻¹
    have := szq_inv c
    omega
  have h2 : szq (-(b / c) * d) ≤ 3 * S + 1 := by
    have := szq_mul (-(b / c)) d
    rw [szq_neg] at this
    omega
  have h3 := szq_add a (-(b / c) * d)
  exact ⟨h1, h2, by omega⟩
theorem elim_szB {B : Nat → Nat → Rat} {c h n S : Nat} (h0 : 3 ≤ S) (hc : c < n) (hB : ∀ i, i < n → ∀ j, j < n → szq (B i j) ≤ S) : ∀ i, i < n → ∀ j, j < n → szq (elimQ B c h i j) ≤ 9 * S := fun i hi j hj => by
  unfold elimQ
  split
  · exact (elim_sz1 h0 (hB i hi j hj) (hB i hi c hc) (hB c hc c hc) (hB c hc j hj)).2.2
  · have := hB i hi j hj; omega
theorem DetI.next {s n K : Nat} {q : Nat → Nat → Rat} {g : Nat × (Nat → Nat → Rat) × Rat} (H : DetI s n q g) (hc : g.1 < n) (h1 : g.1 ≤ K) (h2 : K < n) (hp : g.2.1 K g.1 ≠ 0) :
    DetI s n q (g.1 + 1, elimQ (swapR g.2.1 g.1 K) g.1 n, (if K = g.1 then g.2.2 else -g.2.2) * swapR g.2.1 g.1 K g.1 g.1) := by
  have hsw := swap_sz hc h2 H.sz
  have h0 : 3 ≤ szE s g.1 := by have := szE_ge s g.1; omega
  have hpp : swapR g.2.1 g.1 K g.1 g.1 ≠ 0 := by
    show g.2.1 (if g.1 = g.1 then K else _) g.1 ≠ 0
    rw [if_pos rfl]; exact hp
  refine ⟨hc, ?_, fun i hi j hj => ?_, ?_⟩
  · refine det_step hc hpp ?_
    by_cases e : K = g.1
    · subst e; rw [if_pos rfl, swap_self]; exact H.eq
    · rw [if_neg e, swap_det (by omega) h2, ← H.eq]; grind
  · rw [szE_succ]; exact elim_szB h0 hc hsw i hi j hj
  · show szq (_ * _) ≤ 2 + (g.1 + 1) * szE s (g.1 + 1)
    have h3 := szq_mul (if K = g.1 then g.2.2 else -g.2.2) (swapR g.2.1 g.1 K g.1 g.1)
    have h4 : szq (if K = g.1 then g.2.2 else -g.2.2) = szq g.2.2 := by split; rfl; exact szq_neg _
    have h5 := hsw g.1 hc g.1 hc
    have h6 := H.so
    rw [szE_succ, Nat.add_mul, Nat.one_mul]
    have h7 : g.1 * szE s g.1 ≤ g.1 * (9 * szE s g.1) := Nat.mul_le_mul_left _ (by omega)
    omega
theorem DetI.none {s n : Nat} {q : Nat → Nat → Rat} {g : Nat × (Nat → Nat → Rat) × Rat} (H : DetI s n q g) (hc : g.1 < n) (h : leadK g.2.1 g.1 g.1 (n - g.1) = n) : cdet n q = 0 := by
  rw [← H.eq]
  exact det_none hc fun i h1 h2 => leadK_none _ _ i h1 (by rw [h]; exact h2)
theorem DetI.done {s n : Nat} {q : Nat → Nat → Rat} {g : Nat × (Nat → Nat → Rat) × Rat} (H : DetI s n q g) (h : g.1 = n) : g.2.2 = cdet n q := by
  rw [← H.eq, h, Nat.sub_self]
  show _ = g.2.2 * 1
  grind
open Go.RowKit
theorem leadK_step {q : Nat → Nat → Rat} {m g c : Nat} (hg : g < m) (hz : q g c = 0) : leadK q c g (m - g) = leadK q c (g + 1) (m - (g + 1)) := by
  rw [show m - g = (m - (g + 1)) + 1 by omega]
  exact if_pos hz
theorem swap_at {A : Nat → Nat → Rat} {a k c : Nat} : A a c = swapR A a k k c := by
  show A a c = A (if k = a then k else if k = k then a else k) c
  by_cases e : k = a
  · rw [if_pos e, e]
  · rw [if_neg e, if_pos rfl]
theorem swap_other {A : Nat → Nat → Rat} {a k t : Nat} (h : t ≠ k) : swapR A a k t = setR A a (A k) t := by
  funext j
  show A (if t = a then k else if t = k then a else t) j = if t = a then A k j else A t j
  by_cases e : t = a
  · rw [if_pos e, if_pos e]
  · rw [if_neg e, if_neg h, if_neg e]
theorem of_guard {P : Prop} [Decidable P] (h : (decide P == true) = true) : P := by simpa using h
theorem swap_same {A : Nat → Nat → Rat} {a k i j : Nat} (h : k = a) : swapR A a k i j = A i j := by rw [h, swap_self]
theorem elim_now {B : Nat → Nat → Rat} {c h j : Nat} (hc : c < h) : elimQ B c h h j + -(elimQ B c h h c / elimQ B c h c c) * elimQ B c h c j = elimQ B c (h + 1) h j := by
  rw [elimQ_end (Nat.le_refl h), elimQ_top (Nat.le_refl c)]
  exact elimQ_at hc
def sw (c k i : Nat) : Nat := if i = c then k else if i = k then c else i
theorem sw_sw (c k i : Nat) : sw c k (sw c k i) = i := by
  unfold sw
  by_cases h : i = c
  · rw [if_pos h]
    by_cases e : k = c
    · rw [if_pos e]; omega
    · rw [if_neg e, if_pos rfl]; omega
  · rw [if_neg h]
    by_cases e : i = k
    · rw [if_pos e, if_pos rfl]; omega
    · rw [if_neg e, if_neg h, if_neg e]
theorem sw_lt {c k i n : Nat} (hc : c < n) (hk : k < n) (hi : i < n) : sw c k i < n := by unfold sw; split; exact hk; split; exact hc; exact hi
theorem sw_c {c k : Nat} : sw c k c = k := if_pos rfl
theorem sw_same (c i : Nat) : sw c c i = i := by unfold sw; split; omega; rfl
theorem swapR_sw (A : Nat → Nat → Rat) (c k i : Nat) : swapR A c k i = A (sw c k i) := rfl
def pSw (P : Nat → Nat) (c k i : Nat) : Nat := P (sw c k i)
def rSw (ρ : Nat → Nat) (c k j : Nat) : Nat := sw c k (ρ j)
structure Bij (n : Nat) (P ρ : Nat → Nat) : Prop where
  lt : ∀ i, i < n → P i < n
  lt' : ∀ i, i < n → ρ i < n
  inv : ∀ i, ρ (P i) = i
  inv' : ∀ i, P (ρ i) = i
theorem Bij.id {n : Nat} : Bij n (fun i => i) (fun i => i) := ⟨fun _ h => h, fun _ h => h, fun _ => rfl, fun _ => rfl⟩
theorem Bij.sw {n c k : Nat} {P ρ : Nat → Nat} (H : Bij n P ρ) (hc : c < n) (hk : k < n) : Bij n (pSw P c k) (rSw ρ c k) :=
  ⟨fun i hi => H.lt _ (sw_lt hc hk hi), fun i hi => sw_lt hc hk (H.lt' i hi), fun i => by unfold pSw rSw; rw [H.inv, sw_sw], fun i => by unfold pSw rSw; rw [sw_sw, H.inv']⟩
theorem Bij.inj {n : Nat} {P ρ : Nat → Nat} (H : Bij n P ρ) {i j : Nat} (e : P i = P j) : i = j := by rw [← H.inv i, e, H.inv]
def lowQ (L U : Nat → Nat → Rat) (c h : Nat) : Nat → Nat → Rat := fun i j => if j = c ∧ c ≤ i ∧ i < h then (if i = c then 1 else U i c / U c c) else L i j
section
variable {L U : Nat → Nat → Rat} {c h i j : Nat}
theorem lowQ_corner : (1 : Rat) = lowQ L U c (c + 1) c c := by
  unfold lowQ; rw [if_pos ⟨rfl, Nat.le_refl c, Nat.lt_succ_self c⟩, if_pos rfl]
theorem lowQ_at (hc : c < h) : U h c / U c c = lowQ L U c (h + 1) h c := by
  unfold lowQ; rw [if_pos ⟨rfl, by omega, Nat.lt_succ_self h⟩, if_neg (by omega)]
theorem lowQ_col (e : j ≠ c) : lowQ L U c h i j = L i j := if_neg fun k => e k.1
theorem lowQ_row (e : i ≠ h) : lowQ L U c (h + 1) i = lowQ L U c h i := by
  funext j
  unfold lowQ
  by_cases q : j = c ∧ c ≤ i ∧ i < h
  · rw [if_pos q, if_pos ⟨q.1, q.2.1, by omega⟩]
  · rw [if_neg q, if_neg fun k => q ⟨k.1, k.2.1, by omega⟩]
theorem lowQ_sames : lowQ L U c c = L := by funext i j; exact if_neg (by omega)
end
abbrev LuS := (Nat → Nat → Rat) × (Nat → Nat → Rat) × (Nat → Nat) × (Nat → Nat) × Bool
def luK (n : Nat) (s : LuS) (c : Nat) : Nat := leadK s.1 c c (n - c)
def luStep (n : Nat) (s : LuS) (c : Nat) : LuS :=
  (elimQ (swapR s.1 c (luK n s c)) c n, lowQ (swapR s.2.1 c (luK n s c)) (swapR s.1 c (luK n s c)) c n, pSw s.2.2.1 c (luK n s c), rSw s.2.2.2.1 c (luK n s c), if luK n s c = c then s.2.2.2.2 else !s.2.2.2.2)
def luS (n : Nat) (A : Nat → Nat → Rat) : Nat → LuS
  | 0 => (A, fun _ _ => 0, fun i => i, fun i => i, false)
  | c + 1 => luStep n (luS n A c) c
def luOK (n : Nat) (A : Nat → Nat → Rat) (c : Nat) : Prop := ∀ k, k < c → luK n (luS n A k) k < n
theorem luK_ge {n c : Nat} {s : LuS} : c ≤ luK n s c := (leadK_le _ _).1
theorem lu_bij {n : Nat} {A : Nat → Nat → Rat} : ∀ c, c ≤ n → luOK n A c → Bij n (luS n A c).2.2.1 (luS n A c).2.2.2.1
  | 0, _, _ => Bij.id
  | c + 1, hc, h => (lu_bij c (by omega) fun k hk => h k (by omega)).sw hc (h c (Nat.lt_succ_self c))
theorem HtB.elim {n B c : Nat} {A : Nat → Nat → Rat} (hc : c < n) (h : HtB n n B A) (k : Nat) : HtB n n (4 * B) (elimQ A c k) := fun i hi j hj => by
  have h1 := h i hi j hj
  unfold elimQ
  split
  · have h2 := h i hi c hc
    have h3 := h c hc c hc
    have h4 := h c hc j hj
    have h5 := ht_add (A i j) (-(A i c / A c c) * A c j)
    have h6 := ht_mul (-(A i c / A c c)) (A c j)
    have h7 := ht_div (A i c) (A c c)
    rw [ht_neg] at h6
    omega
  · omega
theorem lu_ht {n s : Nat} {A : Nat → Nat → Rat} (h : HtB n n (s + 1) A) : ∀ c, c ≤ n → luOK n A c → HtB n n (hE s c) (luS n A c).1
  | 0, _, _ => by rw [hE_zero]; exact h
  | c + 1, hc, hk => by
    rw [hE_succ]
    exact HtB.elim (by omega) ((lu_ht h c (by omega) fun k hk2 => hk k (by omega)).swap (by omega) (hk c (Nat.lt_succ_self c))) n
structure LuInv (n : Nat) (A : Nat → Nat → Rat) (c : Nat) (s : LuS) : Prop where
  one : ∀ k, k < c → s.2.1 k k = 1
  above : ∀ i k, i < n → i < k → s.2.1 i k = 0
  left : ∀ i k, i < n → c ≤ k → s.2.1 i k = 0
  below : ∀ i k, i < n → k < c → k < i → s.1 i k = 0
  piv : ∀ k, k < c → s.1 k k ≠ 0
  eq : ∀ i, i < n → ∀ j, j < n → A (s.2.2.1 i) j = (if c ≤ i then s.1 i j else 0) + sumQ (fun k => s.2.1 i k * s.1 k j) c
theorem lu_inv {n : Nat} {A : Nat → Nat → Rat} : ∀ c, c ≤ n → luOK n A c → LuInv n A c (luS n A c)
  | 0, _, _ => ⟨fun _ h => absurd h (Nat.not_lt_zero _), fun _ _ _ _ => rfl, fun _ _ _ _ => rfl, fun _ _ _ h => absurd h (Nat.not_lt_zero _), fun _ h => absurd h (Nat.not_lt_zero _), fun i _ j _ => by
    rw [if_pos (Nat.zero_le i)]; show A i j = A i j + 0; grind⟩
  | c + 1, hc, hok => by
    have H := lu_inv c (by omega) fun k hk => hok k (by omega)
    have hK := hok c (Nat.lt_succ_self c)
    have hge := luK_ge (n := n) (s := luS n A c) (c := c)
    have hpv : (luS n A c).1 (luK n (luS n A c) c) c ≠ 0 := leadK_at _ _ (show leadK _ c c (n - c) < _ by have : luK n (luS n A c) c < n := hK; unfold luK at this; omega)
    show LuInv n A (c + 1) (luStep n (luS n A c) c)
    unfold luStep
    generalize luK n (luS n A c) c = K at hK hge hpv
    generalize luS n A c = s at H hpv
    obtain ⟨U, L, P, ρ, o⟩ := s
    have eU : ∀ i j, elimQ (swapR U c K) c n i j = if c < i ∧ i < n then U (sw c K i) j + -(U (sw c K i) c / U (sw c K c) c) * U (sw c K c) j else U (sw c K i) j := fun _ _ => rfl
    have eL : ∀ i j, lowQ (swapR L c K) (swapR U c K) c n i j = if j = c ∧ c ≤ i ∧ i < n then (if i = c then 1 else U (sw c K i) c / U (sw c K c) c) else L (sw c K i) j := fun _ _ => rfl
    have slt : ∀ i, i < n → sw c K i < n := fun i hi => sw_lt (by omega) hK hi
    have stop : ∀ i, i < c → sw c K i = i := fun i hi => by unfold sw; rw [if_neg (by omega), if_neg (by omega)]
    have sge : ∀ i, c ≤ i → c ≤ sw c K i := fun i hi => by unfold sw; split; exact hge; split; omega; exact hi
    have h1 := H.one; have h2 := H.above; have h3 := H.left; have h4 := H.below; have h5 := H.piv; have h6 := H.eq
    simp only at h1 h2 h3 h4 h5 h6 hpv
    refine ⟨fun k hk => ?_, fun i k hi hik => ?_, fun i k hi hk => ?_, fun i k hi hk hki => ?_, fun k hk => ?_, fun i hi j hj => ?_⟩ <;> (try dsimp only) <;> (try rw [eL]) <;> (try rw [eU])
    · by_cases e : k = c
      · rw [if_pos ⟨e, by omega, by omega⟩, if_pos e]
      · rw [if_neg (by omega), stop k (by omega)]; exact h1 k (by omega)
    · by_cases e : k = c ∧ c ≤ i ∧ i < n
      · omega
      · rw [if_neg e]
        by_cases q : c ≤ k
        · exact h3 _ k (slt i hi) q
        · rw [stop i (by omega)]; exact h2 i k hi hik
    · rw [if_neg (by omega)]; exact h3 _ k (slt i hi) (by omega)
    · by_cases e : k = c
      · subst e
        rw [if_pos ⟨hki, hi⟩, sw_c, Rat.neg_mul, Rat.div_mul_cancel hpv]; grind
      · have hz : ∀ i, c ≤ i → i < n → U i k = 0 := fun i h7 h8 => h4 i k h8 (by omega) (by omega)
        split
        · rename_i q
          rw [hz _ (sge i (by omega)) (slt i hi), sw_c, hz K hge hK]; grind
        · by_cases q : c ≤ i
          · rw [hz _ (sge i q) (slt i hi)]
          · rw [stop i (by omega)]; exact h4 i k hi (by omega) hki
    · rw [if_neg (by omega)]
      by_cases e : k = c
      · rw [e, sw_c]; exact hpv
      · rw [stop k (by omega)]; exact h5 k (by omega)
    · show A (P (sw c K i)) j = (if c + 1 ≤ i then elimQ (swapR U c K) c n i j else 0) + (sumQ (fun k => lowQ (swapR L c K) (swapR U c K) c n i k * elimQ (swapR U c K) c n k j) c + lowQ (swapR L c K) (swapR U c K) c n i c * elimQ (swapR U c K) c n c j)
      have e1 : sumQ (fun k => lowQ (swapR L c K) (swapR U c K) c n i k * elimQ (swapR U c K) c n k j) c = sumQ (fun k => L (sw c K i) k * U k j) c := sumQ_congr c fun k hk => by
        rw [eL, eU, if_neg (by omega), if_neg (by omega), stop k hk]
      have e2 : elimQ (swapR U c K) c n c j = U K j := by rw [eU, if_neg (by omega), sw_c]
      rw [h6 _ (slt i hi) j hj, e1, e2]
      generalize sumQ (fun k => L (sw c K i) k * U k j) c = S
      by_cases q : i < c
      · have e3 : lowQ (swapR L c K) (swapR U c K) c n i c = 0 := by rw [eL, if_neg (by omega), stop i q]; exact h3 i c hi (Nat.le_refl c)
        rw [if_neg (by have := stop i q; omega), if_neg (by omega), e3]; grind
      · rw [if_pos (sge i (by omega))]
        by_cases e : i = c
        · have e3 : lowQ (swapR L c K) (swapR U c K) c n i c = 1 := by rw [eL, if_pos ⟨rfl, by omega, hi⟩, if_pos e]
          rw [if_neg (by omega), e3, e, sw_c]; grind
        · have e3 : lowQ (swapR L c K) (swapR U c K) c n i c = U (sw c K i) c / U K c := by rw [eL, if_pos ⟨rfl, by omega, hi⟩, if_neg e, sw_c]
          have e4 : elimQ (swapR U c K) c n i j = U (sw c K i) j + -(U (sw c K i) c / U K c) * U K j := by rw [eU, if_pos ⟨by omega, hi⟩, sw_c]
          rw [if_pos (by omega), e3, e4]; grind
theorem lu_prod {n : Nat} {A : Nat → Nat → Rat} (h : luOK n A n) {i j : Nat} (hi : i < n) (hj : j < n) : A ((luS n A n).2.2.1 i) j = sumQ (fun k => (luS n A n).2.1 i k * (luS n A n).1 k j) n := by
  have := (lu_inv (A := A) n (Nat.le_refl n) h).eq i hi j hj
  rw [if_neg (by omega)] at this
  rw [this]; grind
open Go.RowKit
def setN (P : Nat → Nat) (c x i : Nat) : Nat := if i = c then x else P i
theorem setN_ne {P : Nat → Nat} {c x i : Nat} (h : i ≠ c) : setN P c x i = P i := if_neg h
theorem pSw_at {P : Nat → Nat} {c g : Nat} : P c = pSw P c g g := by
  unfold pSw sw
  by_cases e : g = c
  · rw [if_pos e, e]
  · rw [if_neg e, if_pos rfl]
theorem pSw_other {P : Nat → Nat} {c g t : Nat} (h : t ≠ g) : pSw P c g t = setN P c (P g) t := by
  unfold pSw sw setN
  by_cases e : t = c
  · rw [if_pos e, if_pos e]
  · rw [if_neg e, if_neg h, if_neg e]
theorem pSw_same {P : Nat → Nat} {c g t : Nat} (h : g = c) : pSw P c g t = P t := by unfold pSw; rw [h, sw_same]
theorem elimQ_zero0 {B : Nat → Nat → Rat} {c i j : Nat} : B i j = elimQ B c c i j := (if_neg (by omega)).symm
theorem elimQ_from {B : Nat → Nat → Rat} {c i j : Nat} : elimQ B c c i j = elimQ B c (c + 1) i j := elimQ_zero0.symm.trans elimQ_zero
theorem low_conv {L U : Nat → Nat → Rat} {ρ : Nat → Nat} {c g j k : Nat} : L (ρ j) k = lowQ (swapR L c g) U c c (rSw ρ c g j) k := by
  rw [lowQ_sames, swapR_sw, rSw, sw_sw]
theorem lowQ_now2 {L B : Nat → Nat → Rat} {c h : Nat} (hc : c < h) : elimQ B c h h c / elimQ B c h c c = lowQ L B c (h + 1) h c := by
  rw [elimQ_end (Nat.le_refl h), elimQ_top (Nat.le_refl c), lowQ_at hc]
theorem rSw_ne {n c g t x : Nat} {P ρ : Nat → Nat} (H : Bij n (pSw P c g) (rSw ρ c g)) (h : t ≠ pSw P c g x) : rSw ρ c g t ≠ x := fun e => h (by rw [← e, H.inv'])
theorem step_yes {n g c : Nat} {U : Nat → Nat → Rat} (h : (bif decide (((g : Nat) : Int) < ((n : Nat) : Int)) then decide (U g c = 0) else false) = true) : g < n ∧ U g c = 0 := by
  obtain ⟨h1, h2⟩ := bif_true h
  exact ⟨by omega, h2⟩
theorem step_no {n g c : Nat} {U : Nat → Nat → Rat} (hg : g ≤ n) (h : (bif decide (((g : Nat) : Int) < ((n : Nat) : Int)) then decide (U g c = 0) else false) = false) : leadK U c g (n - g) = g := by
  have h2 := bif_false h
  refine leadK_eq _ _ _ (Nat.le_refl _) (by omega) (fun i h3 h4 => by omega) fun h3 z => h2 ⟨by omega, z⟩
theorem step_K {n g c : Nat} {U L : Nat → Nat → Rat} {P ρ : Nat → Nat} {o : Bool} (h1 : leadK U c c (n - c) = leadK U c g (n - g)) (h2 : leadK U c g (n - g) = g) : luK n (U, L, P, ρ, o) c = g := h1.trans h2
theorem div_room {n c h B : Nat} {A : Nat → Nat → Rat} (H : HtB n n B A) (hc : c < n) (h2 : h < n) (hB : B ≤ 100000000 := by decide) : szq (elimQ A c h h c) + szq (elimQ A c h c c) + 1 ≤ 17179869184 := by
  rw [elimQ_end (Nat.le_refl h), elimQ_top (Nat.le_refl c)]
  have := H h h2 c hc
  have := H c hc c hc
  have := sz_ht (A h c)
  have := sz_ht (A c c)
  omega
theorem lu_room {n c h B : Nat} {A : Nat → Nat → Rat} (H : HtB n n B A) (hc : c < n) (h2 : h < n) (hB : B ≤ 100000000 := by decide) : ∀ j, j < n → szq (-(elimQ A c h h c / elimQ A c h c c)) + szq (elimQ A c h c j) ≤ 17179869184 ∧ szq (elimQ A c h h j) + szq (-(elimQ A c h h c / elimQ A c h c c) * elimQ A c h c j) ≤ 17179869184 := fun j hj => by
  rw [elimQ_end (Nat.le_refl h), elimQ_top (Nat.le_refl c)]
  have e1 := H h h2 c hc
  have e2 := H c hc c hc
  have e3 := H h h2 j hj
  have e4 := H c hc j hj
  have e5 := ht_div (A h c) (A c c)
  exact ht_room2 (S := 200000000) (by omega) (by omega) (by rw [ht_neg]; omega) (by decide)
section
variable {n g c : Nat} {U L : Nat → Nat → Rat} {P ρ : Nat → Nat} {o : Bool}
theorem lu_U (h : luK n (U, L, P, ρ, o) c = g) : (luStep n (U, L, P, ρ, o) c).1 = elimQ (swapR U c g) c n := by unfold luStep; rw [h]
theorem lu_L (h : luK n (U, L, P, ρ, o) c = g) : (luStep n (U, L, P, ρ, o) c).2.1 = lowQ (swapR L c g) (swapR U c g) c n := by unfold luStep; rw [h]
theorem lu_P (h : luK n (U, L, P, ρ, o) c = g) : (luStep n (U, L, P, ρ, o) c).2.2.1 = pSw P c g := by unfold luStep; rw [h]
theorem lu_R (h : luK n (U, L, P, ρ, o) c = g) : (luStep n (U, L, P, ρ, o) c).2.2.2.1 = rSw ρ c g := by unfold luStep; rw [h]
theorem lu_o (h : luK n (U, L, P, ρ, o) c = g) : (luStep n (U, L, P, ρ, o) c).2.2.2.2 = if g = c then o else !o := by unfold luStep; rw [h]
end
set_option maxRecDepth 100000 in
theorem sLuStep {U L : Nat → Nat → Rat} {P ρ : Nat → Nat} {o : Bool} {n c : Nat} (hn : n ≤ 68719476736) (hc : c < n) (hB : Bij n P ρ) (hH : HtB n n 100000000 U) (hk : luK n (U, L, P, ρ, o) c < n) : CallOKm Try.prog 73 [.one (.var 98 (.agg (.cn (.own 1 0) (.cn (.own 2 0) (.cn (.own 3 0) (.cn (.ex (.bool o)) (.nl))))))), .one (.row 48 1 (fun i0 => .own 4 (P i0)) n), .one (.row 48 1 (fun i0 => .sl 3 (fun i1 => .rat (U i0 i1)) n) n), .one (.row 3 1 (fun i0 => .ex (.int .i64 ((P i0 : Nat) : Int))) n), .fam n (fun i0 => .row 36 3 (fun i1 => .rat (L (ρ i0) i1)) n)] [.own 0 0, .ex (.int .i64 ((c : Nat) : Int))] (.ex (.bool true)) [.one (.var 98 (.agg (.cn (.own 5 0) (.cn (.own 6 0) (.cn (.own 7 0) (.cn (.ex (.bool ((luStep n (U, L, P, ρ, o) c).2.2.2.2))) (.nl))))))), .dead, .dead, .dead, .dead, .one (.row 48 1 (fun i0 => .own 8 ((luStep n (U, L, P, ρ, o) c).2.2.1 i0)) n), .one (.row 48 1 (fun i0 => .sl 3 (fun i1 => .rat (((luStep n (U, L, P, ρ, o) c).1) i0 i1)) n) n), .one (.row 3 1 (fun i0 => .ex (.int .i64 (((luStep n (U, L, P, ρ, o) c).2.2.1 i0 : Nat) : Int))) n), .fam n (fun i0 => .row 36 3 (fun i1 => .rat ((luStep n (U, L, P, ρ, o) c).2.1 ((luStep n (U, L, P, ρ, o) c).2.2.2.1 i0) i1)) n)] := by
  exact callOKm_P (ch := fun B => [.loop 2 (Nat) (fun g => c ≤ g ∧ g ≤ n ∧ leadK U c c (n - c) = leadK U c g (n - g)) (fun g => n - g) (fun g => ⟨[(0, .own 0 0), (1, .ex (.int .i64 ((c : Nat) : Int))), (5, .ex (.int .i64 ((g : Nat) : Int)))], [(0, .one (.var 98 (.agg (.cn (.own 1 0) (.cn (.own 2 0) (.cn (.own 3 0) (.cn (.ex (.bool o)) (.nl)))))) (some (B 0)))), (1, .one (.row 48 1 (fun i0 => .own 4 (P i0)) n)), (2, .one (.row 48 1 (fun i0 => .sl 3 (fun i1 => .rat (U i0 i1)) n) n)), (3, .one (.row 3 1 (fun i0 => .ex (.int .i64 ((P i0 : Nat) : Int))) n)), (4, .fam n (fun i0 => .row 36 3 (fun i1 => .rat (L (ρ i0) i1)) n))], 5⟩) [(0, .id 0), (1, .id 1), (2, .id 2), (3, .id 3), (4, .id 4)] (fun _ => [(0, .id 0), (1, .id 1), (2, .id 2), (3, .id 3), (4, .id 4)]) (fun g => [.reg 2 [(13, .k g), (16, .k c), (18, .callS (.ex (.bool (decide (U g c = 0)))) [])], .reg 3 [(1, .z ((g + 1 : Nat) : Int))], .dec 38 false, .reg 7 [(15, .k g), (22, .k c), (24, .k c), (25, .row 0 (fun i0 => .sl 3 (fun i1 => .rat ((setR U c (U g)) i0 i1)) n)), (26, .k g), (27, .row 0 (fun i0 => .sl 3 (fun i1 => .rat ((swapR U c g) i0 i1)) n))], .reg 8 [(15, .k g), (22, .k c), (24, .k c), (25, .row 0 (fun i0 => .own 4 (setN P c (P g) i0))), (26, .k g), (27, .row 0 (fun i0 => .own 4 (pSw P c g i0)))], .reg 9 [(15, .k g), (22, .k c), (24, .k c), (25, .row 0 (fun i0 => .ex (.int .i64 ((setN P c (P g) i0 : Nat) : Int)))), (26, .k g), (27, .row 0 (fun i0 => .ex (.int .i64 ((pSw P c g i0 : Nat) : Int))))], .conv 11 [(0, .id 0), (1, .id 1), (2, .id 2), (3, .id 3), (4, .id 4)] ⟨[(0, .own 0 0), (1, .ex (.int .i64 ((c : Nat) : Int))), (5, .ex (.int .i64 ((g : Nat) : Int)))], [(0, .one (.var 98 (.agg (.cn (.own 1 0) (.cn (.own 2 0) (.cn (.own 3 0) (.cn (.ex (.bool (if g = c then o else !o))) (.nl)))))) (some (B 0)))), (1, .one (.row 48 1 (fun i0 => .own 4 (pSw P c g i0)) n)), (2, .one (.row 48 1 (fun i0 => .sl 3 (fun i1 => .rat ((elimQ (swapR U c g) c c) i0 i1)) n) n)), (3, .one (.row 3 1 (fun i0 => .ex (.int .i64 ((pSw P c g i0 : Nat) : Int))) n)), (4, .fam n (fun i0 => .row 36 3 (fun i1 => .rat ((lowQ (swapR L c g) (swapR U c g) c c) (rSw ρ c g i0) i1)) n))], 5⟩, .reg 11 [(5, .k c), (8, .callS (.rat ((1 : Int) : Rat)) []), (9, .k c), (10, .rowF (fun i0 => .rat ((lowQ (swapR L c g) (swapR U c g) c (c + 1)) c i0)) (fun i0 => .row 36 3 (fun i1 => .rat ((lowQ (swapR L c g) (swapR U c g) c (c + 1)) (rSw ρ c g i0) i1)) n))], .reg 12 [(1, .z ((c + 1 : Nat) : Int))], .loop 13 (Nat) (fun h => c + 1 ≤ h ∧ h ≤ n) (fun h => n - h) (fun h => ⟨[(0, .own 0 0), (1, .ex (.int .i64 ((c : Nat) : Int))), (5, .ex (.int .i64 ((g : Nat) : Int))), (6, .ex (.int .i64 ((h : Nat) : Int)))], [(0, .one (.var 98 (.agg (.cn (.own 1 0) (.cn (.own 2 0) (.cn (.own 3 0) (.cn (.ex (.bool (if g = c then o else !o))) (.nl)))))) (some (B 0)))), (1, .one (.row 48 1 (fun i0 => .own 4 (pSw P c g i0)) n)), (2, .one (.row 48 1 (fun i0 => .sl 3 (fun i1 => .rat ((elimQ (swapR U c g) c h) i0 i1)) n) n)), (3, .one (.row 3 1 (fun i0 => .ex (.int .i64 ((pSw P c g i0 : Nat) : Int))) n)), (4, .fam n (fun i0 => .row 36 3 (fun i1 => .rat ((lowQ (swapR L c g) (swapR U c g) c h) (rSw ρ c g i0) i1)) n))], 5⟩) [(0, .id 0), (1, .id 1), (2, .id 2), (3, .id 3), (4, .id 4)] (fun _ => [(0, .id 0), (1, .id 1), (2, .id 2), (3, .id 3), (4, .id 4)]) (fun h => [.reg 15 [(5, .k h), (8, .k c), (15, .k c), (18, .k c), (20, .callS (.cn (.rat (((elimQ (swapR U c g) c h) h c) / ((elimQ (swapR U c g) c h) c c))) (.cn (.ex (.bool (!decide (((elimQ (swapR U c g) c h) c c) = 0)))) (.nl))) [])], .reg 16 [(5, .k h), (9, .k c), (10, .rowF (fun i0 => .rat ((lowQ (swapR L c g) (swapR U c g) c (h + 1)) h i0)) (fun i0 => .row 36 3 (fun i1 => .rat ((lowQ (swapR L c g) (swapR U c g) c (h + 1)) (rSw ρ c g i0) i1)) n))], .reg 17 [(10, .k h), (13, .callS (.rat (-(((elimQ (swapR U c g) c h) h c) / ((elimQ (swapR U c g) c h) c c)))) []), (19, .k c), (21, .callS (.cn (.sl 3 (fun i0 => .rat (((elimQ (swapR U c g) c h) h i0) + (-(((elimQ (swapR U c g) c h) h c) / ((elimQ (swapR U c g) c h) c c))) * ((elimQ (swapR U c g) c h) c i0))) n) (.cn (.ex (.bool true)) (.nl))) []), (25, .k h), (26, .row 0 (fun i0 => .sl 3 (fun i1 => .rat ((elimQ (swapR U c g) c (h + 1)) i0 i1)) n))], .reg 14 [(1, .z ((h + 1 : Nat) : Int))], .ret 18 [(0, .id 0), (5, .id 1), (6, .id 2), (7, .id 3), (8, .id 4)]]), .conv 11 [(0, .id 0), (1, .id 1), (2, .id 2), (3, .id 3), (4, .id 4)] ⟨[(0, .own 0 0), (1, .ex (.int .i64 ((c : Nat) : Int))), (5, .ex (.int .i64 ((g : Nat) : Int)))], [(0, .one (.var 98 (.agg (.cn (.own 1 0) (.cn (.own 2 0) (.cn (.own 3 0) (.cn (.ex (.bool (if g = c then o else !o))) (.nl)))))) (some (B 0)))), (1, .one (.row 48 1 (fun i0 => .own 4 (pSw P c g i0)) n)), (2, .one (.row 48 1 (fun i0 => .sl 3 (fun i1 => .rat ((elimQ (swapR U c g) c c) i0 i1)) n) n)), (3, .one (.row 3 1 (fun i0 => .ex (.int .i64 ((pSw P c g i0 : Nat) : Int))) n)), (4, .fam n (fun i0 => .row 36 3 (fun i1 => .rat ((lowQ (swapR L c g) (swapR U c g) c c) (rSw ρ c g i0) i1)) n))], 5⟩, .reg 11 [(5, .k c), (8, .callS (.rat ((1 : Int) : Rat)) []), (9, .k c), (10, .rowF (fun i0 => .rat ((lowQ (swapR L c g) (swapR U c g) c (c + 1)) c i0)) (fun i0 => .row 36 3 (fun i1 => .rat ((lowQ (swapR L c g) (swapR U c g) c (c + 1)) (rSw ρ c g i0) i1)) n))], .reg 12 [(1, .z ((c + 1 : Nat) : Int))], .loop 13 (Nat) (fun h => c + 1 ≤ h ∧ h ≤ n) (fun h => n - h) (fun h => ⟨[(0, .own 0 0), (1, .ex (.int .i64 ((c : Nat) : Int))), (5, .ex (.int .i64 ((g : Nat) : Int))), (6, .ex (.int .i64 ((h : Nat) : Int)))], [(0, .one (.var 98 (.agg (.cn (.own 1 0) (.cn (.own 2 0) (.cn (.own 3 0) (.cn (.ex (.bool (if g = c then o else !o))) (.nl)))))) (some (B 0)))), (1, .one (.row 48 1 (fun i0 => .own 4 (pSw P c g i0)) n)), (2, .one (.row 48 1 (fun i0 => .sl 3 (fun i1 => .rat ((elimQ (swapR U c g) c h) i0 i1)) n) n)), (3, .one (.row 3 1 (fun i0 => .ex (.int .i64 ((pSw P c g i0 : Nat) : Int))) n)), (4, .fam n (fun i0 => .row 36 3 (fun i1 => .rat ((lowQ (swapR L c g) (swapR U c g) c h) (rSw ρ c g i0) i1)) n))], 5⟩) [(0, .id 0), (1, .id 1), (2, .id 2), (3, .id 3), (4, .id 4)] (fun _ => [(0, .id 0), (1, .id 1), (2, .id 2), (3, .id 3), (4, .id 4)]) (fun h => [.reg 15 [(5, .k h), (8, .k c), (15, .k c), (18, .k c), (20, .callS (.cn (.rat (((elimQ (swapR U c g) c h) h c) / ((elimQ (swapR U c g) c h) c c))) (.cn (.ex (.bool (!decide (((elimQ (swapR U c g) c h) c c) = 0)))) (.nl))) [])], .reg 16 [(5, .k h), (9, .k c), (10, .rowF (fun i0 => .rat ((lowQ (swapR L c g) (swapR U c g) c (h + 1)) h i0)) (fun i0 => .row 36 3 (fun i1 => .rat ((lowQ (swapR L c g) (swapR U c g) c (h + 1)) (rSw ρ c g i0) i1)) n))], .reg 17 [(10, .k h), (13, .callS (.rat (-(((elimQ (swapR U c g) c h) h c) / ((elimQ (swapR U c g) c h) c c)))) []), (19, .k c), (21, .callS (.cn (.sl 3 (fun i0 => .rat (((elimQ (swapR U c g) c h) h i0) + (-(((elimQ (swapR U c g) c h) h c) / ((elimQ (swapR U c g) c h) c c))) * ((elimQ (swapR U c g) c h) c i0))) n) (.cn (.ex (.bool true)) (.nl))) []), (25, .k h), (26, .row 0 (fun i0 => .sl 3 (fun i1 => .rat ((elimQ (swapR U c g) c (h + 1)) i0 i1)) n))], .reg 14 [(1, .z ((h + 1 : Nat) : Int))], .ret 18 [(0, .id 0), (5, .id 1), (6, .id 2), (7, .id 3), (8, .id 4)]])])]) hMix Try.func73 rfl (by kernel_rfl) (by kernel_rfl) (by kernel_rfl) (fun B => (((fun X1 X2 X3 X4 X5 X6 X7 X8 X9 X10 X11 X12 X13 : Prop => ∃ g0 : Nat, X1 ∧ X2 ∧ (((c : Nat) : Int) = ((g0 : Nat) : Int)) ∧ X3 ∧ X4 ∧ X5 ∧ X6 ∧ X7 ∧ X8 ∧ (∀ j0, j0 < n → ((P j0 : Nat) = (P j0))) ∧ X9 ∧ X10 ∧ X11 ∧ X12 ∧ X13 ∧ (∀ j0, j0 < n → ((n : Nat) = n) ∧ (∀ j1, j1 < n → ((L (ρ j0) j1 : Rat) = (L (ρ j0) j1)))) ∧ (c ≤ g0 ∧ g0 ≤ n ∧ leadK U c c (n - c) = leadK U c g0 (n - g0))) _ _ _ _ _ _ _ _ _ _ _ _ _) ∧ ∀ g : Nat, (c ≤ g ∧ g ≤ n ∧ leadK U c c (n - c) = leadK U c g (n - g)) → (((decide (((g : Nat) : Int) < ((n : Nat) : Int))) == true) = true → ((decide (((g : Nat) : Int) < ((n : Nat) : Int))) == true) = true) ∧ (((decide (((g : Nat) : Int) < ((n : Nat) : Int))) == true) = true → ((decide (((g : Nat) : Int) < ((n : Nat) : Int))) == true) = true) ∧ (((decide (((g : Nat) : Int) < ((n : Nat) : Int))) == true) = true → ((decide (((g : Nat) : Int) < ((n : Nat) : Int))) == true) = true) ∧ (((decide (((g : Nat) : Int) < ((n : Nat) : Int))) == true) = true → ((decide (((g : Nat) : Int) < ((n : Nat) : Int))) == true) = true) ∧ (((decide (((g : Nat) : Int) < ((n : Nat) : Int))) == true) = true → ((decide (((g : Nat) : Int) < ((n : Nat) : Int))) == true) = true) ∧ (((decide (((g : Nat) : Int) < ((n : Nat) : Int))) == true) = true → _) ∧ (((decide (((g : Nat) : Int) < ((n : Nat) : Int))) == true) = true → g < n) ∧ (((decide (((g : Nat) : Int) < ((n : Nat) : Int))) == true) = true → ((decide (((g : Nat) : Int) < ((n : Nat) : Int))) == true) = true) ∧ (((decide (((g : Nat) : Int) < ((n : Nat) : Int))) == true) = true → g < n) ∧ (((decide (((g : Nat) : Int) < ((n : Nat) : Int))) == true) = true → ((decide (((g : Nat) : Int) < ((n : Nat) : Int))) == true) = true) ∧ (((decide (((g : Nat) : Int) < ((n : Nat) : Int))) == true) = true → ((decide (((g : Nat) : Int) < ((n : Nat) : Int))) == true) = true) ∧ (((decide (((g : Nat) : Int) < ((n : Nat) : Int))) == true) = true → _) ∧ (((decide (((g : Nat) : Int) < ((n : Nat) : Int))) == true) = true → c < n) ∧ (((decide (((g : Nat) : Int) < ((n : Nat) : Int))) == true) = true → ((decide (((g : Nat) : Int) < ((n : Nat) : Int))) == true) = true) ∧ (((decide (((g : Nat) : Int) < ((n : Nat) : Int))) == true) = true → ((decide (((g : Nat) : Int) < ((n : Nat) : Int))) == true) = true) ∧ (((decide (((g : Nat) : Int) < ((n : Nat) : Int))) == true) = true → _) ∧ ((decide (((g : Nat) : Int) < ((n : Nat) : Int))) = true → ((decide (((g : Nat) : Int) < ((n : Nat) : Int))) == true) = true) ∧ (((bif (decide (((g : Nat) : Int) < ((n : Nat) : Int))) then (decide (U g c = 0)) else false) = true → (IntKind.wrap .i64 (((g : Nat) : Int) + 1) = (((g + 1 : Nat) : Int))) ∧ ((fun X1 X2 X3 X4 X5 X6 X7 X8 X9 X10 X11 X12 X13 : Prop => ∃ g1 : Nat, X1 ∧ X2 ∧ (((g + 1 : Nat) : Int) = ((g1 : Nat) : Int)) ∧ X3 ∧ X4 ∧ X5 ∧ X6 ∧ X7 ∧ X8 ∧ (∀ j0, j0 < n → ((P j0 : Nat) = (P j0))) ∧ X9 ∧ X10 ∧ X11 ∧ X12 ∧ X13 ∧ (∀ j0, j0 < n → ((n : Nat) = n) ∧ (∀ j1, j1 < n → ((L (ρ j0) j1 : Rat) = (L (ρ j0) j1)))) ∧ (c ≤ g1 ∧ g1 ≤ n ∧ leadK U c c (n - c) = leadK U c g1 (n - g1)) ∧ (n - g1 < n - g)) _ _ _ _ _ _ _ _ _ _ _ _ _)) ∧ ((bif (decide (((g : Nat) : Int) < ((n : Nat) : Int))) then (decide (U g c = 0)) else false) = false → ((decide (((g : Nat) : Int) = ((n : Nat) : Int))) = false) ∧ (((!decide (((g : Nat) : Int) = ((c : Nat) : Int))) = true → _ ∧ (g < n) ∧ (g < n) ∧ _ ∧ (c < n) ∧ (c < n) ∧ _ ∧ (c < n) ∧ (c < n) ∧ (((n : Nat) = n) ∧ (∀ j0, j0 < n → ((U g j0 : Rat) = ((setR U c (U g)) c j0)))) ∧ (∀ t, t < n → t ≠ c → (.sl 3 (fun i0 => .rat ((setR U c (U g)) t i0)) n : SV) = .sl 3 (fun i0 => .rat (U t i0)) n) ∧ _ ∧ (g < n) ∧ (g < n) ∧ (((n : Nat) = n) ∧ (∀ j0, j0 < n → ((U c j0 : Rat) = ((swapR U c g) g j0)))) ∧ (∀ t, t < n → t ≠ g → (.sl 3 (fun i0 => .rat ((swapR U c g) t i0)) n : SV) = .sl 3 (fun i0 => .rat ((setR U c (U g)) t i0)) n) ∧ _ ∧ (g < n) ∧ (g < n) ∧ _ ∧ (c < n) ∧ (c < n) ∧ _ ∧ (c < n) ∧ (c < n) ∧ (((4 : Nat) = 4) ∧ ((P g : Nat) = (setN P c (P g) c))) ∧ (∀ t, t < n → t ≠ c → (.own 4 (setN P c (P g) t) : SV) = .own 4 (P t)) ∧ _ ∧ (g < n) ∧ (g < n) ∧ (((4 : Nat) = 4) ∧ ((P c : Nat) = (pSw P c g g))) ∧ (∀ t, t < n → t ≠ g → (.own 4 (pSw P c g t) : SV) = .own 4 (setN P c (P g) t)) ∧ _ ∧ (g < n) ∧ (g < n) ∧ _ ∧ (c < n) ∧ (c < n) ∧ _ ∧ (c < n) ∧ (c < n) ∧ ((((P g : Nat) : Int) = ((setN P c (P g) c : Nat) : Int))) ∧ (∀ t, t < n → t ≠ c → (.ex (.int .i64 ((setN P c (P g) t : Nat) : Int)) : SV) = .ex (.int .i64 ((P t : Nat) : Int))) ∧ _ ∧ (g < n) ∧ (g < n) ∧ ((((P c : Nat) : Int) = ((pSw P c g g : Nat) : Int))) ∧ (∀ t, t < n → t ≠ g → (.ex (.int .i64 ((pSw P c g t : Nat) : Int)) : SV) = .ex (.int .i64 ((setN P c (P g) t : Nat) : Int))) ∧ _ ∧ _ ∧ _ ∧ _ ∧ _ ∧ _ ∧ _ ∧ ((!o : Bool) = (if g = c then o else !o)) ∧ _ ∧ (∀ j0, j0 < n → ((pSw P c g j0 : Nat) = (pSw P c g j0))) ∧ _ ∧ (∀ j0, j0 < n → ((n : Nat) = n) ∧ (∀ j1, j1 < n → (((swapR U c g) j0 j1 : Rat) = ((elimQ (swapR U c g) c c) j0 j1)))) ∧ _ ∧ _ ∧ _ ∧ (∀ j0, j0 < n → ((n : Nat) = n) ∧ (∀ j1, j1 < n → ((L (ρ j0) j1 : Rat) = ((lowQ (swapR L c g) (swapR U c g) c c) (rSw ρ c g j0) j1)))) ∧ _ ∧ (c < n) ∧ (c < n) ∧ _ ∧ _ ∧ (c < n) ∧ ((pSw P c g c) < n) ∧ (c < n) ∧ (((((1 : Int) : Rat) : Rat) = ((lowQ (swapR L c g) (swapR U c g) c (c + 1)) c c))) ∧ (∀ t, t < n → t ≠ c → (.rat ((lowQ (swapR L c g) (swapR U c g) c (c + 1)) c t) : SV) = .rat ((lowQ (swapR L c g) (swapR U c g) c c) (rSw ρ c g (pSw P c g c)) t)) ∧ ((pSw P c g c) < n) ∧ ((.row 36 3 (fun i0 => .rat ((lowQ (swapR L c g) (swapR U c g) c (c + 1)) (rSw ρ c g (pSw P c g c)) i0)) n : OB) = .row 36 3 (fun i0 => .rat ((lowQ (swapR L c g) (swapR U c g) c (c + 1)) c i0)) n) ∧ (∀ t, t < n → t ≠ (pSw P c g c) → (.row 36 3 (fun i0 => .rat ((lowQ (swapR L c g) (swapR U c g) c (c + 1)) (rSw ρ c g t) i0)) n : OB) = .row 36 3 (fun i0 => .rat ((lowQ (swapR L c g) (swapR U c g) c c) (rSw ρ c g t) i0)) n) ∧ _ ∧ (((fun X1 X2 X3 X4 X5 X6 X7 X8 X9 X10 X11 X12 X13 : Prop => ∃ h0 : Nat, X1 ∧ X2 ∧ X3 ∧ (((c + 1 : Nat) : Int) = ((h0 : Nat) : Int)) ∧ X4 ∧ X5 ∧ X6 ∧ X7 ∧ X8 ∧ X9 ∧ (∀ j0, j0 < n → ((pSw P c g j0 : Nat) = (pSw P c g j0))) ∧ X10 ∧ (∀ j0, j0 < n → ((n : Nat) = n) ∧ (∀ j1, j1 < n → (((elimQ (swapR U c g) c c) j0 j1 : Rat) = ((elimQ (swapR U c g) c h0) j0 j1)))) ∧ X11 ∧ X12 ∧ X13 ∧ (∀ j0, j0 < n → ((n : Nat) = n) ∧ (∀ j1, j1 < n → (((lowQ (swapR L c g) (swapR U c g) c (c + 1)) (rSw ρ c g j0) j1 : Rat) = ((lowQ (swapR L c g) (swapR U c g) c h0) (rSw ρ c g j0) j1)))) ∧ (c + 1 ≤ h0 ∧ h0 ≤ n)) _ _ _ _ _ _ _ _ _ _ _ _ _) ∧ ∀ h : Nat, (c + 1 ≤ h ∧ h ≤ n) → (((decide (((h : Nat) : Int) < ((n : Nat) : Int))) = true → _ ∧ (h < n) ∧ (h < n) ∧ _ ∧ (c < n) ∧ _ ∧ (c < n) ∧ (c < n) ∧ _ ∧ (c < n) ∧ _ ∧ _ ∧ (h < n) ∧ (h < n) ∧ _ ∧ (c < n) ∧ ((pSw P c g h) < n) ∧ (c < n) ∧ (((((elimQ (swapR U c g) c h) h c) / ((elimQ (swapR U c g) c h) c c) : Rat) = ((lowQ (swapR L c g) (swapR U c g) c (h + 1)) h c))) ∧ (∀ t, t < n → t ≠ c → (.rat ((lowQ (swapR L c g) (swapR U c g) c (h + 1)) h t) : SV) = .rat ((lowQ (swapR L c g) (swapR U c g) c h) (rSw ρ c g (pSw P c g h)) t)) ∧ ((pSw P c g h) < n) ∧ ((.row 36 3 (fun i0 => .rat ((lowQ (swapR L c g) (swapR U c g) c (h + 1)) (rSw ρ c g (pSw P c g h)) i0)) n : OB) = .row 36 3 (fun i0 => .rat ((lowQ (swapR L c g) (swapR U c g) c (h + 1)) h i0)) n) ∧ (∀ t, t < n → t ≠ (pSw P c g h) → (.row 36 3 (fun i0 => .rat ((lowQ (swapR L c g) (swapR U c g) c (h + 1)) (rSw ρ c g t) i0)) n : OB) = .row 36 3 (fun i0 => .rat ((lowQ (swapR L c g) (swapR U c g) c h) (rSw ρ c g t) i0)) n) ∧ _ ∧ (h < n) ∧ (h < n) ∧ _ ∧ _ ∧ (c < n) ∧ (c < n) ∧ _ ∧ _ ∧ (h < n) ∧ (h < n) ∧ (((n : Nat) = n) ∧ (∀ j0, j0 < n → ((((elimQ (swapR U c g) c h) h j0) + (-(((elimQ (swapR U c g) c h) h c) / ((elimQ (swapR U c g) c h) c c))) * ((elimQ (swapR U c g) c h) c j0) : Rat) = ((elimQ (swapR U c g) c (h + 1)) h j0)))) ∧ (∀ t, t < n → t ≠ h → (.sl 3 (fun i0 => .rat ((elimQ (swapR U c g) c (h + 1)) t i0)) n : SV) = .sl 3 (fun i0 => .rat ((elimQ (swapR U c g) c h) t i0)) n) ∧ _ ∧ ((fun X1 X2 X3 X4 X5 X6 X7 X8 X9 X10 X11 X12 X13 : Prop => ∃ h1 : Nat, X1 ∧ X2 ∧ X3 ∧ (((h + 1 : Nat) : Int) = ((h1 : Nat) : Int)) ∧ X4 ∧ X5 ∧ X6 ∧ X7 ∧ X8 ∧ X9 ∧ (∀ j0, j0 < n → ((pSw P c g j0 : Nat) = (pSw P c g j0))) ∧ X10 ∧ (∀ j0, j0 < n → ((n : Nat) = n) ∧ (∀ j1, j1 < n → (((elimQ (swapR U c g) c (h + 1)) j0 j1 : Rat) = ((elimQ (swapR U c g) c h1) j0 j1)))) ∧ X11 ∧ X12 ∧ X13 ∧ (∀ j0, j0 < n → ((n : Nat) = n) ∧ (∀ j1, j1 < n → (((lowQ (swapR L c g) (swapR U c g) c (h + 1)) (rSw ρ c g j0) j1 : Rat) = ((lowQ (swapR L c g) (swapR U c g) c h1) (rSw ρ c g j0) j1)))) ∧ (c + 1 ≤ h1 ∧ h1 ≤ n) ∧ (n - h1 < n - h)) _ _ _ _ _ _ _ _ _ _ _ _ _)) ∧ ((decide (((h : Nat) : Int) < ((n : Nat) : Int))) = false → (_ ∧ _ ∧ _ ∧ _ ∧ _ ∧ ((if g = c then o else !o : Bool) = ((luStep n (U, L, P, ρ, o) c).2.2.2.2)) ∧ _ ∧ (∀ j0, j0 < n → ((pSw P c g j0 : Nat) = ((luStep n (U, L, P, ρ, o) c).2.2.1 j0))) ∧ _ ∧ (∀ j0, j0 < n → ((n : Nat) = n) ∧ (∀ j1, j1 < n → (((elimQ (swapR U c g) c h) j0 j1 : Rat) = (((luStep n (U, L, P, ρ, o) c).1) j0 j1)))) ∧ _ ∧ (∀ j0, j0 < n → (((pSw P c g j0 : Nat) : Int) = (((luStep n (U, L, P, ρ, o) c).2.2.1 j0 : Nat) : Int))) ∧ _ ∧ (∀ j0, j0 < n → ((n : Nat) = n) ∧ (∀ j1, j1 < n → (((lowQ (swapR L c g) (swapR U c g) c h) (rSw ρ c g j0) j1 : Rat) = ((luStep n (U, L, P, ρ, o) c).2.1 ((luStep n (U, L, P, ρ, o) c).2.2.2.1 j0) j1))))))))) ∧ ((!decide (((g : Nat) : Int) = ((c : Nat) : Int))) = false → _ ∧ _ ∧ _ ∧ _ ∧ _ ∧ _ ∧ _ ∧ ((o : Bool) = (if g = c then o else !o)) ∧ _ ∧ (∀ j0, j0 < n → ((P j0 : Nat) = (pSw P c g j0))) ∧ _ ∧ (∀ j0, j0 < n → ((n : Nat) = n) ∧ (∀ j1, j1 < n → ((U j0 j1 : Rat) = ((elimQ (swapR U c g) c c) j0 j1)))) ∧ _ ∧ (∀ j0, j0 < n → (((P j0 : Nat) : Int) = ((pSw P c g j0 : Nat) : Int))) ∧ _ ∧ (∀ j0, j0 < n → ((n : Nat) = n) ∧ (∀ j1, j1 < n → ((L (ρ j0) j1 : Rat) = ((lowQ (swapR L c g) (swapR U c g) c c) (rSw ρ c g j0) j1)))) ∧ _ ∧ (c < n) ∧ (c < n) ∧ _ ∧ _ ∧ (c < n) ∧ ((pSw P c g c) < n) ∧ (c < n) ∧ (((((1 : Int) : Rat) : Rat) = ((lowQ (swapR L c g) (swapR U c g) c (c + 1)) c c))) ∧ (∀ t, t < n → t ≠ c → (.rat ((lowQ (swapR L c g) (swapR U c g) c (c + 1)) c t) : SV) = .rat ((lowQ (swapR L c g) (swapR U c g) c c) (rSw ρ c g (pSw P c g c)) t)) ∧ ((pSw P c g c) < n) ∧ ((.row 36 3 (fun i0 => .rat ((lowQ (swapR L c g) (swapR U c g) c (c + 1)) (rSw ρ c g (pSw P c g c)) i0)) n : OB) = .row 36 3 (fun i0 => .rat ((lowQ (swapR L c g) (swapR U c g) c (c + 1)) c i0)) n) ∧ (∀ t, t < n → t ≠ (pSw P c g c) → (.row 36 3 (fun i0 => .rat ((lowQ (swapR L c g) (swapR U c g) c (c + 1)) (rSw ρ c g t) i0)) n : OB) = .row 36 3 (fun i0 => .rat ((lowQ (swapR L c g) (swapR U c g) c c) (rSw ρ c g t) i0)) n) ∧ _ ∧ (((fun X1 X2 X3 X4 X5 X6 X7 X8 X9 X10 X11 X12 X13 : Prop => ∃ h0 : Nat, X1 ∧ X2 ∧ X3 ∧ (((c + 1 : Nat) : Int) = ((h0 : Nat) : Int)) ∧ X4 ∧ X5 ∧ X6 ∧ X7 ∧ X8 ∧ X9 ∧ (∀ j0, j0 < n → ((pSw P c g j0 : Nat) = (pSw P c g j0))) ∧ X10 ∧ (∀ j0, j0 < n → ((n : Nat) = n) ∧ (∀ j1, j1 < n → (((elimQ (swapR U c g) c c) j0 j1 : Rat) = ((elimQ (swapR U c g) c h0) j0 j1)))) ∧ X11 ∧ X12 ∧ X13 ∧ (∀ j0, j0 < n → ((n : Nat) = n) ∧ (∀ j1, j1 < n → (((lowQ (swapR L c g) (swapR U c g) c (c + 1)) (rSw ρ c g j0) j1 : Rat) = ((lowQ (swapR L c g) (swapR U c g) c h0) (rSw ρ c g j0) j1)))) ∧ (c + 1 ≤ h0 ∧ h0 ≤ n)) _ _ _ _ _ _ _ _ _ _ _ _ _) ∧ ∀ h : Nat, (c + 1 ≤ h ∧ h ≤ n) → (((decide (((h : Nat) : Int) < ((n : Nat) : Int))) = true → _ ∧ (h < n) ∧ (h < n) ∧ _ ∧ (c < n) ∧ _ ∧ (c < n) ∧ (c < n) ∧ _ ∧ (c < n) ∧ _ ∧ _ ∧ (h < n) ∧ (h < n) ∧ _ ∧ (c < n) ∧ ((pSw P c g h) < n) ∧ (c < n) ∧ (((((elimQ (swapR U c g) c h) h c) / ((elimQ (swapR U c g) c h) c c) : Rat) = ((lowQ (swapR L c g) (swapR U c g) c (h + 1)) h c))) ∧ (∀ t, t < n → t ≠ c → (.rat ((lowQ (swapR L c g) (swapR U c g) c (h + 1)) h t) : SV) = .rat ((lowQ (swapR L c g) (swapR U c g) c h) (rSw ρ c g (pSw P c g h)) t)) ∧ ((pSw P c g h) < n) ∧ ((.row 36 3 (fun i0 => .rat ((lowQ (swapR L c g) (swapR U c g) c (h + 1)) (rSw ρ c g (pSw P c g h)) i0)) n : OB) = .row 36 3 (fun i0 => .rat ((lowQ (swapR L c g) (swapR U c g) c (h + 1)) h i0)) n) ∧ (∀ t, t < n → t ≠ (pSw P c g h) → (.row 36 3 (fun i0 => .rat ((lowQ (swapR L c g) (swapR U c g) c (h + 1)) (rSw ρ c g t) i0)) n : OB) = .row 36 3 (fun i0 => .rat ((lowQ (swapR L c g) (swapR U c g) c h) (rSw ρ c g t) i0)) n) ∧ _ ∧ (h < n) ∧ (h < n) ∧ _ ∧ _ ∧ (c < n) ∧ (c < n) ∧ _ ∧ _ ∧ (h < n) ∧ (h < n) ∧ (((n : Nat) = n) ∧ (∀ j0, j0 < n → ((((elimQ (swapR U c g) c h) h j0) + (-(((elimQ (swapR U c g) c h) h c) / ((elimQ (swapR U c g) c h) c c))) * ((elimQ (swapR U c g) c h) c j0) : Rat) = ((elimQ (swapR U c g) c (h + 1)) h j0)))) ∧ (∀ t, t < n → t ≠ h → (.sl 3 (fun i0 => .rat ((elimQ (swapR U c g) c (h + 1)) t i0)) n : SV) = .sl 3 (fun i0 => .rat ((elimQ (swapR U c g) c h) t i0)) n) ∧ _ ∧ ((fun X1 X2 X3 X4 X5 X6 X7 X8 X9 X10 X11 X12 X13 : Prop => ∃ h1 : Nat, X1 ∧ X2 ∧ X3 ∧ (((h + 1 : Nat) : Int) = ((h1 : Nat) : Int)) ∧ X4 ∧ X5 ∧ X6 ∧ X7 ∧ X8 ∧ X9 ∧ (∀ j0, j0 < n → ((pSw P c g j0 : Nat) = (pSw P c g j0))) ∧ X10 ∧ (∀ j0, j0 < n → ((n : Nat) = n) ∧ (∀ j1, j1 < n → (((elimQ (swapR U c g) c (h + 1)) j0 j1 : Rat) = ((elimQ (swapR U c g) c h1) j0 j1)))) ∧ X11 ∧ X12 ∧ X13 ∧ (∀ j0, j0 < n → ((n : Nat) = n) ∧ (∀ j1, j1 < n → (((lowQ (swapR L c g) (swapR U c g) c (h + 1)) (rSw ρ c g j0) j1 : Rat) = ((lowQ (swapR L c g) (swapR U c g) c h1) (rSw ρ c g j0) j1)))) ∧ (c + 1 ≤ h1 ∧ h1 ≤ n) ∧ (n - h1 < n - h)) _ _ _ _ _ _ _ _ _ _ _ _ _)) ∧ ((decide (((h : Nat) : Int) < ((n : Nat) : Int))) = false → (_ ∧ _ ∧ _ ∧ _ ∧ _ ∧ ((if g = c then o else !o : Bool) = ((luStep n (U, L, P, ρ, o) c).2.2.2.2)) ∧ _ ∧ (∀ j0, j0 < n → ((pSw P c g j0 : Nat) = ((luStep n (U, L, P, ρ, o) c).2.2.1 j0))) ∧ _ ∧ (∀ j0, j0 < n → ((n : Nat) = n) ∧ (∀ j1, j1 < n → (((elimQ (swapR U c g) c h) j0 j1 : Rat) = (((luStep n (U, L, P, ρ, o) c).1) j0 j1)))) ∧ _ ∧ (∀ j0, j0 < n → (((pSw P c g j0 : Nat) : Int) = (((luStep n (U, L, P, ρ, o) c).2.2.1 j0 : Nat) : Int))) ∧ _ ∧ (∀ j0, j0 < n → ((n : Nat) = n) ∧ (∀ j1, j1 < n → (((lowQ (swapR L c g) (swapR U c g) c h) (rSw ρ c g j0) j1 : Rat) = ((luStep n (U, L, P, ρ, o) c).2.1 ((luStep n (U, L, P, ρ, o) c).2.2.2.1 j0) j1)))))))))))))) (fun B => by kernel_rfl)
    (fun B => ⟨⟨c, (rf 0), (rf ((c : Nat) : Int)), (by omega), (rf (some (B 0))), (rf 0), (rf 0), (rf 0), (rf (o : Bool)), (rf n), (fun j0 hj0 => rfl), (rf n), (leS (fun i0 => .sl 3 (fun i1 => .rat (U i0 i1)) n) n), (rf n), (leS (fun i0 => .ex (.int .i64 ((P i0 : Nat) : Int))) n), (rf n), (fun j0 hj0 => ⟨rfl, (fun j1 hj1 => rfl)⟩), ⟨Nat.le_refl _, by omega, rfl⟩⟩, fun g hg0 => have hg1 := hg0.1; have hg2 := hg0.2.1; ⟨id, ⟨id, ⟨id, ⟨id, ⟨id, ⟨(fun hg => (rf ((g : Nat) : Int))), ⟨(fun hg => (by have hg2 := of_guard hg; omega)), ⟨id, ⟨(fun hg => (by have hg2 := of_guard hg; omega)), ⟨id, ⟨id, ⟨(fun hg => (rf ((c : Nat) : Int))), ⟨(fun hg => (by omega)), ⟨id, ⟨id, ⟨(fun hg => sRatZero (q := U g c)), ⟨(by simp), ⟨fun hc29 => have hz := step_yes hc29; ⟨(by rw [IntKind.wrap_i64]; omega), ⟨g + 1, (rf 0), (rf ((c : Nat) : Int)), (by omega), (rf (some (B 0))), (rf 0), (rf 0), (rf 0), (rf (o : Bool)), (rf n), (fun j0 hj0 => rfl), (rf n), (leS (fun i0 => .sl 3 (fun i1 => .rat (U i0 i1)) n) n), (rf n), (leS (fun i0 => .ex (.int .i64 ((P i0 : Nat) : Int))) n), (rf n), (fun j0 hj0 => ⟨rfl, (fun j1 hj1 => rfl)⟩), ⟨by omega, by omega, hg0.2.2.trans (leadK_step hz.1 hz.2)⟩, (by omega)⟩⟩, fun hc29 => have hz := step_no hg2 hc29; have hK := step_K hg0.2.2 hz; have hgn : g < n := (by rw [← hK]; exact hk); have hB1 := hB.sw hc hgn; have hP1 := hB1.lt c hc; have H4 := hH.swap hc hgn; have hne0 := fun {t : Nat} (k : t ≠ pSw P c g c) => rSw_ne hB1 k; ⟨(by simp; omega), ⟨fun hc41 => have hk3 : g ≠ c := (by simp at hc41; omega); ⟨(rf ((g : Nat) : Int)), ⟨(by omega), ⟨(by omega), ⟨(rf ((c : Nat) : Int)), ⟨(by omega), ⟨(by omega), ⟨(rf ((c : Nat) : Int)), ⟨(by omega), ⟨(by omega), ⟨⟨rfl, (fun j0 hj0 => (if_pos rfl).symm)⟩, ⟨(fun t ht hne => by simp only [setR_ne hne]), ⟨(rf ((g : Nat) : Int)), ⟨(by omega), ⟨(by omega), ⟨⟨rfl, (fun j0 hj0 => (swap_at))⟩, ⟨(fun t ht hne => by simp only [swap_other hne]), ⟨(rf ((g : Nat) : Int)), ⟨(by omega), ⟨(by omega), ⟨(rf ((c : Nat) : Int)), ⟨(by omega), ⟨(by omega), ⟨(rf ((c : Nat) : Int)), ⟨(by omega), ⟨(by omega), ⟨⟨rfl, (if_pos rfl).symm⟩, ⟨(fun t ht hne => by rw [setN_ne hne]), ⟨(rf ((g : Nat) : Int)), ⟨(by omega), ⟨(by omega), ⟨⟨rfl, (pSw_at)⟩, ⟨(fun t ht hne => by rw [pSw_other hne]), ⟨(rf ((g : Nat) : Int)), ⟨(by omega), ⟨(by omega), ⟨(rf ((c : Nat) : Int)), ⟨(by omega), ⟨(by omega), ⟨(rf ((c : Nat) : Int)), ⟨(by omega), ⟨(by omega), ⟨(congrArg (fun x : Nat => ((x : Nat) : Int)) (if_pos rfl).symm), ⟨(fun t ht hne => by rw [setN_ne hne]), ⟨(rf ((g : Nat) : Int)), ⟨(by omega), ⟨(by omega), ⟨(congrArg (fun x : Nat => ((x : Nat) : Int)) pSw_at), ⟨(fun t ht hne => by rw [pSw_other hne]), ⟨(rf 0), ⟨(rf ((c : Nat) : Int)), ⟨(rf ((g : Nat) : Int)), ⟨(rf (some (B 0))), ⟨(rf 0), ⟨(rf 0), ⟨(rf 0), ⟨(by first | exact (if_neg hk3).symm | exact (if_pos hk3).symm), ⟨(rf n), ⟨(fun j0 hj0 => rfl), ⟨(rf n), ⟨(fun j0 hj0 => ⟨rfl, (fun j1 hj1 => (by first | exact elimQ_zero0 | exact (swap_same hk3).symm.trans elimQ_zero0))⟩), ⟨(rf n), ⟨(leS (fun i0 => .ex (.int .i64 ((pSw P c g i0 : Nat) : Int))) n), ⟨(rf n), ⟨(fun j0 hj0 => ⟨rfl, (fun j1 hj1 => (low_conv))⟩), ⟨(rf ((c : Nat) : Int)), ⟨(by omega), ⟨(by omega), ⟨sRatInt (x := 1) (by omega) (by omega), ⟨(rf ((c : Nat) : Int)), ⟨(by omega), ⟨(by omega), ⟨(by omega), ⟨(lowQ_corner), ⟨(fun t ht hne => by rw [lowQ_col hne, hB1.inv, lowQ_col hne]), ⟨(by omega), ⟨(by rw [hB1.inv]), ⟨(fun t ht hne => by rw [lowQ_row (hne0 hne)]), ⟨(wI (g := c) (by omega)), ⟨⟨c + 1, (rf 0), (rf ((c : Nat) : Int)), (rf ((g : Nat) : Int)), (by omega), (rf (some (B 0))), (rf 0), (rf 0), (rf 0), (rf (if g = c then o else !o : Bool)), (rf n), (fun j0 hj0 => rfl), (rf n), (fun j0 hj0 => ⟨rfl, (fun j1 hj1 => elimQ_from)⟩), (rf n), (leS (fun i0 => .ex (.int .i64 ((pSw P c g i0 : Nat) : Int))) n), (rf n), (fun j0 hj0 => ⟨rfl, (fun j1 hj1 => rfl)⟩), ⟨Nat.le_refl _, by omega⟩⟩, fun h hh0 => have hh1 := hh0.1; have hh2 := hh0.2; have hne0 := fun {t : Nat} (k : t ≠ pSw P c g h) => rSw_ne hB1 k; ⟨fun hc146 => have hc146 := of_decide_eq_true hc146; have hh : c < h ∧ h < n := ⟨by omega, by omega⟩; have hP2 := hB1.lt h hh.2; ⟨(rf ((h : Nat) : Int)), ⟨(by omega), ⟨(by omega), ⟨(rf ((c : Nat) : Int)), ⟨(by omega), ⟨(rf ((c : Nat) : Int)), ⟨(by omega), ⟨(by omega), ⟨(rf ((c : Nat) : Int)), ⟨(by omega), ⟨sRatDiv (p := (elimQ (swapR U c g) c h) h c) (q := (elimQ (swapR U c g) c h) c c) (div_room H4 (by omega) hh.2), ⟨(rf ((h : Nat) : Int)), ⟨(by omega), ⟨(by omega), ⟨(rf ((c : Nat) : Int)), ⟨(by omega), ⟨(by omega), ⟨(by omega), ⟨(lowQ_now2 (by omega)), ⟨(fun t ht hne => by rw [lowQ_col hne, hB1.inv, lowQ_col hne]), ⟨(by omega), ⟨(by rw [hB1.inv]), ⟨(fun t ht hne => by rw [lowQ_row (hne0 hne)]), ⟨(rf ((h : Nat) : Int)), ⟨(by omega), ⟨(by omega), ⟨sRatNeg (q := ((elimQ (swapR U c g) c h) h c) / ((elimQ (swapR U c g) c h) c c)), ⟨(rf ((c : Nat) : Int)), ⟨(by omega), ⟨(by omega), ⟨(sVecAddTimes (a := (elimQ (swapR U c g) c h) h) (b := (elimQ (swapR U c g) c h) c) (n := n) (r := - (((elimQ (swapR U c g) c h) h c) / ((elimQ (swapR U c g) c h) c c))) (by omega) (lu_room H4 (by omega) hh.2)).frzV2, ⟨(rf ((h : Nat) : Int)), ⟨(by omega), ⟨(by omega), ⟨⟨rfl, (fun j0 hj0 => (elim_now (by omega)))⟩, ⟨(fun t ht hne => by simp only [elimQ_ne hne]), ⟨(wI (g := h) (by omega)), ⟨h + 1, (rf 0), (rf ((c : Nat) : Int)), (rf ((g : Nat) : Int)), (by omega), (rf (some (B 0))), (rf 0), (rf 0), (rf 0), (rf (if g = c then o else !o : Bool)), (rf n), (fun j0 hj0 => rfl), (rf n), (fun j0 hj0 => ⟨rfl, (fun j1 hj1 => rfl)⟩), (rf n), (leS (fun i0 => .ex (.int .i64 ((pSw P c g i0 : Nat) : Int))) n), (rf n), (fun j0 hj0 => ⟨rfl, (fun j1 hj1 => rfl)⟩), ⟨by omega, by omega⟩, (by omega)⟩⟩⟩⟩⟩⟩⟩⟩⟩⟩⟩⟩⟩⟩⟩⟩⟩⟩⟩⟩⟩⟩⟩⟩⟩⟩⟩⟩⟩⟩⟩⟩⟩⟩⟩⟩⟩⟩, fun hc146 => have hc146 := of_decide_eq_false hc146; have hi3 : h = n := (by omega); ⟨(rf (true : Bool)), (rf (some (B 0))), (rf 0), (rf 0), (rf 0), (by rw [lu_o hK]), (rf n), (fun j0 hj0 => (by rw [lu_P hK])), (rf n), (fun j0 hj0 => ⟨rfl, (fun j1 hj1 => (by rw [lu_U hK, hi3]))⟩), (rf n), (fun j0 hj0 => (by rw [lu_P hK])), (rf n), (fun j0 hj0 => ⟨rfl, (fun j1 hj1 => (by rw [lu_L hK, lu_R hK, hi3]))⟩)⟩⟩⟩⟩⟩⟩⟩⟩⟩⟩⟩⟩⟩⟩⟩⟩⟩⟩⟩⟩⟩⟩⟩⟩⟩⟩⟩⟩⟩⟩⟩⟩⟩⟩⟩⟩⟩⟩⟩⟩⟩⟩⟩⟩⟩⟩⟩⟩⟩⟩⟩⟩⟩⟩⟩⟩⟩⟩⟩⟩⟩⟩⟩⟩⟩⟩⟩⟩⟩⟩⟩⟩⟩⟩⟩⟩⟩⟩⟩⟩⟩, fun hc41 => have hk3 : g = c := (by simp at hc41; omega); ⟨(rf 0), ⟨(rf ((c : Nat) : Int)), ⟨(rf ((g : Nat) : Int)), ⟨(rf (some (B 0))), ⟨(rf 0), ⟨(rf 0), ⟨(rf 0), ⟨(by first | exact (if_neg hk3).symm | exact (if_pos hk3).symm), ⟨(rf n), ⟨(fun j0 hj0 => (by first | rfl | exact (pSw_same hk3).symm)), ⟨(rf n), ⟨(fun j0 hj0 => ⟨rfl, (fun j1 hj1 => (by first | exact elimQ_zero0 | exact (swap_same hk3).symm.trans elimQ_zero0))⟩), ⟨(rf n), ⟨(fun j0 hj0 => (by first | rfl | exact congrArg (fun x : Nat => ((x : Nat) : Int)) (pSw_same hk3).symm)), ⟨(rf n), ⟨(fun j0 hj0 => ⟨rfl, (fun j1 hj1 => (low_conv))⟩), ⟨(rf ((c : Nat) : Int)), ⟨(by omega), ⟨(by omega), ⟨sRatInt (x := 1) (by omega) (by omega), ⟨(rf ((c : Nat) : Int)), ⟨(by omega), ⟨(by omega), ⟨(by omega), ⟨(lowQ_corner), ⟨(fun t ht hne => by rw [lowQ_col hne, hB1.inv, lowQ_col hne]), ⟨(by omega), ⟨(by rw [hB1.inv]), ⟨(fun t ht hne => by rw [lowQ_row (hne0 hne)]), ⟨(wI (g := c) (by omega)), ⟨⟨c + 1, (rf 0), (rf ((c : Nat) : Int)), (rf ((g : Nat) : Int)), (by omega), (rf (some (B 0))), (rf 0), (rf 0), (rf 0), (rf (if g = c then o else !o : Bool)), (rf n), (fun j0 hj0 => rfl), (rf n), (fun j0 hj0 => ⟨rfl, (fun j1 hj1 => elimQ_from)⟩), (rf n), (leS (fun i0 => .ex (.int .i64 ((pSw P c g i0 : Nat) : Int))) n), (rf n), (fun j0 hj0 => ⟨rfl, (fun j1 hj1 => rfl)⟩), ⟨Nat.le_refl _, by omega⟩⟩, fun h hh0 => have hh1 := hh0.1; have hh2 := hh0.2; have hne0 := fun {t : Nat} (k : t ≠ pSw P c g h) => rSw_ne hB1 k; ⟨fun hc146 => have hc146 := of_decide_eq_true hc146; have hh : c < h ∧ h < n := ⟨by omega, by omega⟩; have hP2 := hB1.lt h hh.2; ⟨(rf ((h : Nat) : Int)), ⟨(by omega), ⟨(by omega), ⟨(rf ((c : Nat) : Int)), ⟨(by omega), ⟨(rf ((c : Nat) : Int)), ⟨(by omega), ⟨(by omega), ⟨(rf ((c : Nat) : Int)), ⟨(by omega), ⟨sRatDiv (p := (elimQ (swapR U c g) c h) h c) (q := (elimQ (swapR U c g) c h) c c) (div_room H4 (by omega) hh.2), ⟨(rf ((h : Nat) : Int)), ⟨(by omega), ⟨(by omega), ⟨(rf ((c : Nat) : Int)), ⟨(by omega), ⟨(by omega), ⟨(by omega), ⟨(lowQ_now2 (by omega)), ⟨(fun t ht hne => by rw [lowQ_col hne, hB1.inv, lowQ_col hne]), ⟨(by omega), ⟨(by rw [hB1.inv]), ⟨(fun t ht hne => by rw [lowQ_row (hne0 hne)]), ⟨(rf ((h : Nat) : Int)), ⟨(by omega), ⟨(by omega), ⟨sRatNeg (q := ((elimQ (swapR U c g) c h) h c) / ((elimQ (swapR U c g) c h) c c)), ⟨(rf ((c : Nat) : Int)), ⟨(by omega), ⟨(by omega), ⟨(sVecAddTimes (a := (elimQ (swapR U c g) c h) h) (b := (elimQ (swapR U c g) c h) c) (n := n) (r := - (((elimQ (swapR U c g) c h) h c) / ((elimQ (swapR U c g) c h) c c))) (by omega) (lu_room H4 (by omega) hh.2)).frzV2, ⟨(rf ((h : Nat) : Int)), ⟨(by omega), ⟨(by omega), ⟨⟨rfl, (fun j0 hj0 => (elim_now (by omega)))⟩, ⟨(fun t ht hne => by simp only [elimQ_ne hne]), ⟨(wI (g := h) (by omega)), ⟨h + 1, (rf 0), (rf ((c : Nat) : Int)), (rf ((g : Nat) : Int)), (by omega), (rf (some (B 0))), (rf 0), (rf 0), (rf 0), (rf (if g = c then o else !o : Bool)), (rf n), (fun j0 hj0 => rfl), (rf n), (fun j0 hj0 => ⟨rfl, (fun j1 hj1 => rfl)⟩), (rf n), (leS (fun i0 => .ex (.int .i64 ((pSw P c g i0 : Nat) : Int))) n), (rf n), (fun j0 hj0 => ⟨rfl, (fun j1 hj1 => rfl)⟩), ⟨by omega, by omega⟩, (by omega)⟩⟩⟩⟩⟩⟩⟩⟩⟩⟩⟩⟩⟩⟩⟩⟩⟩⟩⟩⟩⟩⟩⟩⟩⟩⟩⟩⟩⟩⟩⟩⟩⟩⟩⟩⟩⟩⟩, fun hc146 => have hc146 := of_decide_eq_false hc146; have hi3 : h = n := (by omega); ⟨(rf (true : Bool)), (rf (some (B 0))), (rf 0), (rf 0), (rf 0), (by rw [lu_o hK]), (rf n), (fun j0 hj0 => (by rw [lu_P hK])), (rf n), (fun j0 hj0 => ⟨rfl, (fun j1 hj1 => (by rw [lu_U hK, hi3]))⟩), (rf n), (fun j0 hj0 => (by rw [lu_P hK])), (rf n), (fun j0 hj0 => ⟨rfl, (fun j1 hj1 => (by rw [lu_L hK, lu_R hK, hi3]))⟩)⟩⟩⟩⟩⟩⟩⟩⟩⟩⟩⟩⟩⟩⟩⟩⟩⟩⟩⟩⟩⟩⟩⟩⟩⟩⟩⟩⟩⟩⟩⟩⟩⟩⟩⟩⟩⟩⟩⟩⟩⟩⟩⟩⟩⟩⟩⟩⟩⟩⟩⟩⟩⟩⟩)
def parS (L : Nat → Nat → Rat) (x : Nat → Rat) (t : Rat) (k : Nat) : Nat → Rat
  | 0 => t
  | h + 1 => parS L x t k h - L k h * x h
def fwS (L : Nat → Nat → Rat) (d : Nat → Rat) (f : Nat → Rat → Rat) (base : Nat → Rat) : Nat → Nat → Rat
  | 0, j => base j
  | k + 1, j => if j = k then f k (parS L (fwS L d f base k) (d k) k k) else fwS L d f base k j
def fwI (L : Nat → Nat → Rat) (d : Nat → Rat) (f : Nat → Rat → Rat) (base : Nat → Rat) (k h j : Nat) : Rat := if j = k then parS L (fwS L d f base k) (d k) k h else fwS L d f base k j
def bwP (U : Nat → Nat → Rat) (y : Nat → Rat) (t : Rat) (k : Nat) : Nat → Rat
  | 0 => t
  | h + 1 => bwP U y t k h - U k (k + 1 + h) * y (k + 1 + h)
def bwS (U : Nat → Nat → Rat) (z : Nat → Rat) (f : Nat → Rat → Rat) (n : Nat) : Nat → Nat → Rat
  | 0, j => z j
  | g + 1, j => if j = n - 1 - g then f (n - 1 - g) (bwP U (bwS U z f n g) (z (n - 1 - g)) (n - 1 - g) g) else bwS U z f n g j
def bwI (U : Nat → Nat → Rat) (z : Nat → Rat) (f : Nat → Rat → Rat) (n g h j : Nat) : Rat := if j = n - 1 - g then bwP U (bwS U z f n g) (z (n - 1 - g)) (n - 1 - g) h else bwS U z f n g j
section
variable {L U : Nat → Nat → Rat} {d base z : Nat → Rat} {f : Nat → Rat → Rat} {k h j n g : Nat}
theorem fwI_self : fwI L d f base k h k = parS L (fwS L d f base k) (d k) k h := if_pos rfl
theorem fwI_other (e : j ≠ k) : fwI L d f base k h j = fwS L d f base k j := if_neg e
theorem fwI_at (e : h < k) : fwI L d f base k h k - L k h * fwI L d f base k h h = fwI L d f base k (h + 1) k := by
  rw [fwI_self, fwI_self, fwI_other (by omega)]; rfl
theorem fwI_ne (e : j ≠ k) : fwI L d f base k (h + 1) j = fwI L d f base k h j := by rw [fwI_other e, fwI_other e]
theorem fwI_zero (e : j ≠ k) : fwI L d f base k 0 j = fwS L d f base k j := fwI_other e
theorem fwI_put : d k = fwI L d f base k 0 k := by rw [fwI_self]; rfl
theorem fwS_at : f k (fwI L d f base k k k) = fwS L d f base (k + 1) k := by rw [fwI_self]; exact (if_pos rfl).symm
theorem fwS_ne (e : j ≠ k) : fwS L d f base (k + 1) j = fwI L d f base k k j := by rw [fwI_other e]; exact if_neg e
theorem fwS_late (e : k ≤ j) : fwS L d f base k j = base j := by
  induction k with
  | zero => rfl
  | succ k ih => show (if j = k then _ else _) = _; rw [if_neg (by omega)]; exact ih (by omega)
theorem fwI_start (hd : d = base) : fwS L d f base k j = fwI L d f base k 0 j := by
  by_cases e : j = k
  · subst e; rw [fwI_self, fwS_late (Nat.le_refl j)]; show base j = d j; rw [hd]
  · exact (fwI_other e).symm
theorem fwI_all (hf : ∀ x, f k x = x) : fwI L d f base k k j = fwS L d f base (k + 1) j := by
  by_cases e : j = k
  · subst e; rw [← fwS_at, hf]
  · exact (fwS_ne e).symm
theorem bwI_self : bwI U z f n g h (n - 1 - g) = bwP U (bwS U z f n g) (z (n - 1 - g)) (n - 1 - g) h := if_pos rfl
theorem bwI_other (e : j ≠ n - 1 - g) : bwI U z f n g h j = bwS U z f n g j := if_neg e
theorem bwI_at : bwI U z f n g h (n - 1 - g) - U (n - 1 - g) (n - 1 - g + 1 + h) * bwI U z f n g h (n - 1 - g + 1 + h) = bwI U z f n g (h + 1) (n - 1 - g) := by
  rw [bwI_self, bwI_self, bwI_other (by omega)]; rfl
theorem bwI_ne (e : j ≠ n - 1 - g) : bwI U z f n g (h + 1) j = bwI U z f n g h j := by rw [bwI_other e, bwI_other e]
theorem bwS_at : f (n - 1 - g) (bwI U z f n g g (n - 1 - g)) = bwS U z f n (g + 1) (n - 1 - g) := by rw [bwI_self]; exact (if_pos rfl).symm
theorem bwS_ne (e : j ≠ n - 1 - g) : bwS U z f n (g + 1) j = bwI U z f n g g j := by rw [bwI_other e]; exact if_neg e
theorem bwS_early (hg : g ≤ n) (e : j < n - g) : bwS U z f n g j = z j := by
  induction g with
  | zero => rfl
  | succ g ih => show (if j = n - 1 - g then _ else _) = _; rw [if_neg (by omega)]; exact ih (by omega) (by omega)
theorem bwI_start (hg : g < n) : bwS U z f n g j = bwI U z f n g 0 j := by
  by_cases e : j = n - 1 - g
  · subst e; rw [bwI_self, bwS_early (by omega) (by omega)]; rfl
  · exact (bwI_other e).symm
theorem bwI_all (hf : ∀ x, f (n - 1 - g) x = x) : bwI U z f n g g j = bwS U z f n (g + 1) j := by
  by_cases e : j = n - 1 - g
  · subst e; rw [← bwS_at, hf]
  · exact (bwS_ne e).symm
theorem fwS_stay (e : j < k) : ∀ m, fwS L d f base (k + m) j = fwS L d f base k j
  | 0 => rfl
  | m + 1 => by show (if j = k + m then _ else _) = _; rw [if_neg (by omega)]; exact fwS_stay e m
theorem fwS_final (e : j < k) (h : k ≤ n) : fwS L d f base n j = fwS L d f base k j := by
  have := fwS_stay (L := L) (d := d) (f := f) (base := base) e (n - k)
  rwa [show k + (n - k) = n by omega] at this
theorem parS_sum {x : Nat → Rat} {t : Rat} : ∀ h, parS L x t k h + sumQ (fun c => L k c * x c) h = t
  | 0 => by show t + 0 = t; grind
  | h + 1 => by
    have := parS_sum (x := x) (t := t) h
    show parS L x t k h - L k h * x h + (sumQ _ h + L k h * x h) = t
    rw [← this]; grind
theorem fw_eq (hk : k < n) : parS L (fwS L d f base n) (d k) k k = d k - sumQ (fun c => L k c * fwS L d f base n c) k ∧ fwS L d f base n k = f k (parS L (fwS L d f base n) (d k) k k) := by
  refine ⟨?_, ?_⟩
  · have := parS_sum (L := L) (k := k) (x := fwS L d f base n) (t := d k) k
    rw [← this]; grind
  · rw [fwS_final (k := k + 1) (Nat.lt_succ_self k) hk]
    show (if k = k then _ else _) = _
    rw [if_pos rfl]
    congr 1
    have key : ∀ h, h ≤ k → parS L (fwS L d f base k) (d k) k h = parS L (fwS L d f base n) (d k) k h := by
      intro h hh
      induction h with
      | zero => rfl
      | succ h ih => show parS L _ _ k h - _ = parS L _ _ k h - _; rw [ih (by omega), fwS_final (n := n) (k := k) (by omega) (by omega)]
    exact key k (Nat.le_refl k)
theorem bwS_stay (e : n - 1 - g ≤ j) (hg : g < n) : ∀ m, g + 1 + m ≤ n → bwS U z f n (g + 1 + m) j = bwS U z f n (g + 1) j
  | 0, _ => rfl
  | m + 1, h => by show (if j = n - 1 - (g + 1 + m) then _ else _) = _; rw [if_neg (by omega)]; exact bwS_stay e hg m (by omega)
theorem bwP_sum {x : Nat → Rat} {t : Rat} : ∀ h, bwP U x t k h + sumQ (fun c => U k (k + 1 + c) * x (k + 1 + c)) h = t
  | 0 => by show t + 0 = t; grind
  | h + 1 => by
    have := bwP_sum (x := x) (t := t) h
    show bwP U x t k h - U k (k + 1 + h) * x (k + 1 + h) + (sumQ _ h + U k (k + 1 + h) * x (k + 1 + h)) = t
    rw [← this]; grind
theorem bw_eq (hk : k < n) : bwS U z f n n k = f k (z k - sumQ (fun c => U k (k + 1 + c) * bwS U z f n n (k + 1 + c)) (n - 1 - k)) := by
  have e : n - 1 - (n - 1 - k) = k := by omega
  have h1 := bwS_stay (U := U) (z := z) (f := f) (n := n) (g := n - 1 - k) (j := k) (by omega) (by omega) (n - (n - 1 - k + 1)) (by omega)
  rw [show n - 1 - k + 1 + (n - (n - 1 - k + 1)) = n by omega] at h1
  rw [h1]
  show (if k = n - 1 - (n - 1 - k) then f (n - 1 - (n - 1 - k)) _ else _) = _
  rw [if_pos e.symm, e]
  congr 1
  have h2 := bwP_sum (U := U) (k := k) (x := bwS U z f n (n - 1 - k)) (t := z k) (n - 1 - k)
  have h3 : sumQ (fun c => U k (k + 1 + c) * bwS U z f n (n - 1 - k) (k + 1 + c)) (n - 1 - k) = sumQ (fun c => U k (k + 1 + c) * bwS U z f n n (k + 1 + c)) (n - 1 - k) := sumQ_congr _ fun c hc => by
    have h4 := bwS_stay (U := U) (z := z) (f := f) (n := n) (g := n - 2 - k) (j := k + 1 + c) (by omega) (by omega) (n - (n - 2 - k + 1)) (by omega)
    rw [show n - 2 - k + 1 + (n - (n - 2 - k + 1)) = n by omega, show n - 2 - k + 1 = n - 1 - k by omega] at h4
    rw [h4]
  rw [h3] at h2
  rw [← h2]; grind
theorem sumQ_split (F : Nat → Rat) (a : Nat) : ∀ m, sumQ F (a + m) = sumQ F a + sumQ (fun c => F (a + c)) m
  | 0 => by show sumQ F a = sumQ F a + 0; grind
  | m + 1 => by show sumQ F (a + m) + F (a + m) = _ + (_ + F (a + m)); rw [sumQ_split F a m]; grind
theorem fw_solves (hone : ∀ k, k < n → L k k = 1) (hup : ∀ i k, i < n → i < k → L i k = 0) (hf : ∀ k x, f k x = x) (hk : k < n) : sumQ (fun c => L k c * fwS L d f base n c) n = d k := by
  obtain ⟨h1, h2⟩ := fw_eq (L := L) (d := d) (f := f) (base := base) hk
  rw [hf, h1] at h2
  rw [show n = k + 1 + (n - k - 1) by omega, sumQ_split, sumQ_congr (n - k - 1) (g := fun _ => 0) fun c hc => by rw [hup k _ hk (by omega)]; grind, sumQ_zero, show k + 1 + (n - k - 1) = n by omega]
  show sumQ _ k + L k k * _ + 0 = d k
  rw [hone k hk, h2]; grind
theorem fw_divides (hp : ∀ k, k < n → L k k ≠ 0) (hup : ∀ i k, i < n → k < n → i < k → L i k = 0) (hf : ∀ k x, f k x = x / L k k) (hk : k < n) : sumQ (fun c => L k c * fwS L d f base n c) n = d k := by
  obtain ⟨h1, h2⟩ := fw_eq (L := L) (d := d) (f := f) (base := base) hk
  rw [hf, h1] at h2
  rw [show n = k + 1 + (n - k - 1) by omega, sumQ_split, sumQ_congr (n - k - 1) (g := fun _ => 0) fun c hc => by rw [hup k _ hk (by omega) (by omega)]; grind, sumQ_zero, show k + 1 + (n - k - 1) = n by omega]
  show sumQ _ k + L k k * _ + 0 = d k
  have h3 := Rat.div_mul_cancel (a := d k - sumQ (fun c => L k c * fwS L d f base n c) k) (hp k hk)
  rw [← h2] at h3; grind
theorem bw_divides (hp : ∀ k, k < n → U k k ≠ 0) (hlow : ∀ i k, i < n → k < n → k < i → U i k = 0) (hf : ∀ k x, f k x = x / U k k) (hk : k < n) : sumQ (fun c => U k c * bwS U z f n n c) n = z k := by
  have h2 := bw_eq (U := U) (z := z) (f := f) hk
  rw [hf] at h2
  rw [show n = k + (1 + (n - 1 - k)) by omega, sumQ_split, sumQ_congr k (g := fun _ => 0) fun c hc => by rw [hlow k c hk (by omega) hc]; grind, sumQ_zero, sumQ_split, show k + (1 + (n - 1 - k)) = n by omega]
  show 0 + (0 + U k (k + 0) * bwS U z f n n (k + 0) + sumQ (fun c => U k (k + (1 + c)) * bwS U z f n n (k + (1 + c))) (n - 1 - k)) = z k
  rw [sumQ_congr (n - 1 - k) (g := fun c => U k (k + 1 + c) * bwS U z f n n (k + 1 + c)) fun c _ => by rw [Nat.add_assoc], Nat.add_zero]
  have h3 := Rat.div_mul_cancel (a := z k - sumQ (fun c => U k (k + 1 + c) * bwS U z f n n (k + 1 + c)) (n - 1 - k)) (hp k hk)
  rw [← h2] at h3; grind
theorem bw_solves (hone : ∀ k, k < n → U k k = 1) (hlow : ∀ i k, i < n → k < n → k < i → U i k = 0) (hf : ∀ k x, f k x = x) (hk : k < n) : sumQ (fun c => U k c * bwS U z f n n c) n = z k := by
  have h2 := bw_eq (U := U) (z := z) (f := f) hk
  rw [hf] at h2
  rw [show n = k + (1 + (n - 1 - k)) by omega, sumQ_split, sumQ_congr k (g := fun _ => 0) fun c hc => by rw [hlow k c hk (by omega) hc]; grind, sumQ_zero, sumQ_split, show k + (1 + (n - 1 - k)) = n by omega]
  show 0 + (0 + U k (k + 0) * bwS U z f n n (k + 0) + sumQ (fun c => U k (k + (1 + c)) * bwS U z f n n (k + (1 + c))) (n - 1 - k)) = z k
  rw [sumQ_congr (n - 1 - k) (g := fun c => U k (k + 1 + c) * bwS U z f n n (k + 1 + c)) fun c _ => by rw [Nat.add_assoc], Nat.add_zero, hone k hk, h2]; grind
theorem par_ht {x : Nat → Rat} {t : Rat} {S D E : Nat} (hL : ∀ c, c < k → htq (L k c) ≤ S) (ht : htq t ≤ D) : ∀ h, h ≤ k → (∀ c, c < h → htq (x c) + S + 1 ≤ 2 ^ c * E) → htq (parS L x t k h) + E ≤ D + 2 ^ h * E
  | 0, _, _ => by show htq t + E ≤ D + 2 ^ 0 * E; omega
  | h + 1, hh, hx => by
    have ih := par_ht hL ht h (by omega) fun c hc => hx c (by omega)
    have h1 := ht_sub (parS L x t k h) (L k h * x h)
    have h2 := ht_mul (L k h) (x h)
    have h3 := hL h (by omega)
    have h4 := hx h (Nat.lt_succ_self h)
    show htq (parS L x t k h - L k h * x h) + E ≤ _
    rw [Nat.pow_succ, show 2 ^ h * 2 * E = 2 ^ h * E + 2 ^ h * E by rw [Nat.mul_comm (2 ^ h) 2, Nat.mul_assoc, Nat.two_mul]]
    omega
theorem fw_ht {S D : Nat} (hL : ∀ k, k < n → ∀ c, c < k → htq (L k c) ≤ S) (hd : ∀ k, k < n → htq (d k) ≤ D) (hf : ∀ k x, k < n → htq (f k x) ≤ htq x + S) : ∀ k, k ≤ n → ∀ j, j < k → htq (fwS L d f base k j) + S + 1 ≤ 2 ^ j * (D + 2 * S + 1)
  | 0, _, j, hj => absurd hj (Nat.not_lt_zero j)
  | k + 1, hk, j, hj => by
    have ih := fw_ht hL hd hf k (by omega)
    show htq (if j = k then _ else _) + S + 1 ≤ _
    split
    · rename_i e
      have h1 := par_ht (L := L) (k := k) (x := fwS L d f base k) (t := d k) (E := D + 2 * S + 1) (hL k (by omega)) (hd k (by omega)) k (Nat.le_refl k) ih
      have h2 := hf k (parS L (fwS L d f base k) (d k) k k) (by omega)
      rw [e]; omega
    · exact ih j (by omega)
theorem bwP_ht {x : Nat → Rat} {t : Rat} {S D E : Nat} (hU : ∀ c, c < n → htq (U k c) ≤ S) (ht : htq t ≤ D) (hg : k + 1 + g = n) : ∀ h, h ≤ g → (∀ c, c < h → htq (x (k + 1 + c)) + S + 1 ≤ 2 ^ (g - 1 - c) * E) → htq (bwP U x t k h) + 2 ^ (g - h) * E ≤ D + 2 ^ g * E
  | 0, _, _ => by show htq t + _ ≤ _; rw [Nat.sub_zero]; omega
  | h + 1, hh, hx => by
    have ih := bwP_ht hU ht hg h (by omega) fun c hc => hx c (by omega)
    have h1 := ht_sub (bwP U x t k h) (U k (k + 1 + h) * x (k + 1 + h))
    have h2 := ht_mul (U k (k + 1 + h)) (x (k + 1 + h))
    have h3 := hU (k + 1 + h) (by omega)
    have h4 := hx h (Nat.lt_succ_self h)
    show htq (bwP U x t k h - U k (k + 1 + h) * x (k + 1 + h)) + 2 ^ (g - (h + 1)) * E ≤ _
    have e : 2 ^ (g - h) * E = 2 ^ (g - (h + 1)) * E + 2 ^ (g - (h + 1)) * E := by
      rw [show g - h = (g - (h + 1)) + 1 by omega, Nat.pow_succ, Nat.mul_comm _ 2, Nat.mul_assoc, Nat.two_mul]
    rw [show g - 1 - h = g - (h + 1) by omega] at h4
    omega
theorem bw_ht {S D : Nat} (hU : ∀ k, k < n → ∀ c, c < n → htq (U k c) ≤ S) (hz : ∀ k, k < n → htq (z k) ≤ D) (hf : ∀ k x, k < n → htq (f k x) ≤ htq x + S) : ∀ g, g ≤ n → ∀ i, i < g → htq (bwS U z f n g (n - 1 - i)) + S + 1 ≤ 2 ^ i * (D + 2 * S + 1)
  | 0, _, i, hi => absurd hi (Nat.not_lt_zero i)
  | g + 1, hg, i, hi => by
    have ih := bw_ht hU hz hf g (by omega)
    show htq (if n - 1 - i = n - 1 - g then _ else _) + S + 1 ≤ _
    split
    · rename_i e
      obtain rfl : i = g := by omega
      have h1 := bwP_ht (U := U) (n := n) (k := n - 1 - i) (g := i) (x := bwS U z f n i) (t := z (n - 1 - i)) (E := D + 2 * S + 1) (hU _ (by omega)) (hz _ (by omega)) (by omega) i (Nat.le_refl i) fun c hc => by
        have := ih (i - 1 - c) (by omega)
        rwa [show n - 1 - (i - 1 - c) = n - 1 - i + 1 + c by omega] at this
      rw [Nat.sub_self] at h1
      have h2 := hf (n - 1 - i) (bwP U (bwS U z f n i) (z (n - 1 - i)) (n - 1 - i) i) (by omega)
      omega
    · exact ih i (by omega)
end
theorem sumQ_perm {n : Nat} {P ρ : Nat → Nat} (H : Bij n P ρ) (F : Nat → Rat) : sumQ F n = sumQ (fun i => F (P i)) n := by
  have h1 : sumQ F n = sumQ (fun r => sumQ (fun i => if P i = r then F r else 0) n) n := sumQ_congr n fun r hr => by
    rw [sumQ_one (k := ρ r) n (H.lt' r hr) fun i _ hi => if_neg fun e => hi (by rw [← e, H.inv]), if_pos (H.inv' r)]
  rw [h1, sumQ_comm (fun r i => if P i = r then F r else 0) n n]
  exact sumQ_congr n fun i hi => by
    rw [sumQ_one (k := P i) n (H.lt i hi) fun r _ hr => if_neg (Ne.symm hr), if_pos rfl]
def luZ (n : Nat) (L : Nat → Nat → Rat) (d : Nat → Rat) : Nat → Rat := fwS L d (fun _ x => x) (fun _ => 0) n
def luX (n : Nat) (U L : Nat → Nat → Rat) (d : Nat → Rat) : Nat → Rat := bwS U (luZ n L d) (fun k x => x / U k k) n n
def luY (n : Nat) (U : Nat → Nat → Rat) (c : Nat → Rat) : Nat → Rat := fwS (trM U) c (fun k x => x / U k k) c n
def luW (n : Nat) (U L : Nat → Nat → Rat) (c : Nat → Rat) : Nat → Rat := bwS (trM L) (luY n U c) (fun _ x => x) n n
theorem sum_swap {n : Nat} {F : Nat → Nat → Rat} {x y : Nat → Rat} : sumQ (fun j => sumQ (fun k => x k * F k j) n * y j) n = sumQ (fun k => x k * sumQ (fun j => F k j * y j) n) n := by
  rw [sumQ_congr n (g := fun j => sumQ (fun k => x k * (F k j * y j)) n) fun j _ => by
    have : sumQ (fun k => x k * F k j) n * y j = y j * sumQ (fun k => x k * F k j) n := by grind
    rw [this, ← sumQ_mul]; exact sumQ_congr n fun k _ => by grind, sumQ_comm (fun j k => x k * (F k j * y j)) n n]
  exact sumQ_congr n fun k _ => sumQ_mul _ _ _
theorem lu_solves {n : Nat} {A : Nat → Nat → Rat} {b : Nat → Rat} (h : luOK n A n) {r : Nat} (hr : r < n) : sumQ (fun j => A r j * luX n (luS n A n).1 (luS n A n).2.1 (fun i => b ((luS n A n).2.2.1 i)) j) n = b r := by
  have hB := lu_bij (n := n) (A := A) n (Nat.le_refl n) h
  have I := lu_inv (n := n) (A := A) n (Nat.le_refl n) h
  have hp : ∀ j, j < n → A r j = sumQ (fun k => (luS n A n).2.1 ((luS n A n).2.2.2.1 r) k * (luS n A n).1 k j) n := fun j hj => by
    rw [← lu_prod h (hB.lt' r hr) hj, hB.inv']
  rw [sumQ_congr n fun j hj => by rw [hp j hj], sum_swap]
  rw [sumQ_congr n (g := fun k => (luS n A n).2.1 ((luS n A n).2.2.2.1 r) k * luZ n (luS n A n).2.1 (fun i => b ((luS n A n).2.2.1 i)) k) fun k hk => by
    rw [show sumQ (fun j => (luS n A n).1 k j * luX n (luS n A n).1 (luS n A n).2.1 (fun i => b ((luS n A n).2.2.1 i)) j) n = _ from bw_divides I.piv (fun i k hi hk hki => I.below i k hi hk hki) (fun _ _ => rfl) hk]]
  have := fw_solves (base := fun _ => 0) (d := fun i => b ((luS n A n).2.2.1 i)) (f := fun _ x => x) I.one (fun i k hi hik => I.above i k hi hik) (fun _ _ => rfl) (hB.lt' r hr)
  rw [hB.inv'] at this
  exact this
theorem lu_solvesT {n : Nat} {A : Nat → Nat → Rat} {c : Nat → Rat} (h : luOK n A n) {j : Nat} (hj : j < n) : sumQ (fun r => luW n (luS n A n).1 (luS n A n).2.1 c ((luS n A n).2.2.2.1 r) * A r j) n = c j := by
  have hB := lu_bij (n := n) (A := A) n (Nat.le_refl n) h
  have I := lu_inv (n := n) (A := A) n (Nat.le_refl n) h
  rw [sumQ_perm hB]
  rw [sumQ_congr n (g := fun i => sumQ (fun k => (luS n A n).1 k j * (luS n A n).2.1 i k) n * luW n (luS n A n).1 (luS n A n).2.1 c i) fun i hi => by
    rw [lu_prod h hi hj, hB.inv]
    have : ∀ a b : Rat, a * b = b * a := fun a b => by grind
    rw [this, sumQ_congr n fun k _ => this _ _]]
  rw [sum_swap (F := fun k i => (luS n A n).2.1 i k)]
  rw [sumQ_congr n (g := fun k => trM (luS n A n).1 j k * luY n (luS n A n).1 c k) fun k hk => by
    rw [show sumQ (fun i => (luS n A n).2.1 i k * luW n (luS n A n).1 (luS n A n).2.1 c i) n = luY n (luS n A n).1 c k from bw_solves (U := trM (luS n A n).2.1) I.one (fun i k hi hk hki => I.above k i hk hki) (fun _ _ => rfl) hk]; rfl]
  exact fw_divides (L := trM (luS n A n).1) (base := c) (d := c) I.piv (fun i k hi hk hik => I.below k i hk hi hik) (fun _ _ => rfl) hj
open Go.RowKit
theorem CallOK.frzI {P : Program} {f : FuncId} {As : List SV} {T : TypeId} {n : Nat} {a : Nat → Int} (h : CallOK P f As (.own 0 0) [.one (.row T 1 (fun i => .ex (.int .i64 (a i))) n)]) : CallOK P f As (.sl 1 (fun i => .ex (.int .i64 (a i))) n) [] :=
  h.told [] (Eq.mp (α := n = n ∧ ∀ j, j < n → a j = a j) (by kernel_rfl) ⟨rfl, fun _ _ => rfl⟩)
set_option maxRecDepth 100000 in
theorem sCloneNil {a : Nat → Int}  : CallOK Try.prog 79 [.ex (.slice none 0 0)] (.own 0 0) [.one (.row 3 1 (fun i0 => .ex (.int .i64 (a i0))) 0)] := by
  exact callOK_P (ch := [.dec 4 true, .ret 2 [(0, .nil)]]) hMix Try.func79 rfl (by kernel_rfl) (by kernel_rfl) ((true = true) ∧ (_ ∧ _)) (by kernel_rfl)
    ⟨rfl, ⟨(rf 0), (rf 0)⟩⟩
set_option maxRecDepth 100000 in
theorem sCloneSome {a : Nat → Int} {n : Nat} (h0 : 0 < n) (hn : n ≤ 68719476736) : CallOK Try.prog 79 [.sl 1 (fun i0 => .ex (.int .i64 (a i0))) n] (.own 0 0) [.one (.row 3 1 (fun i0 => .ex (.int .i64 (a i0))) n)] := by
  exact callOK_P (ch := [.dec 4 false, .reg 3 [(2, .row 0 (fun i0 => .ex (.int .i64 (a i0))))], .ret 3 [(0, .id 1)]]) hMix Try.func79 rfl (by kernel_rfl) (by kernel_rfl) ((∀ j0, j0 < n → True) ∧ (0 < n) ∧ (false = false) ∧ (0 + n ≤ 68719476736) ∧ (∀ j0, j0 < 0 → (.ex (.int .i64 (a j0)) : SV) = .any) ∧ (∀ j0, j0 < n → ((a j0 : Int) = (a (0 + j0)))) ∧ (_ ∧ ((0 + n : Nat) = n) ∧ _)) (by kernel_rfl)
    ⟨(fun _ _ => trivial), ⟨(by omega), ⟨rfl, ⟨(by omega), ⟨(fun j0 hj0 => absurd hj0 (Nat.not_lt_zero j0)), ⟨(fun j0 hj0 => by rw [Nat.zero_add]), ⟨(rf 0), (by omega), (leS (fun i0 => .ex (.int .i64 (a i0))) (0 + n))⟩⟩⟩⟩⟩⟩⟩
set_option maxRecDepth 100000 in
theorem sCloneZero {a : Nat → Int} {ad : Addr} {c : Nat}  : CallOK Try.prog 79 [.ex (.slice (some ad) 0 c)] (.own 0 0) [.one (.row 3 1 (fun i0 => .ex (.int .i64 (a i0))) 0)] := by
  exact callOK_P (ch := [.dec 4 false, .reg 3 [(2, .row 0 (fun i0 => .ex (.int .i64 (a i0))))], .ret 3 [(0, .id 1)]]) hMix Try.func79 rfl (by kernel_rfl) (by kernel_rfl) ((false = false) ∧ (0 + 0 ≤ 68719476736) ∧ (∀ j0, j0 < 0 → (.ex (.int .i64 (a j0)) : SV) = .any) ∧ (∀ j0, j0 < 0 → (False)) ∧ (_ ∧ ((0 + 0 : Nat) = 0) ∧ _)) (by kernel_rfl)
    ⟨rfl, ⟨(by omega), ⟨(fun j0 hj0 => absurd hj0 (Nat.not_lt_zero j0)), ⟨(fun j0 hj0 => absurd hj0 (Nat.not_lt_zero j0)), ⟨(rf 0), rfl, (leS (fun i0 => .ex (.int .i64 (a i0))) (0 + 0))⟩⟩⟩⟩⟩
theorem sClone {a : Nat → Int} {n : Nat} (hn : n ≤ 68719476736) : CallOK Try.prog 79 [.sl 1 (fun i => .ex (.int .i64 (a i))) n] (.own 0 0) [.one (.row 3 1 (fun i => .ex (.int .i64 (a i))) n)] := by
  by_cases h : 0 < n
  · exact sCloneSome h hn
  · obtain rfl : n = 0 := by omega
    refine ⟨(sCloneNil (a := a)).cal, fun η0 F w vals hF hA => ?_⟩
    match vals, hA with
    | [v], hA =>
      obtain ⟨A0, c, rfl, hz, _⟩ := hA.1
      cases A0 with
      | none =>
        obtain ⟨_, rfl⟩ := hz rfl
        exact (sCloneNil (a := a)).run η0 F w _ hF ⟨rfl, trivial⟩
      | some ad => exact (sCloneZero (a := a) (ad := ad) (c := c)).run η0 F w _ hF ⟨rfl, trivial⟩
    | [], hA => exact hA.elim
    | _ :: _ :: _, hA => exact hA.2.elim
end Go.Proofs.Ytlgbhpdblpekfaa
