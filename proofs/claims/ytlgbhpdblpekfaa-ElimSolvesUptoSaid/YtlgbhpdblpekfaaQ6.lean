/- The parts SL, SA, SG, Det, Red, Lin, SW, Ht, DetI, SE, Ker, SE2, SH. -/
import Derived.Test.YtlgbhpdblpekfaaQ5
namespace Go.Proofs.Ytlgbhpdblpekfaa
open Go.RowKit
theorem nw_small {x : Nat} (h : x < 18446744073709551616) : nw x ≤ 1 := nw_le_of h
theorem szq_small (p : Int) {d : Int} (hd : d ≠ 0) (h1 : -9223372036854775808 ≤ p) (h2 : p < 9223372036854775808) (h3 : -9223372036854775808 ≤ d) (h4 : d < 9223372036854775808) : szq (Rat.divInt p d) ≤ 2 := by
  have h := szq_divInt p d hd
  have n1 := nw_small (x := p.natAbs) (by omega)
  have n2 := nw_small (x := d.natAbs) (by omega)
  omega
theorem cmpV_zero (a b : Int) : decide (cmpV a b = 0) = decide (a = b) := by
  unfold cmpV
  by_cases h : a < b
  · have : a ≠ b := by omega
    simp [h, this]
  · by_cases e : a = b <;> simp [h, e]
theorem is_eq2 {q : Rat} {p d : Int} (hd : d ≠ 0) : (bif bif bif !decide (d = 0) then decide (q = Rat.divInt p d) else false then decide (cmpV q.num (Rat.divInt p d).num = 0) else false then decide (cmpV ((q.den : Nat) : Int) (((Rat.divInt p d).den : Nat) : Int) = 0) else false) = decide (q = Rat.divInt p d) := by
  rw [cmpV_zero, cmpV_zero, decide_eq_false hd]
  by_cases e : q = Rat.divInt p d
  · rw [decide_eq_true e]; subst e; simp
  · simp [e]
def litI (l : List Int) (i : Nat) : Int := l.getD i 0
def litLL (l : List (List Int)) (i j : Nat) : Int := (l.getD i []).getD j 0
instance (p : Int) : Decidable (Wd64 p) := inferInstanceAs (Decidable (_ ∧ _))
theorem szq_one {p d : Int} (hp : Wd64 p) (hd : Wd64 d) : szq (oneQ p d) ≤ 2 := by
  unfold oneQ
  split
  · have := szq_small p (d := 1) (by decide) hp.1 hp.2 (by decide) (by decide)
    have e : Rat.divInt p 1 = ((p : Int) : Rat) := by have := Rat.num_divInt_den (((p : Int) : Rat)); simpa using this
    rwa [e] at this
  · rename_i h
    exact szq_small p h hp.1 hp.2 hd.1 hd.2
set_option maxRecDepth 100000 in
theorem sIs {q : Rat} {p d : Int} (hd : d ≠ 0) (hp : Wd64 p) (hd2 : Wd64 d) (hs : szq q ≤ 8589934592) : CallOK Try.prog 42 [.rat q, .ex (.int .i64 p), .ex (.int .i64 d)] (.ex (.bool (decide (q = Rat.divInt p d)))) [] := by
  have hp1 := hp.1; have hp2 := hp.2; have hd3 := hd2.1; have hd4 := hd2.2; have hs2 := szq_small p hd hp1 hp2 hd3 hd4
  exact callOK_P (ch := [.reg 1 [(2, .callS (.cn (.rat (Rat.divInt p d)) (.cn (.ex (.bool (!decide (d = 0)))) (.nl))) [])], .reg 2 [(4, .callS (.ex (.bool (decide (q = (Rat.divInt p d))))) []), (8, .callS (.int q.num) []), (10, .callS (.int ((Rat.divInt p d).num)) []), (11, .callS (.ex (.int .i64 (cmpV q.num ((Rat.divInt p d).num)))) []), (16, .callS (.nat q.den) []), (18, .callS (.nat ((Rat.divInt p d).den)) []), (19, .callS (.ex (.int .i64 (cmpV ((q.den : Nat) : Int) (((Rat.divInt p d).den : Nat) : Int)))) [])]]) hMix Try.func42 rfl (by kernel_rfl) (by kernel_rfl) (let y1 := (bif (!decide (d = 0)) then (decide (q = (Rat.divInt p d))) else false); let y0 := (bif y1 then (decide ((cmpV q.num ((Rat.divInt p d).num) : Int) = 0)) else false); let y2 := ((!decide (d = 0)) == true); _ ∧ (y2 = true → y2 = true) ∧ (y2 = true → y2 = true) ∧ (y2 = true → _) ∧ ((!decide (d = 0)) = true → y2 = true) ∧ ((y1 == true) = true → (y1 == true) = true) ∧ ((y1 == true) = true → _) ∧ ((y1 == true) = true → (y1 == true) = true) ∧ ((y1 == true) = true → _) ∧ ((y1 == true) = true → (y1 == true) = true) ∧ ((y1 == true) = true → (y1 == true) = true) ∧ ((y1 == true) = true → _) ∧ ((y1 == true) = true → (y1 == true) = true) ∧ (y1 = true → (y1 == true) = true) ∧ ((y0 == true) = true → (y0 == true) = true) ∧ ((y0 == true) = true → _) ∧ ((y0 == true) = true → (y0 == true) = true) ∧ ((y0 == true) = true → _) ∧ ((y0 == true) = true → (y0 == true) = true) ∧ ((y0 == true) = true → (y0 == true) = true) ∧ ((y0 == true) = true → _) ∧ ((y0 == true) = true → (y0 == true) = true) ∧ (y0 = true → (y0 == true) = true) ∧ (((bif y0 then (decide ((cmpV ((q.den : Nat) : Int) (((Rat.divInt p d).den : Nat) : Int) : Int) = 0)) else false : Bool) = (decide (q = Rat.divInt p d))))) (by kernel_rfl)
    ⟨sRatOf (x := p) (y := d) (by omega) (by omega) (by omega) (by omega), ⟨id, ⟨id, ⟨(fun hg => sRatSame (p := q) (q := Rat.divInt p d) (by first | assumption | omega)), ⟨(by first | (simp; done) | (simp; omega)), ⟨id, ⟨(fun hg => sRatNum (q := q)), ⟨id, ⟨(fun hg => sRatNum (q := Rat.divInt p d)), ⟨id, ⟨id, ⟨(fun hg => sIntCmp (y := q.num) (z := (Rat.divInt p d).num)), ⟨id, ⟨(by first | (simp; done) | (simp; omega)), ⟨id, ⟨(fun hg => sRatDen (q := q)), ⟨id, ⟨(fun hg => sRatDen (q := Rat.divInt p d)), ⟨id, ⟨id, ⟨(fun hg => sNatCmp (x := q.den) (y := (Rat.divInt p d).den)), ⟨id, ⟨(by first | (simp; done) | (simp; omega)), (is_eq2 hd)⟩⟩⟩⟩⟩⟩⟩⟩⟩⟩⟩⟩⟩⟩⟩⟩⟩⟩⟩⟩⟩⟩⟩
set_option maxRecDepth 100000 in
theorem sMake {p d : Nat → Int} {n : Nat} (hn : n ≤ 68719476736) (h : ∀ i, i < n → Wd64 (p i) ∧ Wd64 (d i)) : CallOK Try.prog 23 [.sl 2 (fun i0 => .agg (.cn (.ex (.int .i64 (p i0))) (.cn (.ex (.int .i64 (d i0))) (.nl)))) n] (.own 0 0) [.one (.row 36 3 (fun i0 => .rat (oneQ (p i0) (d i0))) n)] := by
  exact callOK_P (ch := [.loop 3 (Nat) (fun g => g ≤ n) (fun g => n - g) (fun g => ⟨[(0, .sl 2 (fun i0 => .agg (.cn (.ex (.int .i64 (p i0))) (.cn (.ex (.int .i64 (d i0))) (.nl)))) n), (3, .own 0 0), (4, .ex (.int .i64 ((g : Nat) : Int)))], [(0, .one (.row 36 3 (fun i0 => .rat (oneQ (p i0) (d i0))) g))], 1⟩) [(0, .nil)] (fun _ => [(0, .id 1)]) (fun g => [.reg 5 [(3, .k g), (5, .callS (.rat (oneQ (p g) (d g))) []), (7, .row 0 (fun i0 => .rat (oneQ (p i0) (d i0))))], .reg 4 [(1, .z ((g + 1 : Nat) : Int))], .ret 6 [(0, .id 0)]])]) hMix Try.func23 rfl (by kernel_rfl) (by kernel_rfl) ((∀ j0, j0 < n → True) ∧ (((fun X1 X2 X3 : Prop => ∃ g0 : Nat, X1 ∧ X2 ∧ X3 ∧ ((0 : Int) = ((g0 : Nat) : Int)) ∧ ((g0 : Nat) = 0) ∧ (g0 ≤ n)) _ _ _) ∧ ∀ g : Nat, (g ≤ n) → (((decide (((g : Nat) : Int) < ((n : Nat) : Int))) = true → _ ∧ (g < n) ∧ _ ∧ (g + 1 ≤ 68719476736) ∧ _ ∧ _ ∧ _ ∧ ((fun X1 X2 X3 X4 : Prop => ∃ g1 : Nat, X1 ∧ X2 ∧ X3 ∧ (((g + 1 : Nat) : Int) = ((g1 : Nat) : Int)) ∧ ((g + 1 : Nat) = g1) ∧ X4 ∧ (g1 ≤ n) ∧ (n - g1 < n - g)) _ _ _ _)) ∧ ((decide (((g : Nat) : Int) < ((n : Nat) : Int))) = false → (_ ∧ ((g : Nat) = n) ∧ _))))) (by kernel_rfl)
    ⟨(fun _ _ => trivial), ⟨⟨0, (rf n), (leS (fun i0 => .agg (.cn (.ex (.int .i64 (p i0))) (.cn (.ex (.int .i64 (d i0))) (.nl)))) n), (rf 0), (by omega), (by omega), (by omega)⟩, fun g hg => ⟨fun hc8 => have hc8 := of_decide_eq_true hc8; have hg2 := h g (by omega); ⟨(rf ((g : Nat) : Int)), ⟨(by omega), ⟨sOne (p := p g) (d := d g) hg2.1 hg2.2, ⟨(by omega), ⟨(oldS (fun i0 => .rat (oneQ (p i0) (d i0))) g), ⟨(newS (fun i0 => .rat (oneQ (p i0) (d i0))) g), ⟨(wI (g := g) (by omega)), ⟨g + 1, (rf n), (leS (fun i0 => .agg (.cn (.ex (.int .i64 (p i0))) (.cn (.ex (.int .i64 (d i0))) (.nl)))) n), (rf 0), (by omega), (by omega), (leS (fun i0 => .rat (oneQ (p i0) (d i0))) (g + 1)), (by omega), (by omega)⟩⟩⟩⟩⟩⟩⟩⟩, fun hc8 => have hc8 := of_decide_eq_false hc8; have hi2 : g = n := (by omega); ⟨(rf 0), (by omega), (leS (fun i0 => .rat (oneQ (p i0) (d i0))) g)⟩⟩⟩⟩
open Go.RowKit
def uptoR (g : Nat) (q : Nat → Nat → Rat) (r c : Nat) : Rat := if r < g then q r c else 0
theorem uptoR_at {g c : Nat} {q : Nat → Nat → Rat} : uptoR (g + 1) q g c = q g c := if_pos (Nat.lt_succ_self g)
theorem uptoR_ne {g t c : Nat} {q : Nat → Nat → Rat} (h : t ≠ g) : uptoR (g + 1) q t c = uptoR g q t c := by
  unfold uptoR
  by_cases h1 : t < g
  · rw [if_pos h1, if_pos (by omega)]
  · rw [if_neg h1, if_neg (by omega)]
theorem uptoR_zero {t c : Nat} {q : Nat → Nat → Rat} : uptoR 0 q t c = 0 := if_neg (Nat.not_lt_zero t)
theorem rows_step {p q : Nat → Nat → Rat} {g n : Nat} (h : ∀ r : Nat, r < g → ∀ c : Nat, c < n → p r c = q r c) (e : ∀ c : Nat, c < n → p g c = q g c) : ∀ r : Nat, r < g + 1 → ∀ c : Nat, c < n → p r c = q r c := fun r hr => by
  by_cases hrg : r = g
  · subst hrg; exact e
  · exact h r (by omega)
theorem dims_no {n l m k : Nat} (h : (bif !decide (((n : Nat) : Int) = ((l : Nat) : Int)) then true else !decide (((m : Nat) : Int) = ((k : Nat) : Int))) = true) : ¬ (n = l ∧ m = k) := by
  rintro ⟨rfl, rfl⟩
  simp at h
theorem dims_yes {n l m k : Nat} (h : (bif !decide (((n : Nat) : Int) = ((l : Nat) : Int)) then true else !decide (((m : Nat) : Int) = ((k : Nat) : Int))) = false) : n = l ∧ m = k := by
  by_cases e : n = l
  · subst e
    by_cases e2 : m = k
    · exact ⟨rfl, e2⟩
    · have : ¬ (((m : Nat) : Int) = ((k : Nat) : Int)) := by omega
      simp [this] at h
  · have : ¬ (((n : Nat) : Int) = ((l : Nat) : Int)) := by omega
    simp [this] at h
theorem same_no {P : Prop} [Decidable P] (h : (!decide P) = true) : ¬ P := by simpa using h
theorem same_yes {P : Prop} [Decidable P] (h : (!decide P) = false) : P := by simpa using h
theorem uptoR_all {g t c : Nat} {q : Nat → Nat → Rat} (h : t < g) : uptoR g q t c = q t c := if_pos h
set_option maxRecDepth 100000 in
theorem sMatNew {m n : Nat} (hm : m ≤ 64) (hn : n ≤ 64) : CallOK Try.prog 90 [.ex (.int .i64 ((m : Nat) : Int)), .ex (.int .i64 ((n : Nat) : Int))] (.cn (.agg (.cn (.own 0 0) (.cn (.ex (.int .i64 ((n : Nat) : Int))) (.nl)))) (.cn (.ex (.bool true)) (.nl))) [.one (.row 48 1 (fun i0 => .own 1 i0) m), .fam m (fun _ => .row 36 3 (fun _ => .rat 0) n)] := by
  exact callOK_P (ch := [.dec 20 false, .loop 5 (Nat) (fun g => g ≤ m) (fun g => m - g) (fun g => ⟨[(1, .ex (.int .i64 ((n : Nat) : Int))), (4, .own 0 0), (6, .own 1 0), (24, .ex (.int .i64 ((m : Nat) : Int))), (25, .ex (.int .i64 ((g : Nat) : Int)))], [(0, .one (.var 28 (.ex (.agg #[.slice none 0 0, .int .i64 0])))), (1, .one (.var 28 (.agg (.cn (.own 2 0) (.cn (.ex (.int .i64 ((n : Nat) : Int))) (.nl)))))), (2, .one (.row 48 1 (fun i0 => .own 3 i0) g)), (3, .fam g (fun _ => .row 36 3 (fun _ => .rat 0) n))], 4⟩) [(0, .id 0), (1, .id 1), (2, .nil), (3, .emp)] (fun g => [(0, .id 0), (1, .id 1), (2, .id 5), (3, .put 3 g 4)]) (fun g => [.reg 6 [(3, .row n (fun _ => .rat 0)), (5, .row 0 (fun i0 => .own (if i0 < g then 3 else 4) (if i0 < g then i0 else 0)))], .reg 7 [(0, .z ((g + 1 : Nat) : Int))], .ret 8 [(0, .id 2), (1, .id 3)]])]) hMix Try.func90 rfl (by kernel_rfl) (by kernel_rfl) (let y2 := (decide (((m : Nat) : Int) < 0)); let y0 := (bif y2 then true else (decide ((64 : Int) < ((m : Nat) : Int)))); let y1 := (bif y0 then true else (decide (((n : Nat) : Int) < 0))); ((y2 == false) = true → (y2 == false) = true) ∧ ((!y2) = true → (y2 == false) = true) ∧ ((y0 == false) = true → (y0 == false) = true) ∧ ((!y0) = true → (y0 == false) = true) ∧ ((y1 == false) = true → (y1 == false) = true) ∧ ((!y1) = true → (y1 == false) = true) ∧ ((bif y1 then true else (decide ((64 : Int) < ((n : Nat) : Int)))) = false) ∧ (((fun X1 X2 X3 X4 X5 X6 : Prop => ∃ g0 : Nat, X1 ∧ X2 ∧ X3 ∧ X4 ∧ ((0 : Int) = ((g0 : Nat) : Int)) ∧ ((.agg #[.slice none 0 0, .int .i64 0] : Value) = .agg #[.slice none 0 0, .int .i64 0]) ∧ X5 ∧ X6 ∧ ((g0 : Nat) = 0) ∧ ((g0 : Nat) = 0) ∧ (g0 ≤ m)) _ _ _ _ _ _) ∧ ∀ g : Nat, (g ≤ m) → (((decide (((g : Nat) : Int) < ((m : Nat) : Int))) = true → _ ∧ _ ∧ (n ≤ 68719476736) ∧ (∀ j0, j0 < n → ((0 : Rat) = 0)) ∧ (g + 1 ≤ 68719476736) ∧ (∀ j0, j0 < g → (.own (if j0 < g then 3 else 4) (if j0 < g then j0 else 0) : SV) = .own 3 j0) ∧ (∀ j0, j0 < 1 → ((4 : Nat) = (if g + j0 < g then 3 else 4)) ∧ ((0 : Nat) = (if g + j0 < g then g + j0 else 0))) ∧ _ ∧ ((fun X1 X2 X3 X4 X5 X6 X7 : Prop => ∃ g1 : Nat, X1 ∧ X2 ∧ X3 ∧ X4 ∧ (((g + 1 : Nat) : Int) = ((g1 : Nat) : Int)) ∧ ((.agg #[.slice none 0 0, .int .i64 0] : Value) = .agg #[.slice none 0 0, .int .i64 0]) ∧ X5 ∧ X6 ∧ ((g + 1 : Nat) = g1) ∧ (∀ j0, j0 < (g + 1) → (((if j0 < g then 3 else 4 : Nat) = 4 ∧ (if j0 < g then j0 else 0 : Nat) = 0 ∧ (j0 : Nat) = g) ∨ ((if j0 < g then 3 else 4 : Nat) = 3 ∧ (if j0 < g then j0 else 0 : Nat) = j0 ∧ (j0 : Nat) ≠ g))) ∧ ((g1 : Nat) = g + 1) ∧ X7 ∧ (((n : Nat) = n) ∧ (∀ j1, j1 < n → ((0 : Rat) = 0))) ∧ (∀ j0, j0 < g → ((n : Nat) = n) ∧ (∀ j1, j1 < n → ((0 : Rat) = 0))) ∧ (g1 ≤ m) ∧ (m - g1 < m - g)) _ _ _ _ _ _ _)) ∧ ((decide (((g : Nat) : Int) < ((m : Nat) : Int))) = false → (_ ∧ _ ∧ _ ∧ ((g : Nat) = m) ∧ (∀ j0, j0 < g → ((j0 : Nat) = j0)) ∧ ((g : Nat) = m) ∧ (∀ j0, j0 < g → ((n : Nat) = n) ∧ (∀ j1, j1 < n → ((0 : Rat) = 0)))))))) (by kernel_rfl)
    ⟨id, ⟨(by first | (simp; done) | (simp; omega)), ⟨id, ⟨(by first | (simp; done) | (simp; omega)), ⟨id, ⟨(by first | (simp; done) | (simp; omega)), ⟨(by simp; omega), ⟨⟨0, (rf ((n : Nat) : Int)), (rf 0), (rf 0), (rf ((m : Nat) : Int)), (by omega), rfl, (rf 0), (rf ((n : Nat) : Int)), (by omega), (by omega), (by omega)⟩, fun g hg => ⟨fun hc26 => have hc26 := of_decide_eq_true hc26; ⟨(rf ((n : Nat) : Int)), ⟨(rf ((n : Nat) : Int)), ⟨(by omega), ⟨(fun j0 hj0 => rfl), ⟨(by omega), ⟨(fun j0 hj0 => by rw [if_pos hj0, if_pos hj0]), ⟨(fun j0 hj0 => ⟨(by rw [if_neg (by omega)]), (by rw [if_neg (by omega)])⟩), ⟨(wI (g := g) (by omega)), ⟨g + 1, (rf ((n : Nat) : Int)), (rf 0), (rf 0), (rf ((m : Nat) : Int)), (by omega), rfl, (rf 0), (rf ((n : Nat) : Int)), (by omega), (fun j0 hj0 => (by first | omega | (split <;> omega))), (by omega), (rf g), ⟨rfl, (fun j1 hj1 => rfl)⟩, (fun j0 hj0 => ⟨rfl, (fun j1 hj1 => rfl)⟩), (by omega), (by omega)⟩⟩⟩⟩⟩⟩⟩⟩⟩, fun hc26 => have hc26 := of_decide_eq_false hc26; have hi2 : g = m := (by omega); ⟨(rf 0), (rf ((n : Nat) : Int)), (rf (true : Bool)), (by omega), (fun j0 hj0 => rfl), (by omega), (fun j0 hj0 => ⟨rfl, (fun j1 hj1 => rfl)⟩)⟩⟩⟩⟩⟩⟩⟩⟩⟩⟩
set_option maxRecDepth 100000 in
theorem sMatOf {q : Nat → Nat → Rat} {m n : Nat} (hm : m ≤ 64) (hn : n ≤ 64) : CallOK Try.prog 61 [.ex (.int .i64 ((n : Nat) : Int)), .sl 1 (fun i0 => .sl 3 (fun i1 => .rat (q i0 i1)) n) m] (.cn (.agg (.cn (.sl 1 (fun i0 => .sl 3 (fun i1 => .rat (q i0 i1)) n) m) (.cn (.ex (.int .i64 ((n : Nat) : Int))) (.nl)))) (.cn (.ex (.bool true)) (.nl))) [] := by
  exact callOK_P (ch := [.reg 1 [(3, .callS (.cn (.agg (.cn (.own 0 0) (.cn (.ex (.int .i64 ((n : Nat) : Int))) (.nl)))) (.cn (.ex (.bool true)) (.nl))) [.one (.row 48 1 (fun i0 => .own 1 i0) m), .fam m (fun _ => .row 36 3 (fun _ => .rat 0) n)])], .dec 18 false, .loop 5 (Nat) (fun g => g ≤ m) (fun g => m - g) (fun g => ⟨[(0, .ex (.int .i64 ((n : Nat) : Int))), (4, .own 0 0), (6, .own 3 0), (20, .sl 1 (fun i0 => .sl 3 (fun i1 => .rat (q i0 i1)) n) m), (21, .ex (.int .i64 ((m : Nat) : Int))), (22, .ex (.int .i64 ((g : Nat) : Int)))], [(0, .one (.var 28 (.ex (.agg #[.slice none 0 0, .int .i64 0])))), (1, .one (.row 48 1 (fun i0 => .own 2 i0) m)), (2, .fam m (fun i0 => .row 36 3 (fun i1 => .rat (uptoR g q i0 i1)) n)), (3, .one (.var 28 (.agg (.cn (.own 1 0) (.cn (.ex (.int .i64 ((n : Nat) : Int))) (.nl))))))], 4⟩) [(0, .id 0), (1, .id 1), (2, .id 2), (3, .id 3)] (fun _ => [(0, .id 0), (1, .id 1), (2, .id 2), (3, .id 3)]) (fun g => [.reg 6 [(1, .k g)], .dec 30 false, .reg 9 [(3, .k g), (6, .rowF (fun i0 => .rat (uptoR (g + 1) q g i0)) (fun i0 => .row 36 3 (fun i1 => .rat (uptoR (g + 1) q i0 i1)) n))], .reg 10 [(0, .z ((g + 1 : Nat) : Int))]])]) hMix Try.func61 rfl (by kernel_rfl) (by kernel_rfl) ((∀ j0, j0 < m → (∀ j1, j1 < n → True)) ∧ _ ∧ ((!true) = false) ∧ (((fun X1 X2 X3 X4 X5 X6 X7 X8 X9 X10 : Prop => ∃ g0 : Nat, X1 ∧ X2 ∧ X3 ∧ X4 ∧ X5 ∧ X6 ∧ ((0 : Int) = ((g0 : Nat) : Int)) ∧ ((.agg #[.slice none 0 0, .int .i64 0] : Value) = .agg #[.slice none 0 0, .int .i64 0]) ∧ X7 ∧ (∀ j0, j0 < m → ((j0 : Nat) = j0)) ∧ X8 ∧ (∀ j0, j0 < m → ((n : Nat) = n) ∧ (∀ j1, j1 < n → ((0 : Rat) = (uptoR g0 q j0 j1)))) ∧ X9 ∧ X10 ∧ (g0 ≤ m)) _ _ _ _ _ _ _ _ _ _) ∧ ∀ g : Nat, (g ≤ m) → (((decide (((g : Nat) : Int) < ((m : Nat) : Int))) = true → _ ∧ (g < m) ∧ ((!decide (((n : Nat) : Int) = ((n : Nat) : Int))) = false) ∧ _ ∧ (g < m) ∧ (g < m) ∧ (n ≤ n) ∧ (∀ j0, j0 < n → n ≤ j0 → (.rat (uptoR (g + 1) q g j0) : SV) = .rat (uptoR g q g j0)) ∧ (∀ j0, j0 < n → ((q g j0 : Rat) = (uptoR (g + 1) q g j0))) ∧ (g < m) ∧ ((.row 36 3 (fun i0 => .rat (uptoR (g + 1) q g i0)) n : OB) = .row 36 3 (fun i0 => .rat (uptoR (g + 1) q g i0)) n) ∧ (∀ t, t < m → t ≠ g → (.row 36 3 (fun i0 => .rat (uptoR (g + 1) q t i0)) n : OB) = .row 36 3 (fun i0 => .rat (uptoR g q t i0)) n) ∧ _ ∧ ((fun X1 X2 X3 X4 X5 X6 X7 X8 X9 X10 : Prop => ∃ g1 : Nat, X1 ∧ X2 ∧ X3 ∧ X4 ∧ X5 ∧ X6 ∧ (((g + 1 : Nat) : Int) = ((g1 : Nat) : Int)) ∧ ((.agg #[.slice none 0 0, .int .i64 0] : Value) = .agg #[.slice none 0 0, .int .i64 0]) ∧ X7 ∧ (∀ j0, j0 < m → ((j0 : Nat) = j0)) ∧ X8 ∧ (∀ j0, j0 < m → ((n : Nat) = n) ∧ (∀ j1, j1 < n → ((uptoR (g + 1) q j0 j1 : Rat) = (uptoR g1 q j0 j1)))) ∧ X9 ∧ X10 ∧ (g1 ≤ m) ∧ (m - g1 < m - g)) _ _ _ _ _ _ _ _ _ _)) ∧ ((decide (((g : Nat) : Int) < ((m : Nat) : Int))) = false → (_ ∧ (∀ j0, j0 < m → ((n : Nat) = n) ∧ (∀ j1, j1 < n → ((uptoR g q j0 j1 : Rat) = (q j0 j1))) ∧ (j0 < m)) ∧ _ ∧ _))))) (by kernel_rfl)
    ⟨(fun _ _ => (fun _ _ => trivial)), ⟨sMatNew (m := m) (n := n) (by omega) (by omega), ⟨rfl, ⟨⟨0, (rf ((n : Nat) : Int)), (rf 0), (rf 0), (rf m), (leS (fun i0 => .sl 3 (fun i1 => .rat (q i0 i1)) n) m), (rf ((m : Nat) : Int)), (by omega), rfl, (rf m), (fun j0 hj0 => rfl), (rf m), (fun j0 hj0 => ⟨rfl, (fun j1 hj1 => (by rw [uptoR_zero]))⟩), (rf 0), (rf ((n : Nat) : Int)), (by omega)⟩, fun g hg => ⟨fun hc23 => have hc23 := of_decide_eq_true hc23; ⟨(rf ((g : Nat) : Int)), ⟨(by omega), ⟨(by simp), ⟨(rf ((g : Nat) : Int)), ⟨(by omega), ⟨(by omega), ⟨(by omega), ⟨(fun j0 hj0 hm => absurd hj0 (Nat.not_lt.2 hm)), ⟨(fun j0 hj0 => (by rw [uptoR_at])), ⟨(by omega), ⟨rfl, ⟨(fun t ht hne => by simp only [uptoR_ne hne]), ⟨(wI (g := g) (by omega)), ⟨g + 1, (rf ((n : Nat) : Int)), (rf 0), (rf 0), (rf m), (leS (fun i0 => .sl 3 (fun i1 => .rat (q i0 i1)) n) m), (rf ((m : Nat) : Int)), (by omega), rfl, (rf m), (fun j0 hj0 => rfl), (rf m), (fun j0 hj0 => ⟨rfl, (fun j1 hj1 => rfl)⟩), (rf 0), (rf ((n : Nat) : Int)), (by omega), (by omega)⟩⟩⟩⟩⟩⟩⟩⟩⟩⟩⟩⟩⟩⟩, fun hc23 => have hc23 := of_decide_eq_false hc23; have hi2 : g = m := (by omega); ⟨(rf m), (fun j0 hj0 => ⟨rfl, (fun j1 hj1 => (by rw [hi2]; exact uptoR_all (by omega))), (by omega)⟩), (rf ((n : Nat) : Int)), (rf (true : Bool))⟩⟩⟩⟩⟩⟩
set_option maxRecDepth 100000 in
theorem sMatSame {p q : Nat → Nat → Rat} {m n k l : Nat} (hm : m ≤ 68719476736) (hn : n ≤ 68719476736) (hs : n = l → m = k → ∀ r, r < m → ∀ c, c < n → c < l → szq (p r c) + szq (q r c) ≤ 17179869184) : CallOK Try.prog 53 [.agg (.cn (.sl 1 (fun i0 => .sl 3 (fun i1 => .rat (p i0 i1)) n) m) (.cn (.ex (.int .i64 ((n : Nat) : Int))) (.nl))), .agg (.cn (.sl 1 (fun i0 => .sl 3 (fun i1 => .rat (q i0 i1)) l) k) (.cn (.ex (.int .i64 ((l : Nat) : Int))) (.nl)))] (.ex (.bool (decide (n = l ∧ m = k ∧ ∀ r : Nat, r < m → ∀ c : Nat, c < n → p r c = q r c)))) [] := by
  exact callOK_P (ch := [.loop 4 (Nat) (fun g => g ≤ m ∧ ∀ r : Nat, r < g → ∀ c : Nat, c < n → p r c = q r c) (fun g => m - g) (fun g => ⟨[(2, .own 0 0), (3, .own 1 0), (22, .ex (.int .i64 ((m : Nat) : Int))), (23, .ex (.int .i64 ((g : Nat) : Int)))], [(0, .one (.var 28 (.agg (.cn (.sl 1 (fun i0 => .sl 3 (fun i1 => .rat (p i0 i1)) n) m) (.cn (.ex (.int .i64 ((n : Nat) : Int))) (.nl)))))), (1, .one (.var 28 (.agg (.cn (.sl 1 (fun i0 => .sl 3 (fun i1 => .rat (q i0 i1)) l) k) (.cn (.ex (.int .i64 ((l : Nat) : Int))) (.nl))))))], 2⟩) [(0, .id 0), (1, .id 1)] (fun _ => [(0, .id 0), (1, .id 1)]) (fun g => [.reg 6 [(3, .k g), (8, .k g), (10, .callS (.ex (.bool (decide (n = l ∧ ∀ j : Nat, j < n → (p g j : Rat) = (q g j))))) [])], .reg 8 [(0, .z ((g + 1 : Nat) : Int))]])]) hMix Try.func53 rfl (by kernel_rfl) (by kernel_rfl) (let y0 := ((!decide (((n : Nat) : Int) = ((l : Nat) : Int))) == false); let y1 := (decide (n = l ∧ m = k ∧ ∀ r : Nat, r < m → ∀ c : Nat, c < n → p r c = q r c)); let y2 := (bif (!decide (((n : Nat) : Int) = ((l : Nat) : Int))) then true else (!decide (((m : Nat) : Int) = ((k : Nat) : Int)))); (∀ j0, j0 < m → (∀ j1, j1 < n → True)) ∧ (∀ j0, j0 < k → (∀ j1, j1 < l → True)) ∧ (y0 = true → y0 = true) ∧ (y0 = true → y0 = true) ∧ (y0 = true → y0 = true) ∧ (y0 = true → y0 = true) ∧ (y0 = true → y0 = true) ∧ (y0 = true → y0 = true) ∧ ((!(!decide (((n : Nat) : Int) = ((l : Nat) : Int)))) = true → y0 = true) ∧ ((y2 = true → (((false : Bool) = y1))) ∧ (y2 = false → (((fun X1 X2 X3 X4 X5 X6 X7 X8 X9 : Prop => ∃ g0 : Nat, X1 ∧ X2 ∧ X3 ∧ ((0 : Int) = ((g0 : Nat) : Int)) ∧ X4 ∧ X5 ∧ X6 ∧ X7 ∧ X8 ∧ X9 ∧ (g0 ≤ m ∧ ∀ r : Nat, r < g0 → ∀ c : Nat, c < n → p r c = q r c)) _ _ _ _ _ _ _ _ _) ∧ ∀ g : Nat, (g ≤ m ∧ ∀ r : Nat, r < g → ∀ c : Nat, c < n → p r c = q r c) → (((decide (((g : Nat) : Int) < ((m : Nat) : Int))) = true → _ ∧ (g < m) ∧ _ ∧ (g < k) ∧ _ ∧ (((!(decide (n = l ∧ ∀ j : Nat, j < n → (p g j : Rat) = (q g j)))) = true → (((false : Bool) = y1))) ∧ ((!(decide (n = l ∧ ∀ j : Nat, j < n → (p g j : Rat) = (q g j)))) = false → _ ∧ ((fun X1 X2 X3 X4 X5 X6 X7 X8 X9 : Prop => ∃ g1 : Nat, X1 ∧ X2 ∧ X3 ∧ (((g + 1 : Nat) : Int) = ((g1 : Nat) : Int)) ∧ X4 ∧ X5 ∧ X6 ∧ X7 ∧ X8 ∧ X9 ∧ (g1 ≤ m ∧ ∀ r : Nat, r < g1 → ∀ c : Nat, c < n → p r c = q r c) ∧ (m - g1 < m - g)) _ _ _ _ _ _ _ _ _)))) ∧ ((decide (((g : Nat) : Int) < ((m : Nat) : Int))) = false → (((true : Bool) = y1)))))))) (by kernel_rfl)
    ⟨(fun _ _ => (fun _ _ => trivial)), ⟨(fun _ _ => (fun _ _ => trivial)), ⟨id, ⟨id, ⟨id, ⟨id, ⟨id, ⟨id, ⟨(by first | (simp; done) | (simp; omega)), ⟨fun hc19 => have hd := dims_no hc19; (decide_eq_false fun h => hd ⟨h.1, h.2.1⟩).symm, fun hc19 => have hd := dims_yes hc19; ⟨⟨0, (rf 0), (rf 0), (rf ((m : Nat) : Int)), (by omega), (rf m), (leS (fun i0 => .sl 3 (fun i1 => .rat (p i0 i1)) n) m), (rf ((n : Nat) : Int)), (rf k), (leS (fun i0 => .sl 3 (fun i1 => .rat (q i0 i1)) l) k), (rf ((l : Nat) : Int)), ⟨by omega, fun r hr => by omega⟩⟩, fun g hg => have hg1 := hg.1; ⟨fun hc24 => have hc24 := of_decide_eq_true hc24; have hg2 := hs hd.1 hd.2 g (by omega); ⟨(rf ((g : Nat) : Int)), ⟨(by omega), ⟨(rf ((g : Nat) : Int)), ⟨(by omega), ⟨(sVecSame (n := n) (m := l) (a := (fun i => p g i)) (b := (fun i => q g i)) (by omega) hg2), ⟨fun hc37 => have hr2 := same_no hc37; (decide_eq_false fun h => hr2 ⟨h.1, fun c hc => h.2.2 g (by omega) c hc⟩).symm, fun hc37 => have hr2 := same_yes hc37; ⟨(wI (g := g) (by omega)), ⟨g + 1, (rf 0), (rf 0), (rf ((m : Nat) : Int)), (by omega), (rf m), (leS (fun i0 => .sl 3 (fun i1 => .rat (p i0 i1)) n) m), (rf ((n : Nat) : Int)), (rf k), (leS (fun i0 => .sl 3 (fun i1 => .rat (q i0 i1)) l) k), (rf ((l : Nat) : Int)), ⟨by omega, rows_step hg.2 hr2.2⟩, (by omega)⟩⟩⟩⟩⟩⟩⟩⟩, fun hc24 => have hc24 := of_decide_eq_false hc24; (decide_eq_true ⟨hd.1, hd.2, fun r hr => hg.2 r (by omega)⟩).symm⟩⟩⟩⟩⟩⟩⟩⟩⟩⟩⟩⟩
set_option maxRecDepth 100000 in
theorem sMatRows {q : Nat → Nat → Rat} {m n : Nat}  : CallOK Try.prog 15 [.agg (.cn (.sl 1 (fun i0 => .sl 3 (fun i1 => .rat (q i0 i1)) n) m) (.cn (.ex (.int .i64 ((n : Nat) : Int))) (.nl)))] (.ex (.int .i64 ((m : Nat) : Int))) [] := by
  exact callOK_P (ch := []) hMix Try.func15 rfl (by kernel_rfl) (by kernel_rfl) ((∀ j0, j0 < m → (∀ j1, j1 < n → True)) ∧ (_)) (by kernel_rfl)
    ⟨(fun _ _ => (fun _ _ => trivial)), (rf ((m : Nat) : Int))⟩
set_option maxRecDepth 100000 in
theorem sMatCols {q : Nat → Nat → Rat} {m n : Nat}  : CallOK Try.prog 50 [.agg (.cn (.sl 1 (fun i0 => .sl 3 (fun i1 => .rat (q i0 i1)) n) m) (.cn (.ex (.int .i64 ((n : Nat) : Int))) (.nl)))] (.ex (.int .i64 ((n : Nat) : Int))) [] := by
  exact callOK_P (ch := []) hMix Try.func50 rfl (by kernel_rfl) (by kernel_rfl) ((∀ j0, j0 < m → (∀ j1, j1 < n → True)) ∧ (_)) (by kernel_rfl)
    ⟨(fun _ _ => (fun _ _ => trivial)), (rf ((n : Nat) : Int))⟩
set_option maxRecDepth 100000 in
theorem sMatRow {q : Nat → Nat → Rat} {m n r : Nat} (hr : r < m) (hn : n ≤ 68719476736) : CallOK Try.prog 32 [.agg (.cn (.sl 1 (fun i0 => .sl 3 (fun i1 => .rat (q i0 i1)) n) m) (.cn (.ex (.int .i64 ((n : Nat) : Int))) (.nl))), .ex (.int .i64 ((r : Nat) : Int))] (.cn (.sl 3 (fun i0 => .rat (q r i0)) n) (.cn (.ex (.bool true)) (.nl))) [] := by
  exact callOK_P (ch := [.dec 14 false, .reg 3 [(3, .k r), (5, .callS (.sl 3 (fun i0 => .rat (q r i0)) n) [])]]) hMix Try.func32 rfl (by kernel_rfl) (by kernel_rfl) ((∀ j0, j0 < m → (∀ j1, j1 < n → True)) ∧ (((decide (((r : Nat) : Int) < 0)) == false) = true → ((decide (((r : Nat) : Int) < 0)) == false) = true) ∧ (((decide (((r : Nat) : Int) < 0)) == false) = true → ((decide (((r : Nat) : Int) < 0)) == false) = true) ∧ (((decide (((r : Nat) : Int) < 0)) == false) = true → ((decide (((r : Nat) : Int) < 0)) == false) = true) ∧ (((decide (((r : Nat) : Int) < 0)) == false) = true → ((decide (((r : Nat) : Int) < 0)) == false) = true) ∧ ((!(decide (((r : Nat) : Int) < 0))) = true → ((decide (((r : Nat) : Int) < 0)) == false) = true) ∧ ((bif (decide (((r : Nat) : Int) < 0)) then true else (decide (((m : Nat) : Int) ≤ ((r : Nat) : Int)))) = false) ∧ _ ∧ (r < m) ∧ _ ∧ (_ ∧ _ ∧ _)) (by kernel_rfl)
    ⟨(fun _ _ => (fun _ _ => trivial)), ⟨id, ⟨id, ⟨id, ⟨id, ⟨(by first | (simp; done) | (simp; omega)), ⟨(by simp; omega), ⟨(rf ((r : Nat) : Int)), ⟨(by omega), ⟨(sVecCopy (n := n) (q := (fun i => q r i)) (by omega)).frzV, ⟨(rf n), (leS (fun i0 => .rat (q r i0)) n), (rf (true : Bool))⟩⟩⟩⟩⟩⟩⟩⟩⟩⟩⟩
set_option maxRecDepth 100000 in
theorem sMatTimes {q : Nat → Nat → Rat} {v : Nat → Rat} {m n : Nat} (hm : m ≤ 68719476736) (hn : n ≤ 68719476736) (hs : ∀ r, r < m → ∀ i, i < n → szq (q r i) + szq (v i) ≤ 17179869184 ∧ szq (dotQ (q r) v i) + szq (q r i * v i) ≤ 17179869184) : CallOK Try.prog 46 [.agg (.cn (.sl 1 (fun i0 => .sl 3 (fun i1 => .rat (q i0 i1)) n) m) (.cn (.ex (.int .i64 ((n : Nat) : Int))) (.nl))), .sl 3 (fun i0 => .rat (v i0)) n] (.cn (.own 0 0) (.cn (.ex (.bool true)) (.nl))) [.one (.row 36 3 (fun i0 => .rat (dotQ (q i0) v n)) m)] := by
  exact callOK_P (ch := [.dec 13 false, .reg 3 [(3, .row m (fun _ => .rat 0))], .loop 5 (Nat) (fun g => g ≤ m) (fun g => m - g) (fun g => ⟨[(1, .sl 3 (fun i0 => .rat (v i0)) n), (6, .own 1 0), (19, .sl 1 (fun i0 => .sl 3 (fun i1 => .rat (q i0 i1)) n) m), (20, .ex (.int .i64 ((m : Nat) : Int))), (21, .ex (.int .i64 ((g : Nat) : Int)))], [(1, .one (.row 36 3 (fun i0 => .rat (upto g (fun k => dotQ (q k) v n) i0)) m)), (0, .one (.var 28 (.agg (.cn (.sl 1 (fun i0 => .sl 3 (fun i1 => .rat (q i0 i1)) n) m) (.cn (.ex (.int .i64 ((n : Nat) : Int))) (.nl))))))], 2⟩) [(1, .id 1), (0, .id 0)] (fun _ => [(1, .id 1), (0, .id 0)]) (fun g => [.reg 6 [(1, .k g)], .reg 7 [(4, .callS (.cn (.rat (dotQ (fun i => q g i) v n)) (.cn (.ex (.bool true)) (.nl))) []), (8, .k g), (9, .row 0 (fun i0 => .rat (upto (g + 1) (fun k => dotQ (q k) v n) i0)))], .reg 8 [(0, .z ((g + 1 : Nat) : Int))], .ret 9 [(0, .id 1)]])]) hMix Try.func46 rfl (by kernel_rfl) (by kernel_rfl) ((∀ j0, j0 < m → (∀ j1, j1 < n → True)) ∧ (∀ j0, j0 < n → True) ∧ ((!decide (((n : Nat) : Int) = ((n : Nat) : Int))) = false) ∧ _ ∧ _ ∧ (m ≤ 68719476736) ∧ (∀ j0, j0 < m → ((0 : Rat) = 0)) ∧ (((fun X1 X2 X3 X4 X5 X6 X7 X8 X9 X10 : Prop => ∃ g0 : Nat, X1 ∧ X2 ∧ X3 ∧ X4 ∧ X5 ∧ X6 ∧ ((0 : Int) = ((g0 : Nat) : Int)) ∧ X7 ∧ (∀ j0, j0 < m → ((0 : Rat) = (upto g0 (fun k => dotQ (q k) v n) j0))) ∧ X8 ∧ X9 ∧ X10 ∧ (g0 ≤ m)) _ _ _ _ _ _ _ _ _ _) ∧ ∀ g : Nat, (g ≤ m) → (((decide (((g : Nat) : Int) < ((m : Nat) : Int))) = true → _ ∧ (g < m) ∧ _ ∧ _ ∧ (g < m) ∧ (g < m) ∧ (((dotQ (fun i => q g i) v n : Rat) = (upto (g + 1) (fun k => dotQ (q k) v n) g))) ∧ (∀ t, t < m → t ≠ g → (.rat (upto (g + 1) (fun k => dotQ (q k) v n) t) : SV) = .rat (upto g (fun k => dotQ (q k) v n) t)) ∧ _ ∧ ((fun X1 X2 X3 X4 X5 X6 X7 X8 X9 X10 : Prop => ∃ g1 : Nat, X1 ∧ X2 ∧ X3 ∧ X4 ∧ X5 ∧ X6 ∧ (((g + 1 : Nat) : Int) = ((g1 : Nat) : Int)) ∧ X7 ∧ (∀ j0, j0 < m → ((upto (g + 1) (fun k => dotQ (q k) v n) j0 : Rat) = (upto g1 (fun k => dotQ (q k) v n) j0))) ∧ X8 ∧ X9 ∧ X10 ∧ (g1 ≤ m) ∧ (m - g1 < m - g)) _ _ _ _ _ _ _ _ _ _)) ∧ ((decide (((g : Nat) : Int) < ((m : Nat) : Int))) = false → (_ ∧ _ ∧ _ ∧ (∀ j0, j0 < m → ((upto g (fun k => dotQ (q k) v n) j0 : Rat) = (dotQ (q j0) v n)))))))) (by kernel_rfl)
    ⟨(fun _ _ => (fun _ _ => trivial)), ⟨(fun _ _ => trivial), ⟨(by simp), ⟨(rf ((m : Nat) : Int)), ⟨(rf ((m : Nat) : Int)), ⟨(by omega), ⟨(fun j0 hj0 => rfl), ⟨⟨0, (rf n), (leS (fun i0 => .rat (v i0)) n), (rf 0), (rf m), (leS (fun i0 => .sl 3 (fun i1 => .rat (q i0 i1)) n) m), (rf ((m : Nat) : Int)), (by omega), (rf m), (fun j0 hj0 => (by rw [upto_zero])), (rf m), (leS (fun i0 => .sl 3 (fun i1 => .rat (q i0 i1)) n) m), (rf ((n : Nat) : Int)), (by omega)⟩, fun g hg => ⟨fun hc22 => have hc22 := of_decide_eq_true hc22; have hg1 := hs g (by omega); ⟨(rf ((g : Nat) : Int)), ⟨(by omega), ⟨sVecDot (a := q g) (b := v) (n := n) (by omega) hg1, ⟨(rf ((g : Nat) : Int)), ⟨(by omega), ⟨(by omega), ⟨(by rw [upto_at]), ⟨(fun t ht hne => by rw [upto_ne hne]), ⟨(wI (g := g) (by omega)), ⟨g + 1, (rf n), (leS (fun i0 => .rat (v i0)) n), (rf 0), (rf m), (leS (fun i0 => .sl 3 (fun i1 => .rat (q i0 i1)) n) m), (rf ((m : Nat) : Int)), (by omega), (rf m), (fun j0 hj0 => rfl), (rf m), (leS (fun i0 => .sl 3 (fun i1 => .rat (q i0 i1)) n) m), (rf ((n : Nat) : Int)), (by omega), (by omega)⟩⟩⟩⟩⟩⟩⟩⟩⟩⟩, fun hc22 => have hc22 := of_decide_eq_false hc22; have hi2 : g = m := (by omega); ⟨(rf 0), (rf (true : Bool)), (rf m), (fun j0 hj0 => (by rw [hi2]; exact upto_all (by assumption)))⟩⟩⟩⟩⟩⟩⟩⟩⟩⟩
set_option maxRecDepth 100000 in
theorem sMatHas {q : Nat → Nat → Rat} {m n r c : Nat} (hr : r < m) (hc : c < n) : CallOK Try.prog 85 [.agg (.cn (.sl 1 (fun i0 => .sl 3 (fun i1 => .rat (q i0 i1)) n) m) (.cn (.ex (.int .i64 ((n : Nat) : Int))) (.nl))), .ex (.int .i64 ((r : Nat) : Int)), .ex (.int .i64 ((c : Nat) : Int))] (.ex (.bool true)) [] := by
  exact callOK_P (ch := []) hMix Try.func85 rfl (by kernel_rfl) (by kernel_rfl) (let y1 := (decide ((0 : Int) ≤ ((r : Nat) : Int))); let y2 := (bif y1 then (decide (((r : Nat) : Int) < ((m : Nat) : Int))) else false); let y0 := (bif y2 then (decide ((0 : Int) ≤ ((c : Nat) : Int))) else false); (∀ j0, j0 < m → (∀ j1, j1 < n → True)) ∧ ((y1 == true) = true → (y1 == true) = true) ∧ ((y1 == true) = true → (y1 == true) = true) ∧ ((y1 == true) = true → (y1 == true) = true) ∧ ((y1 == true) = true → (y1 == true) = true) ∧ (y1 = true → (y1 == true) = true) ∧ ((y2 == true) = true → (y2 == true) = true) ∧ (y2 = true → (y2 == true) = true) ∧ ((y0 == true) = true → (y0 == true) = true) ∧ ((y0 == true) = true → (y0 == true) = true) ∧ ((y0 == true) = true → (y0 == true) = true) ∧ (y0 = true → (y0 == true) = true) ∧ (((bif y0 then (decide (((c : Nat) : Int) < ((n : Nat) : Int))) else false : Bool) = true))) (by kernel_rfl)
    ⟨(fun _ _ => (fun _ _ => trivial)), ⟨id, ⟨id, ⟨id, ⟨id, ⟨(by first | (simp; done) | (simp; omega)), ⟨id, ⟨(by first | (simp; done) | (simp; omega)), ⟨id, ⟨id, ⟨id, ⟨(by first | (simp; done) | (simp; omega)), (by simp; omega)⟩⟩⟩⟩⟩⟩⟩⟩⟩⟩⟩⟩
set_option maxRecDepth 100000 in
theorem sMatAt {q : Nat → Nat → Rat} {m n r c : Nat} (hr : r < m) (hc : c < n) : CallOK Try.prog 43 [.agg (.cn (.sl 1 (fun i0 => .sl 3 (fun i1 => .rat (q i0 i1)) n) m) (.cn (.ex (.int .i64 ((n : Nat) : Int))) (.nl))), .ex (.int .i64 ((r : Nat) : Int)), .ex (.int .i64 ((c : Nat) : Int))] (.rat (q r c)) [] := by
  exact callOK_P (ch := [.reg 1 [(3, .callS (.ex (.bool true)) [])], .dec 11 false, .reg 3 [(3, .k r), (6, .k c)]]) hMix Try.func43 rfl (by kernel_rfl) (by kernel_rfl) ((∀ j0, j0 < m → (∀ j1, j1 < n → True)) ∧ _ ∧ ((!true) = false) ∧ _ ∧ (r < m) ∧ _ ∧ (c < n) ∧ (_)) (by kernel_rfl)
    ⟨(fun _ _ => (fun _ _ => trivial)), ⟨sMatHas (q := q) (m := m) (n := n) (r := r) (c := c) (by omega) (by omega), ⟨rfl, ⟨(rf ((r : Nat) : Int)), ⟨(by omega), ⟨(rf ((c : Nat) : Int)), ⟨(by omega), (rf (q r c : Rat))⟩⟩⟩⟩⟩⟩⟩
open Go.RowKit
theorem bif_true {P Q : Prop} [Decidable P] [Decidable Q] (h : (bif decide P then decide Q else false) = true) : P ∧ Q := by
  by_cases p : P
  · exact ⟨p, by simpa [p] using h⟩
  · simp [p] at h
theorem bif_false {P Q : Prop} [Decidable P] [Decidable Q] (h : (bif decide P then decide Q else false) = false) : ¬ (P ∧ Q) := fun ⟨p, q⟩ => by simp [p, q] at h
def padZ (g : Nat) (f : Nat → Int) (t : Nat) : Int := if t < g then f t else 0
theorem padZ_at {g : Nat} {f : Nat → Int} : padZ (g + 1) f g = f g := if_pos (Nat.lt_succ_self g)
theorem padZ_zero {t : Nat} {f : Nat → Int} : padZ 0 f t = 0 := if_neg (Nat.not_lt_zero t)
theorem padZ_wd {g t : Nat} {f : Nat → Int} (h : t < g → Wd64 (f t)) : Wd64 (padZ g f t) := by
  unfold padZ
  split
  · rename_i k; exact h k
  · decide
theorem padZ_end {g h t : Nat} {f : Nat → Int} (e : t < g ↔ t < h) : padZ g f t = padZ h f t := by
  unfold padZ
  by_cases k : t < g
  · rw [if_pos k, if_pos (e.1 k)]
  · rw [if_neg k, if_neg fun k' => k (e.2 k')]
theorem padZ_ne {g t : Nat} {f : Nat → Int} (h : t ≠ g) : padZ (g + 1) f t = padZ g f t := by
  unfold padZ
  by_cases h1 : t < g
  · rw [if_pos h1, if_pos (by omega)]
  · rw [if_neg h1, if_neg (by omega)]
set_option maxRecDepth 100000 in
theorem sRows11 {z l : Nat} {k : Nat → Nat} {p d : Nat → Nat → Int}  : CallOK Try.prog 60 [.agg (.cn (.ex (.int .u8 ((z : Nat) : Int))) (.cn (.sl 1 (fun i0 => .sl 2 (fun i1 => .agg (.cn (.ex (.int .i64 (p i0 i1))) (.cn (.ex (.int .i64 (d i0 i1))) (.nl)))) (k i0)) l) (.nl)))] (.cn (.sl 1 (fun i0 => .sl 2 (fun i1 => .agg (.cn (.ex (.int .i64 (padZ (k i0) (p i0) i1))) (.cn (.ex (.int .i64 (padZ (k i0) (d i0) i1))) (.nl)))) (z % 7)) (min l 6)) (.cn (.ex (.int .i64 ((z % 7 : Nat) : Int))) (.nl))) [] := by
  exact callOK_P (ch := [.reg 1 [(2, .z ((z % 7 : Nat) : Int)), (3, .z ((z % 7 : Nat) : Int))], .loop 4 (Nat) (fun g => g ≤ (min l 6)) (fun g => min l 6 - g) (fun g => ⟨[(1, .own 0 0), (4, .ex (.int .i64 ((z % 7 : Nat) : Int))), (5, .own 1 0), (6, .ex (.int .i64 ((g : Nat) : Int)))], [(0, .one (.var 24 (.agg (.cn (.ex (.int .u8 ((z : Nat) : Int))) (.cn (.sl 1 (fun i0 => .sl 2 (fun i1 => .agg (.cn (.ex (.int .i64 (p i0 i1))) (.cn (.ex (.int .i64 (d i0 i1))) (.nl)))) (k i0)) l) (.nl)))))), (1, .one (.row 46 1 (fun i0 => .sl 2 (fun i1 => .agg (.cn (.ex (.int .i64 (padZ (k i0) (p i0) i1))) (.cn (.ex (.int .i64 (padZ (k i0) (d i0) i1))) (.nl)))) (z % 7)) g))], 2⟩) [(0, .id 0), (1, .nil)] (fun _ => [(0, .id 0), (1, .id 3)]) (fun g => [.reg 6 [(1, .row (z % 7) (fun i0 => .agg (.cn (.ex (.int .i64 (padZ 0 (p g) i0))) (.cn (.ex (.int .i64 (padZ 0 (d g) i0))) (.nl)))))], .loop 8 (Nat) (fun h => h ≤ z % 7 ∧ h ≤ k g) (fun h => z % 7 - h) (fun h => ⟨[(1, .own 0 0), (4, .ex (.int .i64 ((z % 7 : Nat) : Int))), (5, .own 1 0), (6, .ex (.int .i64 ((g : Nat) : Int))), (7, .own 2 0), (8, .ex (.int .i64 ((h : Nat) : Int)))], [(0, .one (.var 24 (.agg (.cn (.ex (.int .u8 ((z : Nat) : Int))) (.cn (.sl 1 (fun i0 => .sl 2 (fun i1 => .agg (.cn (.ex (.int .i64 (p i0 i1))) (.cn (.ex (.int .i64 (d i0 i1))) (.nl)))) (k i0)) l) (.nl)))))), (1, .one (.row 46 1 (fun i0 => .sl 2 (fun i1 => .agg (.cn (.ex (.int .i64 (padZ (k i0) (p i0) i1))) (.cn (.ex (.int .i64 (padZ (k i0) (d i0) i1))) (.nl)))) (z % 7)) g)), (2, .one (.row 87 2 (fun i0 => .agg (.cn (.ex (.int .i64 (padZ h (p g) i0))) (.cn (.ex (.int .i64 (padZ h (d g) i0))) (.nl)))) (z % 7)))], 3⟩) [(0, .id 0), (1, .id 1), (2, .id 2)] (fun _ => [(0, .id 0), (1, .id 1), (2, .id 2)]) (fun h => [.reg 8 [(8, .k g)], .reg 10 [(5, .k g), (8, .k h), (10, .k h), (11, .row 0 (fun i0 => .agg (.cn (.ex (.int .i64 (padZ (h + 1) (p g) i0))) (.cn (.ex (.int .i64 (padZ (h + 1) (d g) i0))) (.nl)))))], .reg 9 [(1, .z ((h + 1 : Nat) : Int))], .conv 11 [(0, .id 0), (1, .id 1)] ⟨[(1, .own 0 0), (4, .ex (.int .i64 ((z % 7 : Nat) : Int))), (5, .own 1 0), (6, .ex (.int .i64 ((g : Nat) : Int))), (7, .sl 2 (fun i0 => .agg (.cn (.ex (.int .i64 (padZ (k g) (p g) i0))) (.cn (.ex (.int .i64 (padZ (k g) (d g) i0))) (.nl)))) (z % 7))], [(0, .one (.var 24 (.agg (.cn (.ex (.int .u8 ((z : Nat) : Int))) (.cn (.sl 1 (fun i0 => .sl 2 (fun i1 => .agg (.cn (.ex (.int .i64 (p i0 i1))) (.cn (.ex (.int .i64 (d i0 i1))) (.nl)))) (k i0)) l) (.nl)))))), (1, .one (.row 46 1 (fun i0 => .sl 2 (fun i1 => .agg (.cn (.ex (.int .i64 (padZ (k i0) (p i0) i1))) (.cn (.ex (.int .i64 (padZ (k i0) (d i0) i1))) (.nl)))) (z % 7)) g))], 3⟩, .reg 11 [(3, .row 0 (fun i0 => .sl 2 (fun i1 => .agg (.cn (.ex (.int .i64 (padZ (k i0) (p i0) i1))) (.cn (.ex (.int .i64 (padZ (k i0) (d i0) i1))) (.nl)))) (z % 7)))], .reg 5 [(1, .z ((g + 1 : Nat) : Int))]])])]) hMix Try.func60 rfl (by kernel_rfl) (by kernel_rfl) ((∀ j0, j0 < l → (∀ j1, j1 < (k j0) → True)) ∧ ((7 : Int) ≠ 0) ∧ (((z : Nat) : Int).tmod 7 = (((z % 7 : Nat) : Int))) ∧ (IntKind.wrap .i64 ((z % 7 : Nat) : Int) = (((z % 7 : Nat) : Int))) ∧ (((fun X1 X2 X3 X4 X5 X6 : Prop => ∃ g0 : Nat, X1 ∧ X2 ∧ X3 ∧ ((0 : Int) = ((g0 : Nat) : Int)) ∧ X4 ∧ X5 ∧ X6 ∧ ((g0 : Nat) = 0) ∧ (g0 ≤ (min l 6))) _ _ _ _ _ _) ∧ ∀ g : Nat, (g ≤ (min l 6)) → (((decide (((g : Nat) : Int) < ((l : Nat) : Int))) == true) = true → ((decide (((g : Nat) : Int) < ((l : Nat) : Int))) == true) = true) ∧ ((decide (((g : Nat) : Int) < ((l : Nat) : Int))) = true → ((decide (((g : Nat) : Int) < ((l : Nat) : Int))) == true) = true) ∧ (((bif (decide (((g : Nat) : Int) < ((l : Nat) : Int))) then (decide (((g : Nat) : Int) < 6)) else false) = true → _ ∧ _ ∧ ((z % 7) ≤ 68719476736) ∧ (∀ j0, j0 < (z % 7) → ((0 : Int) = (padZ 0 (p g) j0)) ∧ ((0 : Int) = (padZ 0 (d g) j0))) ∧ (((fun X1 X2 X3 X4 X5 X6 X7 X8 X9 X10 X11 : Prop => ∃ h0 : Nat, X1 ∧ X2 ∧ X3 ∧ X4 ∧ X5 ∧ ((0 : Int) = ((h0 : Nat) : Int)) ∧ X6 ∧ X7 ∧ X8 ∧ X9 ∧ X10 ∧ X11 ∧ (∀ j0, j0 < (z % 7) → ((padZ 0 (p g) j0 : Int) = (padZ h0 (p g) j0)) ∧ ((padZ 0 (d g) j0 : Int) = (padZ h0 (d g) j0))) ∧ (h0 ≤ z % 7 ∧ h0 ≤ k g)) _ _ _ _ _ _ _ _ _ _ _) ∧ ∀ h : Nat, (h ≤ z % 7 ∧ h ≤ k g) → (((decide (((h : Nat) : Int) < ((z % 7 : Nat) : Int))) == true) = true → ((decide (((h : Nat) : Int) < ((z % 7 : Nat) : Int))) == true) = true) ∧ (((decide (((h : Nat) : Int) < ((z % 7 : Nat) : Int))) == true) = true → ((decide (((h : Nat) : Int) < ((z % 7 : Nat) : Int))) == true) = true) ∧ (((decide (((h : Nat) : Int) < ((z % 7 : Nat) : Int))) == true) = true → ((decide (((h : Nat) : Int) < ((z % 7 : Nat) : Int))) == true) = true) ∧ (((decide (((h : Nat) : Int) < ((z % 7 : Nat) : Int))) == true) = true → _) ∧ (((decide (((h : Nat) : Int) < ((z % 7 : Nat) : Int))) == true) = true → g < l) ∧ (((decide (((h : Nat) : Int) < ((z % 7 : Nat) : Int))) == true) = true → ((decide (((h : Nat) : Int) < ((z % 7 : Nat) : Int))) == true) = true) ∧ (((decide (((h : Nat) : Int) < ((z % 7 : Nat) : Int))) == true) = true → ((decide (((h : Nat) : Int) < ((z % 7 : Nat) : Int))) == true) = true) ∧ (((decide (((h : Nat) : Int) < ((z % 7 : Nat) : Int))) == true) = true → ((decide (((h : Nat) : Int) < ((z % 7 : Nat) : Int))) == true) = true) ∧ (((decide (((h : Nat) : Int) < ((z % 7 : Nat) : Int))) == true) = true → ((decide (((h : Nat) : Int) < ((z % 7 : Nat) : Int))) == true) = true) ∧ ((decide (((h : Nat) : Int) < ((z % 7 : Nat) : Int))) = true → ((decide (((h : Nat) : Int) < ((z % 7 : Nat) : Int))) == true) = true) ∧ (((bif (decide (((h : Nat) : Int) < ((z % 7 : Nat) : Int))) then (decide (((h : Nat) : Int) < ((k g : Nat) : Int))) else false) = true → _ ∧ (g < l) ∧ _ ∧ (h < (k g)) ∧ _ ∧ (h < (z % 7)) ∧ (h < (z % 7)) ∧ (((p g h : Int) = (padZ (h + 1) (p g) h)) ∧ ((d g h : Int) = (padZ (h + 1) (d g) h))) ∧ (∀ t, t < (z % 7) → t ≠ h → (.agg (.cn (.ex (.int .i64 (padZ (h + 1) (p g) t))) (.cn (.ex (.int .i64 (padZ (h + 1) (d g) t))) (.nl))) : SV) = .agg (.cn (.ex (.int .i64 (padZ h (p g) t))) (.cn (.ex (.int .i64 (padZ h (d g) t))) (.nl)))) ∧ _ ∧ ((fun X1 X2 X3 X4 X5 X6 X7 X8 X9 X10 X11 : Prop => ∃ h1 : Nat, X1 ∧ X2 ∧ X3 ∧ X4 ∧ X5 ∧ (((h + 1 : Nat) : Int) = ((h1 : Nat) : Int)) ∧ X6 ∧ X7 ∧ X8 ∧ X9 ∧ X10 ∧ X11 ∧ (∀ j0, j0 < (z % 7) → ((padZ (h + 1) (p g) j0 : Int) = (padZ h1 (p g) j0)) ∧ ((padZ (h + 1) (d g) j0 : Int) = (padZ h1 (d g) j0))) ∧ (h1 ≤ z % 7 ∧ h1 ≤ k g) ∧ (z % 7 - h1 < z % 7 - h)) _ _ _ _ _ _ _ _ _ _ _)) ∧ ((bif (decide (((h : Nat) : Int) < ((z % 7 : Nat) : Int))) then (decide (((h : Nat) : Int) < ((k g : Nat) : Int))) else false) = false → _ ∧ _ ∧ _ ∧ _ ∧ _ ∧ (∀ j0, j0 < (z % 7) → ((padZ h (p g) j0 : Int) = (padZ (k g) (p g) j0)) ∧ ((padZ h (d g) j0 : Int) = (padZ (k g) (d g) j0))) ∧ _ ∧ _ ∧ _ ∧ _ ∧ _ ∧ (g + 1 ≤ 68719476736) ∧ _ ∧ _ ∧ _ ∧ ((fun X1 X2 X3 X4 X5 X6 X7 : Prop => ∃ g1 : Nat, X1 ∧ X2 ∧ X3 ∧ (((g + 1 : Nat) : Int) = ((g1 : Nat) : Int)) ∧ X4 ∧ X5 ∧ X6 ∧ ((g + 1 : Nat) = g1) ∧ X7 ∧ (g1 ≤ (min l 6)) ∧ (min l 6 - g1 < min l 6 - g)) _ _ _ _ _ _ _))))) ∧ ((bif (decide (((g : Nat) : Int) < ((l : Nat) : Int))) then (decide (((g : Nat) : Int) < 6)) else false) = false → (((g : Nat) = (min l 6)) ∧ _ ∧ _))))) (by kernel_rfl)
    ⟨(fun _ _ => (fun _ _ => trivial)), ⟨(by decide), ⟨rfl, ⟨(by rw [IntKind.wrap_i64]; omega), ⟨⟨0, (rf 0), (rf ((z % 7 : Nat) : Int)), (rf 0), (by omega), (rf ((z : Nat) : Int)), (rf l), (leS (fun i0 => .sl 2 (fun i1 => .agg (.cn (.ex (.int .i64 (p i0 i1))) (.cn (.ex (.int .i64 (d i0 i1))) (.nl)))) (k i0)) l), (by omega), (by omega)⟩, fun g hg => ⟨id, ⟨(by first | (simp; done) | (simp; omega)), ⟨fun hc21 => have hc := bif_true hc21; ⟨(rf ((z % 7 : Nat) : Int)), ⟨(rf ((z % 7 : Nat) : Int)), ⟨(by omega), ⟨(fun j0 hj0 => ⟨(padZ_zero).symm, (padZ_zero).symm⟩), ⟨⟨0, (rf 0), (rf ((z % 7 : Nat) : Int)), (rf 0), (rf ((g : Nat) : Int)), (rf 0), (by omega), (rf ((z : Nat) : Int)), (rf l), (leS (fun i0 => .sl 2 (fun i1 => .agg (.cn (.ex (.int .i64 (p i0 i1))) (.cn (.ex (.int .i64 (d i0 i1))) (.nl)))) (k i0)) l), (rf g), (leS (fun i0 => .sl 2 (fun i1 => .agg (.cn (.ex (.int .i64 (padZ (k i0) (p i0) i1))) (.cn (.ex (.int .i64 (padZ (k i0) (d i0) i1))) (.nl)))) (z % 7)) g), (rf (z % 7 : Nat)), (fun j0 hj0 => ⟨(by omega), (by omega)⟩), (by omega)⟩, fun h hh => ⟨id, ⟨id, ⟨id, ⟨(fun hg => (rf ((g : Nat) : Int))), ⟨(fun hg => (by omega)), ⟨id, ⟨id, ⟨id, ⟨id, ⟨(by first | (simp; done) | (simp; omega)), ⟨fun hc38 => have hc2 := bif_true hc38; ⟨(rf ((g : Nat) : Int)), ⟨(by omega), ⟨(rf ((h : Nat) : Int)), ⟨(by omega), ⟨(rf ((h : Nat) : Int)), ⟨(by omega), ⟨(by omega), ⟨⟨(padZ_at).symm, (padZ_at).symm⟩, ⟨(fun t ht hne => by simp only [padZ_ne hne]), ⟨(wI (g := h) (by omega)), ⟨h + 1, (rf 0), (rf ((z % 7 : Nat) : Int)), (rf 0), (rf ((g : Nat) : Int)), (rf 0), (by omega), (rf ((z : Nat) : Int)), (rf l), (leS (fun i0 => .sl 2 (fun i1 => .agg (.cn (.ex (.int .i64 (p i0 i1))) (.cn (.ex (.int .i64 (d i0 i1))) (.nl)))) (k i0)) l), (rf g), (leS (fun i0 => .sl 2 (fun i1 => .agg (.cn (.ex (.int .i64 (padZ (k i0) (p i0) i1))) (.cn (.ex (.int .i64 (padZ (k i0) (d i0) i1))) (.nl)))) (z % 7)) g), (rf (z % 7 : Nat)), (fun j0 hj0 => ⟨(by omega), (by omega)⟩), (by omega), (by omega)⟩⟩⟩⟩⟩⟩⟩⟩⟩⟩⟩, fun hc38 => have hi3 := bif_false hc38; ⟨(rf 0), ⟨(rf ((z % 7 : Nat) : Int)), ⟨(rf 0), ⟨(rf ((g : Nat) : Int)), ⟨(rf (z % 7 : Nat)), ⟨(fun j0 hj0 => ⟨(padZ_end (by omega)), (padZ_end (by omega))⟩), ⟨(rf ((z : Nat) : Int)), ⟨(rf l), ⟨(leS (fun i0 => .sl 2 (fun i1 => .agg (.cn (.ex (.int .i64 (p i0 i1))) (.cn (.ex (.int .i64 (d i0 i1))) (.nl)))) (k i0)) l), ⟨(rf g), ⟨(leS (fun i0 => .sl 2 (fun i1 => .agg (.cn (.ex (.int .i64 (padZ (k i0) (p i0) i1))) (.cn (.ex (.int .i64 (padZ (k i0) (d i0) i1))) (.nl)))) (z % 7)) g), ⟨(by omega), ⟨(oldS (fun i0 => .sl 2 (fun i1 => .agg (.cn (.ex (.int .i64 (padZ (k i0) (p i0) i1))) (.cn (.ex (.int .i64 (padZ (k i0) (d i0) i1))) (.nl)))) (z % 7)) g), ⟨(newS (fun i0 => .sl 2 (fun i1 => .agg (.cn (.ex (.int .i64 (padZ (k i0) (p i0) i1))) (.cn (.ex (.int .i64 (padZ (k i0) (d i0) i1))) (.nl)))) (z % 7)) g), ⟨(wI (g := g) (by omega)), ⟨g + 1, (rf 0), (rf ((z % 7 : Nat) : Int)), (rf 0), (by omega), (rf ((z : Nat) : Int)), (rf l), (leS (fun i0 => .sl 2 (fun i1 => .agg (.cn (.ex (.int .i64 (p i0 i1))) (.cn (.ex (.int .i64 (d i0 i1))) (.nl)))) (k i0)) l), (by omega), (leS (fun i0 => .sl 2 (fun i1 => .agg (.cn (.ex (.int .i64 (padZ (k i0) (p i0) i1))) (.cn (.ex (.int .i64 (padZ (k i0) (d i0) i1))) (.nl)))) (z % 7)) (g + 1)), (by omega), (by omega)⟩⟩⟩⟩⟩⟩⟩⟩⟩⟩⟩⟩⟩⟩⟩⟩⟩⟩⟩⟩⟩⟩⟩⟩⟩⟩⟩⟩⟩⟩⟩⟩, fun hc21 => have hi2 : g = min l 6 := (by have := bif_false hc21; omega); ⟨hi2, (leS (fun i0 => .sl 2 (fun i1 => .agg (.cn (.ex (.int .i64 (padZ (k i0) (p i0) i1))) (.cn (.ex (.int .i64 (padZ (k i0) (d i0) i1))) (.nl)))) (z % 7)) g), (rf ((z % 7 : Nat) : Int))⟩⟩⟩⟩⟩⟩⟩⟩⟩
set_option maxRecDepth 100000 in
theorem sMake11 {z l : Nat} {k : Nat → Nat} {p d : Nat → Nat → Int} (h : ∀ r, r < l → ∀ c, c < k r → Wd64 (p r c) ∧ Wd64 (d r c)) : CallOK Try.prog 29 [.agg (.cn (.ex (.int .u8 ((z : Nat) : Int))) (.cn (.sl 1 (fun i0 => .sl 2 (fun i1 => .agg (.cn (.ex (.int .i64 (p i0 i1))) (.cn (.ex (.int .i64 (d i0 i1))) (.nl)))) (k i0)) l) (.nl)))] (.agg (.cn (.sl 1 (fun i0 => .sl 3 (fun i1 => .rat (oneQ (padZ (k i0) (p i0) i1) (padZ (k i0) (d i0) i1))) (z % 7)) (min l 6)) (.cn (.ex (.int .i64 ((z % 7 : Nat) : Int))) (.nl)))) [] := by
  have hw : ∀ r, r < min l 6 → ∀ c, c < z % 7 → Wd64 (padZ (k r) (p r) c) ∧ Wd64 (padZ (k r) (d r) c) := fun r hr c _ => ⟨padZ_wd fun hc => (h r (by omega) c hc).1, padZ_wd fun hc => (h r (by omega) c hc).2⟩
  exact callOK_P (ch := [.reg 1 [(1, .callS (.cn (.sl 1 (fun i0 => .sl 2 (fun i1 => .agg (.cn (.ex (.int .i64 (padZ (k i0) (p i0) i1))) (.cn (.ex (.int .i64 (padZ (k i0) (d i0) i1))) (.nl)))) (z % 7)) (min l 6)) (.cn (.ex (.int .i64 ((z % 7 : Nat) : Int))) (.nl))) [])], .loop 4 (Nat) (fun g => g ≤ (min l 6)) (fun g => min l 6 - g) (fun g => ⟨[(2, .own 1 0), (3, .sl 1 (fun i0 => .sl 2 (fun i1 => .agg (.cn (.ex (.int .i64 (padZ (k i0) (p i0) i1))) (.cn (.ex (.int .i64 (padZ (k i0) (d i0) i1))) (.nl)))) (z % 7)) (min l 6)), (4, .ex (.int .i64 ((z % 7 : Nat) : Int))), (5, .own 2 0), (6, .ex (.int .i64 ((g : Nat) : Int)))], [(0, .one (.var 24 (.agg (.cn (.ex (.int .u8 ((z : Nat) : Int))) (.cn (.sl 1 (fun i0 => .sl 2 (fun i1 => .agg (.cn (.ex (.int .i64 (p i0 i1))) (.cn (.ex (.int .i64 (d i0 i1))) (.nl)))) (k i0)) l) (.nl)))))), (1, .one (.var 28 (.ex (.agg #[.slice none 0 0, .int .i64 0])))), (2, .one (.row 48 1 (fun i0 => .sl 3 (fun i1 => .rat (oneQ (padZ (k i0) (p i0) i1) (padZ (k i0) (d i0) i1))) (z % 7)) g))], 3⟩) [(0, .id 0), (1, .id 1), (2, .nil)] (fun _ => [(0, .id 0), (1, .id 1), (2, .id 3)]) (fun g => [.reg 6 [(3, .k g), (5, .callS (.sl 3 (fun i0 => .rat (oneQ (padZ (k g) (p g) i0) (padZ (k g) (d g) i0))) (z % 7)) []), (7, .row 0 (fun i0 => .sl 3 (fun i1 => .rat (oneQ (padZ (k i0) (p i0) i1) (padZ (k i0) (d i0) i1))) (z % 7)))], .reg 5 [(1, .z ((g + 1 : Nat) : Int))], .conv 7 [(0, .id 0), (1, .id 1)] ⟨[(2, .own 1 0), (4, .ex (.int .i64 ((z % 7 : Nat) : Int))), (5, .sl 1 (fun i0 => .sl 3 (fun i1 => .rat (oneQ (padZ (k i0) (p i0) i1) (padZ (k i0) (d i0) i1))) (z % 7)) (min l 6))], [(0, .one (.var 24 (.agg (.cn (.ex (.int .u8 ((z : Nat) : Int))) (.cn (.sl 1 (fun i0 => .sl 2 (fun i1 => .agg (.cn (.ex (.int .i64 (p i0 i1))) (.cn (.ex (.int .i64 (d i0 i1))) (.nl)))) (k i0)) l) (.nl)))))), (1, .one (.var 28 (.ex (.agg #[.slice none 0 0, .int .i64 0]))))], 3⟩, .reg 7 [(2, .callS (.cn (.agg (.cn (.sl 1 (fun i0 => .sl 3 (fun i1 => .rat (oneQ (padZ (k i0) (p i0) i1) (padZ (k i0) (d i0) i1))) (z % 7)) (min l 6)) (.cn (.ex (.int .i64 ((z % 7 : Nat) : Int))) (.nl)))) (.cn (.ex (.bool true)) (.nl))) [])]])]) hMix Try.func29 rfl (by kernel_rfl) (by kernel_rfl) ((∀ j0, j0 < l → (∀ j1, j1 < (k j0) → True)) ∧ _ ∧ (((fun X1 X2 X3 X4 X5 X6 X7 X8 : Prop => ∃ g0 : Nat, X1 ∧ X2 ∧ X3 ∧ X4 ∧ X5 ∧ ((0 : Int) = ((g0 : Nat) : Int)) ∧ X6 ∧ X7 ∧ X8 ∧ ((.agg #[.slice none 0 0, .int .i64 0] : Value) = .agg #[.slice none 0 0, .int .i64 0]) ∧ ((g0 : Nat) = 0) ∧ (g0 ≤ (min l 6))) _ _ _ _ _ _ _ _) ∧ ∀ g : Nat, (g ≤ (min l 6)) → (((decide (((g : Nat) : Int) < ((min l 6 : Nat) : Int))) = true → _ ∧ (g < (min l 6)) ∧ _ ∧ (g + 1 ≤ 68719476736) ∧ _ ∧ _ ∧ _ ∧ ((fun X1 X2 X3 X4 X5 X6 X7 X8 X9 : Prop => ∃ g1 : Nat, X1 ∧ X2 ∧ X3 ∧ X4 ∧ X5 ∧ (((g + 1 : Nat) : Int) = ((g1 : Nat) : Int)) ∧ X6 ∧ X7 ∧ X8 ∧ ((.agg #[.slice none 0 0, .int .i64 0] : Value) = .agg #[.slice none 0 0, .int .i64 0]) ∧ ((g + 1 : Nat) = g1) ∧ X9 ∧ (g1 ≤ (min l 6)) ∧ (min l 6 - g1 < min l 6 - g)) _ _ _ _ _ _ _ _ _)) ∧ ((decide (((g : Nat) : Int) < ((min l 6 : Nat) : Int))) = false → _ ∧ _ ∧ ((g : Nat) = (min l 6)) ∧ _ ∧ _ ∧ _ ∧ _ ∧ ((.agg #[.slice none 0 0, .int .i64 0] : Value) = .agg #[.slice none 0 0, .int .i64 0]) ∧ _ ∧ (_ ∧ _ ∧ _))))) (by kernel_rfl)
    ⟨(fun _ _ => (fun _ _ => trivial)), ⟨sRows11 (z := z) (l := l) (k := k) (p := p) (d := d), ⟨⟨0, (rf 0), (rf (min l 6 : Nat)), (leS (fun i0 => .sl 2 (fun i1 => .agg (.cn (.ex (.int .i64 (padZ (k i0) (p i0) i1))) (.cn (.ex (.int .i64 (padZ (k i0) (d i0) i1))) (.nl)))) (z % 7)) (min l 6)), (rf ((z % 7 : Nat) : Int)), (rf 0), (by omega), (rf ((z : Nat) : Int)), (rf l), (leS (fun i0 => .sl 2 (fun i1 => .agg (.cn (.ex (.int .i64 (p i0 i1))) (.cn (.ex (.int .i64 (d i0 i1))) (.nl)))) (k i0)) l), rfl, (by omega), (by omega)⟩, fun g hg => ⟨fun hc17 => have hc17 := of_decide_eq_true hc17; have hg2 := hw g (by omega); ⟨(rf ((g : Nat) : Int)), ⟨(by omega), ⟨(sMake (n := z % 7) (p := fun i => padZ (k g) (p g) i) (d := fun i => padZ (k g) (d g) i) (by omega) hg2).frzV, ⟨(by omega), ⟨(oldS (fun i0 => .sl 3 (fun i1 => .rat (oneQ (padZ (k i0) (p i0) i1) (padZ (k i0) (d i0) i1))) (z % 7)) g), ⟨(newS (fun i0 => .sl 3 (fun i1 => .rat (oneQ (padZ (k i0) (p i0) i1) (padZ (k i0) (d i0) i1))) (z % 7)) g), ⟨(wI (g := g) (by omega)), ⟨g + 1, (rf 0), (rf (min l 6 : Nat)), (leS (fun i0 => .sl 2 (fun i1 => .agg (.cn (.ex (.int .i64 (padZ (k i0) (p i0) i1))) (.cn (.ex (.int .i64 (padZ (k i0) (d i0) i1))) (.nl)))) (z % 7)) (min l 6)), (rf ((z % 7 : Nat) : Int)), (rf 0), (by omega), (rf ((z : Nat) : Int)), (rf l), (leS (fun i0 => .sl 2 (fun i1 => .agg (.cn (.ex (.int .i64 (p i0 i1))) (.cn (.ex (.int .i64 (d i0 i1))) (.nl)))) (k i0)) l), rfl, (by omega), (leS (fun i0 => .sl 3 (fun i1 => .rat (oneQ (padZ (k i0) (p i0) i1) (padZ (k i0) (d i0) i1))) (z % 7)) (g + 1)), (by omega), (by omega)⟩⟩⟩⟩⟩⟩⟩⟩, fun hc17 => have hc17 := of_decide_eq_false hc17; have hi2 : g = min l 6 := (by omega); ⟨(rf 0), ⟨(rf ((z % 7 : Nat) : Int)), ⟨hi2, ⟨(leS (fun i0 => .sl 3 (fun i1 => .rat (oneQ (padZ (k i0) (p i0) i1) (padZ (k i0) (d i0) i1))) (z % 7)) g), ⟨(rf ((z : Nat) : Int)), ⟨(rf l), ⟨(leS (fun i0 => .sl 2 (fun i1 => .agg (.cn (.ex (.int .i64 (p i0 i1))) (.cn (.ex (.int .i64 (d i0 i1))) (.nl)))) (k i0)) l), ⟨rfl, ⟨(sMatOf (m := min l 6) (n := z % 7) (q := fun r c => oneQ (padZ (k r) (p r) c) (padZ (k r) (d r) c)) (by omega) (by omega)), ⟨(rf (min l 6 : Nat)), (leS (fun i0 => .sl 3 (fun i1 => .rat (oneQ (padZ (k i0) (p i0) i1) (padZ (k i0) (d i0) i1))) (z % 7)) (min l 6)), (rf ((z % 7 : Nat) : Int))⟩⟩⟩⟩⟩⟩⟩⟩⟩⟩⟩⟩⟩⟩
def sumQ (f : Nat → Rat) : Nat → Rat
  | 0 => 0
  | n + 1 => sumQ f n + f n
theorem sumQ_congr {f g : Nat → Rat} : ∀ n, (∀ i, i < n → f i = g i) → sumQ f n = sumQ g n
  | 0, _ => rfl
  | n + 1, h => by show sumQ f n + f n = sumQ g n + g n; rw [sumQ_congr n fun i hi => h i (by omega), h n (by omega)]
theorem sumQ_add (f g : Nat → Rat) : ∀ n, sumQ (fun i => f i + g i) n = sumQ f n + sumQ g n
  | 0 => by show (0 : Rat) = 0 + 0; grind
  | n + 1 => by show sumQ (fun i => f i + g i) n + (f n + g n) = _ + f n + (_ + g n); rw [sumQ_add f g n]; grind
theorem sumQ_mul (t : Rat) (f : Nat → Rat) : ∀ n, sumQ (fun i => t * f i) n = t * sumQ f n
  | 0 => by show (0 : Rat) = t * 0; grind
  | n + 1 => by show sumQ (fun i => t * f i) n + t * f n = t * (_ + f n); rw [sumQ_mul t f n]; grind
theorem sumQ_zero : ∀ n, sumQ (fun _ => 0) n = 0
  | 0 => rfl
  | n + 1 => by show sumQ (fun _ => 0) n + 0 = 0; rw [sumQ_zero n]; grind
theorem sumQ_comm (f : Nat → Nat → Rat) (m : Nat) : ∀ n, sumQ (fun i => sumQ (f i) m) n = sumQ (fun j => sumQ (fun i => f i j) n) m
  | 0 => by show 0 = sumQ (fun _ => 0) m; rw [sumQ_zero]
  | n + 1 => by
    show sumQ (fun i => sumQ (f i) m) n + sumQ (f n) m = sumQ (fun j => sumQ (fun i => f i j) n + f n j) m
    rw [sumQ_comm f m n, sumQ_add]
theorem sumQ_one {f : Nat → Rat} {k : Nat} : ∀ n, k < n → (∀ i, i < n → i ≠ k → f i = 0) → sumQ f n = f k
  | 0, h, _ => absurd h (Nat.not_lt_zero k)
  | n + 1, h, hz => by
    show sumQ f n + f n = f k
    by_cases e : k = n
    · subst e
      rw [sumQ_congr k (g := fun _ => 0) (fun i hi => hz i (by omega) (by omega)), sumQ_zero]; grind
    · rw [sumQ_one n (by omega) (fun i hi => hz i (by omega)), hz n (by omega) (by omega)]; grind
def sgn : Nat → Rat
  | 0 => 1
  | n + 1 => - sgn n
def skp (k i : Nat) : Nat := if i < k then i else i + 1
def minor (A : Nat → Nat → Rat) (r c : Nat) : Nat → Nat → Rat := fun i j => A (skp r i) (skp c j)
def cdet : Nat → (Nat → Nat → Rat) → Rat
  | 0, _ => 1
  | n + 1, A => sumQ (fun r => sgn r * A r 0 * cdet n (minor A r 0)) (n + 1)
theorem skp_lt {k i n : Nat} (hi : i < n) : skp k i < n + 1 := by unfold skp; split <;> omega
theorem cdet_congr : ∀ n {A B : Nat → Nat → Rat}, (∀ i, i < n → ∀ j, j < n → A i j = B i j) → cdet n A = cdet n B
  | 0, _, _, _ => rfl
  | n + 1, A, B, h => sumQ_congr _ fun c hc => by
    rw [h c hc 0 (by omega), cdet_congr n (A := minor A c 0) (B := minor B c 0) fun i hi j hj => h _ (skp_lt hi) _ (skp_lt hj)]
def setR (A : Nat → Nat → Rat) (r : Nat) (x : Nat → Rat) : Nat → Nat → Rat := fun i j => if i = r then x j else A i j
def unsk (k i : Nat) : Nat := if i < k then i else i - 1
theorem minor_setR_self (A : Nat → Nat → Rat) (r : Nat) (x : Nat → Rat) (c : Nat) : minor (setR A r x) r c = minor A r c := by
  funext i j
  show (if skp r i = r then _ else _) = _
  rw [if_neg (by unfold skp; split <;> omega)]; rfl
theorem minor_setR (A : Nat → Nat → Rat) {r i : Nat} (h : i ≠ r) (x : Nat → Rat) (c : Nat) : minor (setR A r x) i c = setR (minor A i c) (unsk i r) (fun j => x (skp c j)) := by
  funext k j
  show (if skp i k = r then _ else _) = (if k = unsk i r then _ else _)
  have e : skp i k = r ↔ k = unsk i r := by unfold skp unsk; split <;> split <;> omega
  by_cases q : skp i k = r
  · rw [if_pos q, if_pos (e.1 q)]
  · rw [if_neg q, if_neg fun q' => q (e.2 q')]; rfl
theorem cdet_lin : ∀ n (A : Nat → Nat → Rat) (r : Nat) (x y : Nat → Rat) (s t : Rat), r < n → cdet n (setR A r (fun j => s * x j + t * y j)) = s * cdet n (setR A r x) + t * cdet n (setR A r y)
  | 0, _, _, _, _, _, _, h => absurd h (Nat.not_lt_zero _)
  | n + 1, A, r, x, y, s, t, h => by
    show sumQ _ (n + 1) = s * sumQ _ (n + 1) + t * sumQ _ (n + 1)
    rw [← sumQ_mul, ← sumQ_mul, ← sumQ_add]
    refine sumQ_congr _ fun i hi => ?_
    by_cases e : i = r
    · subst e
      rw [minor_setR_self, minor_setR_self, minor_setR_self]
      show sgn i * (if i = i then _ else _) * _ = s * (sgn i * (if i = i then _ else _) * _) + t * (sgn i * (if i = i then _ else _) * _)
      rw [if_pos rfl, if_pos rfl, if_pos rfl]; grind
    · rw [minor_setR A e, minor_setR A e, minor_setR A e, cdet_lin n _ _ (fun j => x (skp 0 j)) (fun j => y (skp 0 j)) s t (by unfold unsk; split <;> omega)]
      show sgn i * (if i = r then _ else _) * _ = s * (sgn i * (if i = r then _ else _) * _) + t * (sgn i * (if i = r then _ else _) * _)
      rw [if_neg e, if_neg e, if_neg e]; grind
def swapR (A : Nat → Nat → Rat) (k l : Nat) : Nat → Nat → Rat := fun i j => A (if i = k then l else if i = l then k else i) j
theorem cdet_adj : ∀ n (A : Nat → Nat → Rat) (k : Nat), k + 1 < n → cdet n (swapR A k (k + 1)) = - cdet n A
  | 0, _, _, h => absurd h (Nat.not_lt_zero _)
  | n + 1, A, k, h => by
    show sumQ _ (n + 1) = - sumQ _ (n + 1)
    have e : ∀ f : Nat → Rat, - sumQ f (n + 1) = (-1 : Rat) * sumQ f (n + 1) := fun f => by grind
    rw [e, ← sumQ_mul]
    have key : ∀ i, i < n + 1 → (fun r => sgn r * swapR A k (k + 1) r 0 * cdet n (minor (swapR A k (k + 1)) r 0)) i = (-1 : Rat) * (fun r => sgn r * A r 0 * cdet n (minor A r 0)) (if i = k then k + 1 else if i = k + 1 then k else i) := fun i hi => by
      by_cases h1 : i = k
      · subst h1
        rw [if_pos rfl]
        show sgn i * A (if i = i then i + 1 else _) 0 * cdet n (minor (swapR A i (i + 1)) i 0) = -1 * ((- sgn i) * A (i + 1) 0 * cdet n (minor A (i + 1) 0))
        rw [if_pos rfl]
        have : minor (swapR A i (i + 1)) i 0 = minor A (i + 1) 0 := by
          funext a b
          show A (if skp i a = i then i + 1 else if skp i a = i + 1 then i else skp i a) _ = A (skp (i + 1) a) _
          congr 1
          unfold skp; repeat (first | split | omega)
        rw [this]; grind
      · by_cases h2 : i = k + 1
        · subst h2
          rw [if_neg h1, if_pos rfl]
          show (- sgn k) * A (if k + 1 = k then k + 1 else if k + 1 = k + 1 then k else _) 0 * cdet n (minor (swapR A k (k + 1)) (k + 1) 0) = -1 * (sgn k * A k 0 * cdet n (minor A k 0))
          rw [if_neg h1, if_pos rfl]
          have : minor (swapR A k (k + 1)) (k + 1) 0 = minor A k 0 := by
            funext a b
            show A (if skp (k + 1) a = k then k + 1 else if skp (k + 1) a = k + 1 then k else skp (k + 1) a) _ = A (skp k a) _
            congr 1
            unfold skp; repeat (first | split | omega)
          rw [this]; grind
        · rw [if_neg h1, if_neg h2]
          show sgn i * A (if i = k then k + 1 else if i = k + 1 then k else i) 0 * cdet n (minor (swapR A k (k + 1)) i 0) = -1 * (sgn i * A i 0 * cdet n (minor A i 0))
          rw [if_neg h1, if_neg h2]
          have : minor (swapR A k (k + 1)) i 0 = swapR (minor A i 0) (unsk i k) (unsk i k + 1) := by
            funext a b
            show A (if skp i a = k then k + 1 else if skp i a = k + 1 then k else skp i a) _ = A (skp i (if a = unsk i k then unsk i k + 1 else if a = unsk i k + 1 then unsk i k else a)) _
            congr 1
            unfold skp unsk; repeat (first | split | omega)
          rw [this, cdet_adj n (minor A i 0) (unsk i k) (by unfold unsk; split <;> omega)]; grind
    rw [sumQ_congr _ key]
    show sumQ (fun i => (-1 : Rat) * (fun r => sgn r * A r 0 * cdet n (minor A r 0)) (if i = k then k + 1 else if i = k + 1 then k else i)) (n + 1) = _
    rw [sumQ_mul, sumQ_mul]
    congr 1
    exact sumQ_swap (fun r => sgn r * A r 0 * cdet n (minor A r 0)) _ h
where sumQ_swap (f : Nat → Rat) {k : Nat} : ∀ n, k + 1 < n → sumQ (fun i => f (if i = k then k + 1 else if i = k + 1 then k else i)) n = sumQ f n
  | 0, h => absurd h (Nat.not_lt_zero _)
  | n + 1, h => by
    by_cases e : k + 1 = n
    · subst e
      show sumQ _ k + f (if k = k then _ else _) + f (if k + 1 = k then _ else _) = sumQ f k + f k + f (k + 1)
      rw [if_pos rfl, if_neg (by omega), if_pos rfl, sumQ_congr k (g := f) fun i hi => by rw [if_neg (by omega), if_neg (by omega)]]
      grind
    · show sumQ _ n + f (if n = k then _ else _) = sumQ f n + f n
      rw [sumQ_swap f n (by omega), if_neg (by omega), if_neg (by omega)]
theorem cdet_eq0 : ∀ (d n : Nat) (A : Nat → Nat → Rat) (k : Nat), k + d + 1 < n → (∀ j, j < n → A k j = A (k + d + 1) j) → cdet n A = 0
  | 0, n, A, k, h, e => by
    have h1 := cdet_adj n A k h
    have h2 : cdet n (swapR A k (k + 1)) = cdet n A := cdet_congr n fun i _ j hj => by
      show A (if i = k then k + 1 else if i = k + 1 then k else i) j = A i j
      by_cases a : i = k
      · rw [if_pos a, a]; exact (e j hj).symm
      · by_cases b : i = k + 1
        · rw [if_neg a, if_pos b, b]; exact e j hj
        · rw [if_neg a, if_neg b]
    grind
  | d + 1, n, A, k, h, e => by
    have h1 := cdet_adj n A (k + d + 1) (by omega)
    have h2 := cdet_eq0 d n (swapR A (k + d + 1) (k + d + 1 + 1)) k (by omega) fun j hj => by
      show A (if k = k + d + 1 then _ else if k = k + d + 1 + 1 then _ else k) j = A (if k + d + 1 = k + d + 1 then _ else _) j
      rw [if_neg (by omega), if_neg (by omega), if_pos rfl]
      exact e j hj
    grind
theorem cdet_eq {n : Nat} {A : Nat → Nat → Rat} {k l : Nat} (hk : k < n) (hl : l < n) (hkl : k ≠ l) (e : ∀ j, j < n → A k j = A l j) : cdet n A = 0 := by
  by_cases h : k < l
  · obtain ⟨d, rfl⟩ : ∃ d, l = k + d + 1 := ⟨l - k - 1, by omega⟩
    exact cdet_eq0 d n A k hl e
  · obtain ⟨d, rfl⟩ : ∃ d, k = l + d + 1 := ⟨k - l - 1, by omega⟩
    exact cdet_eq0 d n A l hk fun j hj => (e j hj).symm
theorem setR_self {A : Nat → Nat → Rat} {r : Nat} : setR A r (A r) = A := by
  funext i j
  show (if i = r then A r j else A i j) = A i j
  by_cases e : i = r
  · rw [if_pos e, e]
  · rw [if_neg e]
theorem cdet_addR {n : Nat} (A : Nat → Nat → Rat) {r k : Nat} (t : Rat) (hr : r < n) (hk : k < n) (h : r ≠ k) : cdet n (setR A r (fun j => A r j + t * A k j)) = cdet n A := by
  have h1 := cdet_lin n A r (A r) (A k) 1 t hr
  have h2 : cdet n (setR A r (A k)) = 0 := cdet_eq hr hk h fun j _ => by
    show (if r = r then _ else _) = (if k = r then _ else _)
    rw [if_pos rfl, if_neg (Ne.symm h)]
  have h3 : setR A r (fun j => A r j + t * A k j) = setR A r (fun j => 1 * A r j + t * A k j) := by congr 1; funext j; grind
  rw [h3, h1, h2, setR_self]; grind
theorem cdet_swap {n : Nat} (A : Nat → Nat → Rat) {k l : Nat} (hk : k < n) (hl : l < n) (h : k ≠ l) : cdet n (swapR A k l) = - cdet n A := by
  have S : ∀ x y x' y' : Nat → Rat, cdet n (setR (setR A k x) l (fun j => 1 * y j + 1 * y' j)) = 1 * cdet n (setR (setR A k x) l y) + 1 * cdet n (setR (setR A k x) l y') := fun x y _ y' => cdet_lin n _ l y y' 1 1 hl
  have C : ∀ x y : Nat → Rat, setR (setR A k x) l y = setR (setR A l y) k x := fun x y => by
    funext i j
    show (if i = l then y j else if i = k then x j else A i j) = (if i = k then x j else if i = l then y j else A i j)
    by_cases a : i = l
    · subst a; rw [if_pos rfl, if_neg (Ne.symm h), if_pos rfl]
    · rw [if_neg a, if_neg a]
  have Z : ∀ x : Nat → Rat, cdet n (setR (setR A k x) l x) = 0 := fun x => cdet_eq hk hl h fun j _ => by
    show (if k = l then _ else if k = k then _ else _) = (if l = l then _ else _)
    rw [if_neg h, if_pos rfl, if_pos rfl]
  have z := fun j => (1 : Rat) * A k j + 1 * A l j
  have e0 := Z (fun j => 1 * A k j + 1 * A l j)
  have e1 := cdet_lin n (setR A k (fun j => 1 * A k j + 1 * A l j)) l (A k) (A l) 1 1 hl
  have e2 : ∀ y, cdet n (setR (setR A k (fun j => 1 * A k j + 1 * A l j)) l y) = cdet n (setR (setR A k (A k)) l y) + cdet n (setR (setR A k (A l)) l y) := fun y => by
    rw [C, cdet_lin n (setR A l y) k (A k) (A l) 1 1 hk, ← C, ← C]; grind
  rw [e0, e2, e2, Z, Z, setR_self] at e1
  have e3 : setR A l (A l) = A := setR_self
  have e4 : swapR A k l = setR (setR A k (A l)) l (A k) := by
    funext i j
    show A (if i = k then l else if i = l then k else i) j = (if i = l then A k j else if i = k then A l j else A i j)
    by_cases a : i = k
    · subst a; rw [if_pos rfl, if_neg h, if_pos rfl]
    · by_cases b : i = l
      · rw [if_neg a, if_pos b, if_pos b]
      · rw [if_neg a, if_neg b, if_neg b, if_neg a]
  rw [e3] at e1
  rw [e4]; grind
def blk (c : Nat) (A : Nat → Nat → Rat) : Nat → Nat → Rat := fun i j => A (c + i) (c + j)
theorem cdet_col0 {n : Nat} {A : Nat → Nat → Rat} (h : ∀ i, 0 < i → i < n + 1 → A i 0 = 0) : cdet (n + 1) A = A 0 0 * cdet n (blk 1 A) := by
  show sumQ _ (n + 1) = _
  rw [sumQ_one (k := 0) (n + 1) (by omega) (fun i hi h0 => by rw [h i (by omega) hi]; grind)]
  have : minor A 0 0 = blk 1 A := by
    funext i j
    show A (skp 0 i) (skp 0 j) = A (1 + i) (1 + j)
    unfold skp; rw [if_neg (Nat.not_lt_zero i), if_neg (Nat.not_lt_zero j), Nat.add_comm, Nat.add_comm j]
  rw [this]
  show (1 : Rat) * A 0 0 * _ = _
  grind
theorem cdet_zero0 {n : Nat} {A : Nat → Nat → Rat} (h : ∀ i, i < n + 1 → A i 0 = 0) : cdet (n + 1) A = 0 := by
  rw [cdet_col0 fun i _ hi => h i hi, h 0 (by omega)]; grind
def elimQ (B : Nat → Nat → Rat) (c h : Nat) : Nat → Nat → Rat := fun i j => if c < i ∧ i < h then B i j + - (B i c / B c c) * B c j else B i j
theorem elimQ_zero {B : Nat → Nat → Rat} {c i j : Nat} : B i j = elimQ B c (c + 1) i j := (if_neg (by omega)).symm
theorem elimQ_at {B : Nat → Nat → Rat} {c h j : Nat} (hc : c < h) : B h j + - (B h c / B c c) * B c j = elimQ B c (h + 1) h j := (if_pos ⟨hc, Nat.lt_succ_self h⟩).symm
theorem elimQ_ne {B : Nat → Nat → Rat} {c h i : Nat} (hi : i ≠ h) : elimQ B c (h + 1) i = elimQ B c h i := by
  funext j
  unfold elimQ
  by_cases e : c < i ∧ i < h
  · rw [if_pos e, if_pos ⟨e.1, by omega⟩]
  · rw [if_neg e, if_neg fun e' => e ⟨e'.1, by omega⟩]
theorem elimQ_top {B : Nat → Nat → Rat} {c h i : Nat} (hi : i ≤ c) : elimQ B c h i = B i := by
  funext j; exact if_neg (by omega)
theorem elimQ_end {B : Nat → Nat → Rat} {c h i : Nat} (hi : h ≤ i) : elimQ B c h i = B i := by
  funext j; exact if_neg (by omega)
theorem elimQ_det {B : Nat → Nat → Rat} {c n : Nat} : ∀ d, c + 1 + d ≤ n → cdet (n - c) (blk c (elimQ B c (c + 1 + d))) = cdet (n - c) (blk c B)
  | 0, _ => cdet_congr _ fun i _ j _ => (elimQ_zero (B := B) (c := c) (i := c + i) (j := c + j)).symm
  | d + 1, h => by
    refine Eq.trans ?_ (elimQ_det (B := B) d (by omega))
    have h1 := cdet_addR (n := n - c) (blk c (elimQ B c (c + 1 + d))) (r := d + 1) (k := 0) (- (B (c + (d + 1)) c / B c c)) (by omega) (by omega) (by omega)
    rw [← h1]
    refine cdet_congr _ fun i hi j hj => ?_
    show elimQ B c (c + 1 + d + 1) (c + i) (c + j) = (if i = d + 1 then elimQ B c (c + 1 + d) (c + (d + 1)) (c + j) + - (B (c + (d + 1)) c / B c c) * elimQ B c (c + 1 + d) (c + 0) (c + j) else elimQ B c (c + 1 + d) (c + i) (c + j))
    by_cases e : i = d + 1
    · subst e
      rw [if_pos rfl, elimQ_end (B := B) (h := c + 1 + d) (i := c + (d + 1)) (by omega), elimQ_top (B := B) (h := c + 1 + d) (i := c + 0) (by omega)]
      exact if_pos ⟨by omega, by omega⟩
    · rw [if_neg e, elimQ_ne (by omega)]
theorem swap_det {B : Nat → Nat → Rat} {c k n : Nat} (hc : c < k) (hk : k < n) : cdet (n - c) (blk c (swapR B c k)) = - cdet (n - c) (blk c B) := by
  rw [← cdet_swap (blk c B) (k := 0) (l := k - c) (by omega) (by omega) (by omega)]
  refine cdet_congr _ fun i _ j _ => ?_
  show B (if c + i = c then k else if c + i = k then c else c + i) (c + j) = B (c + (if i = 0 then k - c else if i = k - c then 0 else i)) (c + j)
  congr 1
  by_cases a : i = 0
  · rw [if_pos (by omega), if_pos a]; omega
  · by_cases b : i = k - c
    · rw [if_neg (by omega), if_pos (by omega), if_neg a, if_pos b]; rfl
    · rw [if_neg (by omega), if_neg (by omega), if_neg a, if_neg b]
theorem det_none {B : Nat → Nat → Rat} {c n : Nat} {o : Rat} (hc : c < n) (h : ∀ i, c ≤ i → i < n → B i c = 0) : o * cdet (n - c) (blk c B) = 0 := by
  obtain ⟨m, hm⟩ : ∃ m, n - c = m + 1 := ⟨n - c - 1, by omega⟩
  rw [hm, cdet_zero0 fun i hi => h (c + i) (by omega) (by omega)]; grind
theorem det_step {B : Nat → Nat → Rat} {c n : Nat} {o D : Rat} (hc : c < n) (hp : B c c ≠ 0) (h : o * cdet (n - c) (blk c B) = D) : o * B c c * cdet (n - (c + 1)) (blk (c + 1) (elimQ B c n)) = D := by
  obtain ⟨m, hm⟩ : ∃ m, n - c = m + 1 := ⟨n - c - 1, by omega⟩
  have h1 := elimQ_det (B := B) (c := c) (n := n) (n - c - 1) (by omega)
  rw [show c + 1 + (n - c - 1) = n by omega, hm, cdet_col0 fun i h0 hi => by
    show elimQ B c n (c + i) (c + 0) = 0
    unfold elimQ
    rw [if_pos ⟨by omega, by omega⟩]
    show B (c + i) c + - (B (c + i) c / B c c) * B c c = 0
    rw [Rat.neg_mul, Rat.div_mul_cancel hp]; grind] at h1
  have h2 : blk c (elimQ B c n) 0 0 = B c c := by show elimQ B c n (c + 0) (c + 0) = _; rw [elimQ_top (by omega)]; rfl
  have h3 : cdet m (blk 1 (blk c (elimQ B c n))) = cdet (n - (c + 1)) (blk (c + 1) (elimQ B c n)) := by
    rw [show n - (c + 1) = m by omega]
    refine cdet_congr _ fun i _ j _ => ?_
    show elimQ B c n (c + (1 + i)) (c + (1 + j)) = elimQ B c n (c + 1 + i) (c + 1 + j)
    rw [Nat.add_assoc, Nat.add_assoc]
  rw [h2, h3] at h1
  rw [← h, hm, ← h1]; grind
def leadK (B : Nat → Nat → Rat) (c : Nat) : Nat → Nat → Nat
  | a, 0 => a
  | a, d + 1 => if B a c = 0 then leadK B c (a + 1) d else a
theorem leadK_le {B : Nat → Nat → Rat} {c : Nat} : ∀ d a, a ≤ leadK B c a d ∧ leadK B c a d ≤ a + d
  | 0, a => ⟨Nat.le_refl a, Nat.le_refl a⟩
  | d + 1, a => by
    unfold leadK
    split
    · have := leadK_le (B := B) (c := c) d (a + 1); omega
    · omega
theorem leadK_at {B : Nat → Nat → Rat} {c : Nat} : ∀ d a, leadK B c a d < a + d → B (leadK B c a d) c ≠ 0
  | 0, a, h => absurd h (Nat.lt_irrefl a)
  | d + 1, a, h => by
    unfold leadK at h ⊢
    split
    · rename_i e; rw [if_pos e] at h; exact leadK_at d (a + 1) (by omega)
    · assumption
theorem leadK_none {B : Nat → Nat → Rat} {c : Nat} : ∀ d a i, a ≤ i → i < leadK B c a d → B i c = 0
  | 0, a, i, h, h2 => absurd h2 (Nat.not_lt.2 h)
  | d + 1, a, i, h, h2 => by
    unfold leadK at h2
    split at h2
    · rename_i e
      by_cases q : i = a
      · rw [q]; exact e
      · exact leadK_none d (a + 1) i (by omega) h2
    · omega
def scaleQ (B : Nat → Nat → Rat) (a c : Nat) : Nat → Nat → Rat := setR B a (fun j => (B a c)⁻¹ * B a j)
def clearQ (B : Nat → Nat → Rat) (a c : Nat) : Nat → Nat → Rat := fun r j => if r = a then B a j else B r j + -(B r c) * B a j
abbrev RedS := (Nat → Nat → Rat) × Nat × (Nat → Nat)
def redStep (m : Nat) (s : RedS) (c : Nat) : RedS :=
  if leadK s.1 c s.2.1 (m - s.2.1) < m then (clearQ (scaleQ (swapR s.1 s.2.1 (leadK s.1 c s.2.1 (m - s.2.1))) s.2.1 c) s.2.1 c, s.2.1 + 1, fun i => if i = s.2.1 then c else s.2.2 i) else s
def red (m : Nat) (A : Nat → Nat → Rat) : Nat → RedS
  | 0 => (A, 0, fun _ => 0)
  | c + 1 => redStep m (red m A c) c
def Spn (m : Nat) (B : Nat → Nat → Rat) (x : Nat → Rat) : Prop := ∃ t : Nat → Rat, ∀ j, x j = sumQ (fun k => t k * B k j) m
theorem Spn.self {m : Nat} {B : Nat → Nat → Rat} {r : Nat} (hr : r < m) : Spn m B (B r) := ⟨fun k => if k = r then 1 else 0, fun j => by
  rw [sumQ_one (k := r) m hr fun i _ hi => by show (if i = r then (1 : Rat) else 0) * B i j = 0; rw [if_neg hi]; grind]
  show B r j = (if r = r then (1 : Rat) else 0) * B r j
  rw [if_pos rfl]; grind⟩
theorem Spn.lin {m : Nat} {B : Nat → Nat → Rat} {x y : Nat → Rat} (s t : Rat) (hx : Spn m B x) (hy : Spn m B y) : Spn m B (fun j => s * x j + t * y j) := by
  obtain ⟨u, hu⟩ := hx
  obtain ⟨v, hv⟩ := hy
  refine ⟨fun k => s * u k + t * v k, fun j => ?_⟩
  show s * x j + t * y j = sumQ (fun k => (s * u k + t * v k) * B k j) m
  rw [hu, hv, ← sumQ_mul, ← sumQ_mul, ← sumQ_add]
  exact sumQ_congr m fun i _ => by grind
theorem Spn.sum {m p : Nat} {B : Nat → Nat → Rat} {X : Nat → Nat → Rat} {t : Nat → Rat} (h : ∀ k, k < p → Spn m B (X k)) : Spn m B (fun j => sumQ (fun k => t k * X k j) p) := by
  induction p with
  | zero => exact ⟨fun _ => 0, fun j => by show 0 = sumQ (fun k => 0 * B k j) m; rw [sumQ_congr m (g := fun _ => 0) fun i _ => by grind, sumQ_zero]⟩
  | succ p ih =>
    have h1 := Spn.lin 1 (t p) (ih fun k hk => h k (by omega)) (h p (by omega))
    obtain ⟨u, hu⟩ := h1
    exact ⟨u, fun j => by rw [← hu]; show sumQ (fun k => t k * X k j) p + t p * X p j = _; grind⟩
theorem Spn.trans {m p : Nat} {B C : Nat → Nat → Rat} {x : Nat → Rat} (hx : Spn p C x) (h : ∀ k, k < p → Spn m B (C k)) : Spn m B x := by
  obtain ⟨t, ht⟩ := hx
  obtain ⟨u, hu⟩ := Spn.sum (t := t) h
  exact ⟨u, fun j => (ht j).trans (hu j)⟩
def Same2 (m : Nat) (A B : Nat → Nat → Rat) : Prop := (∀ r, r < m → Spn m B (A r)) ∧ ∀ r, r < m → Spn m A (B r)
theorem Same2.rfl {m : Nat} {A : Nat → Nat → Rat} : Same2 m A A := ⟨fun _ h => .self h, fun _ h => .self h⟩
theorem Same2.trans {m : Nat} {A B C : Nat → Nat → Rat} (h : Same2 m A B) (k : Same2 m B C) : Same2 m A C := ⟨fun r hr => (h.1 r hr).trans k.1, fun r hr => (k.2 r hr).trans h.2⟩
theorem same_swap {m : Nat} {A : Nat → Nat → Rat} {k l : Nat} (hk : k < m) (hl : l < m) : Same2 m A (swapR A k l) := by
  have h : ∀ r, r < m → (if r = k then l else if r = l then k else r) < m := fun r hr => by split; exact hl; split; exact hk; exact hr
  have inv : ∀ r, swapR A k l (if r = k then l else if r = l then k else r) = A r := fun r => by
    funext j
    show A (if (if r = k then l else if r = l then k else r) = k then l else if (if r = k then l else if r = l then k else r) = l then k else (if r = k then l else if r = l then k else r)) j = A r j
    congr 1
    repeat (first | split | omega)
  exact ⟨fun r hr => by rw [← inv r]; exact Spn.self (h r hr), fun r hr => Spn.self (B := A) (h r hr)⟩
theorem same_scale {m : Nat} {A : Nat → Nat → Rat} {a c : Nat} (ha : a < m) (h : A a c ≠ 0) : Same2 m A (scaleQ A a c) := by
  have e : ∀ r, r ≠ a → scaleQ A a c r = A r := fun r hr => by funext j; exact if_neg hr
  have e2 : ∀ j, scaleQ A a c a j = (A a c)⁻¹ * A a j := fun j => if_pos _root_.rfl
  constructor
  · intro r hr
    by_cases q : r = a
    · subst q
      obtain ⟨t, ht⟩ := Spn.lin (A r c) 0 (Spn.self (B := scaleQ A r c) hr) (Spn.self (B := scaleQ A r c) hr)
      refine ⟨t, fun j => ?_⟩
      rw [← ht]; dsimp only; rw [e2]
      have : A r c * (A r c)⁻¹ = 1 := Rat.mul_inv_cancel _ h
      grind
    · rw [← e r q]; exact Spn.self hr
  · intro r hr
    by_cases q : r = a
    · subst q
      obtain ⟨t, ht⟩ := Spn.lin (A r c)⁻¹ 0 (Spn.self (B := A) hr) (Spn.self (B := A) hr)
      exact ⟨t, fun j => by rw [← ht]; dsimp only; rw [e2]; grind⟩
    · rw [e r q]; exact Spn.self hr
theorem same_clear {m : Nat} {A : Nat → Nat → Rat} {a c : Nat} (ha : a < m) : Same2 m A (clearQ A a c) := by
  have e2 : clearQ A a c a = A a := by funext j; exact if_pos _root_.rfl
  have e : ∀ r, r ≠ a → ∀ j, clearQ A a c r j = A r j + -(A r c) * A a j := fun r hr j => if_neg hr
  constructor
  · intro r hr
    by_cases q : r = a
    · subst q
      have := Spn.self (B := clearQ A r c) hr
      rw [e2] at this; exact this
    · obtain ⟨t, ht⟩ := Spn.lin 1 (A r c) (Spn.self (B := clearQ A a c) hr) (Spn.self (B := clearQ A a c) ha)
      exact ⟨t, fun j => by rw [← ht]; dsimp only; rw [e r q, e2]; grind⟩
  · intro r hr
    by_cases q : r = a
    · subst q; rw [e2]; exact Spn.self hr
    · obtain ⟨t, ht⟩ := Spn.lin 1 (-(A r c)) (Spn.self (B := A) hr) (Spn.self (B := A) ha)
      exact ⟨t, fun j => by rw [← ht]; dsimp only; rw [e r q]; grind⟩
structure RedInv (m : Nat) (A : Nat → Nat → Rat) (c : Nat) (s : RedS) : Prop where
  am : s.2.1 ≤ m
  ac : s.2.1 ≤ c
  lt : ∀ i, i < s.2.1 → s.2.2 i < c
  inc : ∀ i j, i < j → j < s.2.1 → s.2.2 i < s.2.2 j
  one : ∀ i, i < s.2.1 → s.1 i (s.2.2 i) = 1
  zero : ∀ i, i < s.2.1 → ∀ r, r < m → r ≠ i → s.1 r (s.2.2 i) = 0
  left : ∀ i, i < s.2.1 → ∀ j, j < s.2.2 i → s.1 i j = 0
  low : ∀ r, s.2.1 ≤ r → r < m → ∀ j, j < c → s.1 r j = 0
  same : Same2 m A s.1
theorem red_inv (m : Nat) (A : Nat → Nat → Rat) : ∀ c, RedInv m A c (red m A c)
  | 0 => ⟨Nat.zero_le _, Nat.le_refl _, fun _ h => absurd h (Nat.not_lt_zero _), fun _ _ _ h => absurd h (Nat.not_lt_zero _), fun _ h => absurd h (Nat.not_lt_zero _), fun _ h => absurd h (Nat.not_lt_zero _), fun _ h => absurd h (Nat.not_lt_zero _), fun _ _ _ _ h => absurd h (Nat.not_lt_zero _), .rfl⟩
  | c + 1 => by
    have H := red_inv m A c
    show RedInv m A (c + 1) (redStep m (red m A c) c)
    generalize red m A c = s at H
    obtain ⟨B, a, L⟩ := s
    have h1 := leadK_le (B := B) (c := c) (m - a) a
    have hn := leadK_none (B := B) (c := c) (m - a) a
    have ha := leadK_at (B := B) (c := c) (m - a) a
    unfold redStep
    have am := H.am; have ac := H.ac
    simp only at am ac h1 hn ha ⊢
    generalize leadK B c a (m - a) = k at h1 hn ha
    by_cases hk : k < m
    · rw [if_pos hk]
      have hp := ha (by omega)
      have am' : a < m := by omega
      have hS : ∀ r j, swapR B a k r j = B (if r = a then k else if r = k then a else r) j := fun _ _ => rfl
      have p0 : swapR B a k a c ≠ 0 := by rw [hS, if_pos rfl]; exact hp
      have lowS : ∀ r, a ≤ r → r < m → ∀ j, j < c → swapR B a k r j = 0 := fun r h2 h3 j hj => by
        rw [hS]
        refine H.low _ ?_ ?_ j hj
        · show a ≤ _; split; omega; split <;> omega
        · split; omega; split <;> omega
      have topS : ∀ r, r < a → swapR B a k r = B r := fun r hr => by funext j; rw [hS, if_neg (by omega), if_neg (by omega)]
      have zS : ∀ i, i < a → ∀ r, r < m → r ≠ i → swapR B a k r (L i) = 0 := fun i hi r hr hne => by
        rw [hS]
        refine H.zero i hi _ ?_ ?_
        · split; omega; split <;> omega
        · split; omega; split <;> omega
      have hC : ∀ r, r ≠ a → ∀ j, clearQ (scaleQ (swapR B a k) a c) a c r j = swapR B a k r j + -(swapR B a k r c) * ((swapR B a k a c)⁻¹ * swapR B a k a j) := fun r hr j => by
        show (if r = a then _ else (if r = a then _ else swapR B a k r j) + -(if r = a then _ else swapR B a k r c) * (if a = a then _ else _)) = _
        rw [if_neg hr, if_neg hr, if_neg hr, if_pos rfl]
      have hD : ∀ j, clearQ (scaleQ (swapR B a k) a c) a c a j = (swapR B a k a c)⁻¹ * swapR B a k a j := fun j => by
        show (if a = a then (if a = a then _ else _) else _) = _
        rw [if_pos rfl, if_pos rfl]
      have inv1 : (swapR B a k a c)⁻¹ * swapR B a k a c = 1 := Rat.inv_mul_cancel _ p0
      refine ⟨am', by show a + 1 ≤ c + 1; omega, fun i hi => ?_, fun i j hij hj => ?_, fun i hi => ?_, fun i hi r hr hne => ?_, fun i hi j hj => ?_, fun r h2 h3 j hj => ?_, ?_⟩
      · show (if i = a then c else L i) < c + 1
        have hi : i < a + 1 := hi
        split
        · omega
        · have := H.lt i (show i < a by omega); simp only at this; omega
      · show (if i = a then c else L i) < (if j = a then c else L j)
        have hj : j < a + 1 := hj
        rw [if_neg (by omega)]
        split
        · exact H.lt i (show i < a by omega)
        · exact H.inc i j hij (show j < a by omega)
      · show clearQ _ a c i (if i = a then c else L i) = 1
        have hi : i < a + 1 := hi
        by_cases q : i = a
        · subst q; rw [if_pos rfl, hD]; exact inv1
        · rw [if_neg q, hC i q, topS i (by omega), zS i (by omega) a am' (by omega)]
          have := H.one i (show i < a by omega); simp only at this
          rw [this]; grind
      · show clearQ _ a c r (if i = a then c else L i) = 0
        have hi : i < a + 1 := hi
        by_cases q : i = a
        · subst q
          rw [if_pos rfl, hC r hne]; grind
        · rw [if_neg q]
          by_cases q2 : r = a
          · subst q2; rw [hD, zS i (by omega) r am' hne]; grind
          · rw [hC r q2, zS i (by omega) a am' (by omega), zS i (by omega) r hr hne]; grind
      · have hi : i < a + 1 := hi
        have hj : j < (if i = a then c else L i) := hj
        show clearQ _ a c i j = 0
        by_cases q : i = a
        · subst q
          rw [if_pos rfl] at hj
          rw [hD, lowS i (Nat.le_refl i) am' j hj]; grind
        · rw [if_neg q] at hj
          have h5 := H.lt i (show i < a by omega); simp only at h5
          have h6 := H.left i (show i < a by omega) j hj; simp only at h6
          rw [hC i q, lowS a (Nat.le_refl a) am' j (by omega), topS i (by omega), h6]; grind
      · have h2 : a + 1 ≤ r := h2
        show clearQ _ a c r j = 0
        rw [hC r (by omega)]
        by_cases q : j = c
        · subst q; grind
        · rw [lowS r (by omega) h3 j (by omega), lowS a (Nat.le_refl a) am' j (by omega)]; grind
      · exact H.same.trans ((same_swap am' hk).trans ((same_scale am' p0).trans (same_clear am')))
    · rw [if_neg hk]
      refine ⟨H.am, by show a ≤ c + 1; omega, fun i hi => Nat.lt_succ_of_lt (H.lt i hi), H.inc, H.one, H.zero, H.left, fun r h2 h3 j hj => ?_, H.same⟩
      by_cases q : j = c
      · rw [q]; exact hn r h2 (by omega)
      · exact H.low r h2 h3 j (by omega)
theorem sumQ_cut {f : Nat → Rat} {a : Nat} : ∀ m, a ≤ m → (∀ k, a ≤ k → k < m → f k = 0) → sumQ f m = sumQ f a
  | 0, h, _ => by rw [Nat.le_zero.1 h]
  | m + 1, h, hz => by
    by_cases e : a = m + 1
    · rw [e]
    · show sumQ f m + f m = _
      rw [sumQ_cut m (by omega) (fun k h1 h2 => hz k h1 (by omega)), hz m (by omega) (by omega)]; grind
theorem RedInv.row {m n : Nat} {A : Nat → Nat → Rat} {s : RedS} (H : RedInv m A n s) {r : Nat} (hr : r < m) : ∀ j, j < n → A r j = sumQ (fun k => A r (s.2.2 k) * s.1 k j) s.2.1 := by
  obtain ⟨t, ht⟩ := H.same.1 r hr
  have h1 : ∀ j, j < n → A r j = sumQ (fun k => t k * s.1 k j) s.2.1 := fun j hj => by
    rw [ht, sumQ_cut m H.am fun k h1 h2 => by rw [H.low k h1 h2 j hj]; grind]
  intro j hj
  rw [h1 j hj]
  refine sumQ_congr _ fun k hk => ?_
  have hl := H.lt k hk
  rw [h1 _ hl, sumQ_one (k := k) _ hk fun i hi hne => by rw [H.zero k hk i (Nat.lt_of_lt_of_le hi H.am) hne]; grind, H.one k hk]; grind
def cntL (a : Nat) (L : Nat → Nat) (c : Nat) : Nat := match a with
  | 0 => 0
  | a + 1 => if L a < c then a + 1 else cntL a L c
theorem cntL_le {L : Nat → Nat} {c : Nat} : ∀ a, cntL a L c ≤ a
  | 0 => Nat.le_refl 0
  | a + 1 => by
    unfold cntL
    split
    · omega
    · have := cntL_le (L := L) (c := c) a; omega
theorem cntL_lt {L : Nat → Nat} {c : Nat} : ∀ a, (∀ i j, i < j → j < a → L i < L j) → ∀ i, i < a → (i < cntL a L c ↔ L i < c)
  | 0, _, i, h => absurd h (Nat.not_lt_zero i)
  | a + 1, hm, i, h => by
    unfold cntL
    by_cases e : L a < c
    · rw [if_pos e]
      refine ⟨fun _ => ?_, fun _ => h⟩
      by_cases q : i = a
      · rw [q]; exact e
      · exact Nat.lt_trans (hm i a (by omega) (by omega)) e
    · rw [if_neg e]
      have ih := cntL_lt a (fun i j h1 h2 => hm i j h1 (by omega)) (c := c)
      by_cases q : i = a
      · subst q
        have : cntL i L c ≤ i := cntL_le i
        exact ⟨fun h2 => by omega, fun h2 => absurd h2 e⟩
      · exact ih i (by omega)
def kerQ (s : RedS) (c j : Nat) : Rat := (if j = c then 1 else 0) + sumQ (fun r => if s.2.2 r = j then - s.1 r c else 0) s.2.1
theorem RedInv.inj {m n : Nat} {A : Nat → Nat → Rat} {s : RedS} (H : RedInv m A n s) {i k : Nat} (hi : i < s.2.1) (hk : k < s.2.1) (e : s.2.2 i = s.2.2 k) : i = k := by
  rcases Nat.lt_trichotomy i k with h | h | h
  · have := H.inc i k h hk; omega
  · exact h
  · have := H.inc k i h hi; omega
theorem RedInv.free {m n : Nat} {A : Nat → Nat → Rat} {s : RedS} (H : RedInv m A n s) (hn : s.2.1 < n) : ∃ c, c < n ∧ ∀ i, i < s.2.1 → s.2.2 i ≠ c := by
  refine Classical.byContradiction fun hc => ?_
  have all : ∀ c, c < n → ∃ i, i < s.2.1 ∧ s.2.2 i = c := fun c hcn => Classical.byContradiction fun k => hc ⟨c, hcn, fun i hi e => k ⟨i, hi, e⟩⟩
  have key : ∀ c, c < n → c < s.2.1 ∧ s.2.2 c = c := by
    intro c
    induction c using Nat.strongRecOn with
    | _ c ih =>
      intro hcn
      obtain ⟨i, hi, e⟩ := all c hcn
      rcases Nat.lt_trichotomy i c with q | q | q
      · have := (ih i q (by omega)).2; omega
      · subst q; exact ⟨hi, e⟩
      · have h1 := H.inc c i q hi
        by_cases c0 : c = 0
        · omega
        · have h2 := (ih (c - 1) (by omega) (by omega)).2
          have h3 := H.inc (c - 1) c (by omega) (by omega)
          omega
  have := (key s.2.1 hn).1
  omega
theorem cntL_eq {a x : Nat} {L : Nat → Nat} {c : Nat} (hm : ∀ i j, i < j → j < a → L i < L j) (hx : x ≤ a) (h : ∀ i, i < a → (i < x ↔ L i < c)) : cntL a L c = x := by
  have h1 := cntL_lt (c := c) a hm
  have h2 := cntL_le (L := L) (c := c) a
  rcases Nat.lt_trichotomy (cntL a L c) x with q | q | q
  · have := (h1 _ (by omega)).2 ((h _ (by omega)).1 q); omega
  · exact q
  · have := (h x (by omega)).2 ((h1 x (by omega)).1 q); omega
def clrP (B : Nat → Nat → Rat) (a c h : Nat) : Nat → Nat → Rat := fun r j => if r < h ∧ r ≠ a then B r j + -(B r c) * B a j else B r j
theorem leadK_cong {B B' : Nat → Nat → Rat} {c : Nat} (h : ∀ r, B r c = B' r c) : ∀ d a, leadK B c a d = leadK B' c a d
  | 0, _ => rfl
  | d + 1, a => by unfold leadK; rw [h a, leadK_cong h d (a + 1)]
theorem red_cong {m n : Nat} {A A' : Nat → Nat → Rat} (h : ∀ r j, j < n → A r j = A' r j) : ∀ c, c ≤ n → (red m A c).2 = (red m A' c).2 ∧ ∀ r j, j < n → (red m A c).1 r j = (red m A' c).1 r j
  | 0, _ => ⟨rfl, h⟩
  | c + 1, hc => by
    obtain ⟨h1, h2⟩ := red_cong (m := m) h c (by omega)
    show (redStep m (red m A c) c).2 = (redStep m (red m A' c) c).2 ∧ ∀ r j, j < n → (redStep m (red m A c) c).1 r j = (redStep m (red m A' c) c).1 r j
    generalize red m A c = s at h1 h2
    generalize red m A' c = s' at h1 h2
    obtain ⟨B, t⟩ := s
    obtain ⟨B', t'⟩ := s'
    obtain rfl : t = t' := h1
    have h2 : ∀ r j, j < n → B r j = B' r j := h2
    unfold redStep
    rw [leadK_cong (fun r => h2 r c (by omega)) (m - t.1) t.1]
    split
    · refine ⟨rfl, fun r j hj => ?_⟩
      have hS : ∀ k r j, j < n → swapR B t.1 k r j = swapR B' t.1 k r j := fun k r j hj => h2 _ j hj
      have hC : ∀ k r j, j < n → scaleQ (swapR B t.1 k) t.1 c r j = scaleQ (swapR B' t.1 k) t.1 c r j := fun k r j hj => by
        unfold scaleQ setR
        dsimp only
        rw [hS k t.1 c (by omega), hS k t.1 j hj, hS k r j hj]
      show clearQ _ t.1 c r j = clearQ _ t.1 c r j
      unfold clearQ
      rw [hC _ t.1 j hj, hC _ r j hj, hC _ r c (by omega)]
    · exact ⟨rfl, h2⟩
def wideQ (n : Nat) (q : Nat → Nat → Rat) (b : Nat → Rat) : Nat → Nat → Rat := fun r j => if j < n then q r j else b r
theorem wideQ_lt {n : Nat} {q : Nat → Nat → Rat} {b : Nat → Rat} {r j : Nat} (h : j < n) : wideQ n q b r j = q r j := if_pos h
theorem wideQ_n {n : Nat} {q : Nat → Nat → Rat} {b : Nat → Rat} {r : Nat} : wideQ n q b r n = b r := if_neg (Nat.lt_irrefl n)
theorem red_wide {m n : Nat} {q : Nat → Nat → Rat} {b : Nat → Rat} {c : Nat} (hc : c ≤ n) : (red m (wideQ n q b) c).2 = (red m q c).2 ∧ ∀ r j, j < n → (red m (wideQ n q b) c).1 r j = (red m q c).1 r j := red_cong (fun _ _ hj => wideQ_lt hj) c hc
def noSol (m n : Nat) (q : Nat → Nat → Rat) (b : Nat → Rat) : Prop := leadK (red m (wideQ n q b) n).1 n (red m (wideQ n q b) n).2.1 (m - (red m (wideQ n q b) n).2.1) < m
instance (m n : Nat) (q : Nat → Nat → Rat) (b : Nat → Rat) : Decidable (noSol m n q b) := inferInstanceAs (Decidable (_ < _))
theorem red_none {m n : Nat} {q : Nat → Nat → Rat} {b : Nat → Rat} (h : noSol m n q b) : (red m (wideQ n q b) (n + 1)).2.1 = (red m q n).2.1 + 1 ∧ (red m (wideQ n q b) (n + 1)).2.2 (red m q n).2.1 = n := by
  have h1 : red m (wideQ n q b) (n + 1) = redStep m (red m (wideQ n q b) n) n := rfl
  have h2 := (red_wide (m := m) (n := n) (q := q) (b := b) (Nat.le_refl n)).1
  unfold redStep at h1
  rw [if_pos (show leadK (red m (wideQ n q b) n).1 n (red m (wideQ n q b) n).2.1 (m - (red m (wideQ n q b) n).2.1) < m from h)] at h1
  rw [h1, h2]
  exact ⟨rfl, if_pos rfl⟩
theorem red_some {m n : Nat} {q : Nat → Nat → Rat} {b : Nat → Rat} (h : ¬ noSol m n q b) : red m (wideQ n q b) (n + 1) = red m (wideQ n q b) n := by
  have h1 : red m (wideQ n q b) (n + 1) = redStep m (red m (wideQ n q b) n) n := rfl
  unfold redStep at h1
  rw [if_neg (show ¬ leadK (red m (wideQ n q b) n).1 n (red m (wideQ n q b) n).2.1 (m - (red m (wideQ n q b) n).2.1) < m from h)] at h1
  exact h1
def solQ (s : RedS) (n j : Nat) : Rat := sumQ (fun r => if s.2.2 r = j then s.1 r n else 0) s.2.1
theorem solQ_free {s : RedS} {n j : Nat} (h : ∀ i, i < s.2.1 → s.2.2 i ≠ j) : solQ s n j = 0 := by
  unfold solQ
  rw [sumQ_congr _ (g := fun _ => 0) fun i hi => if_neg (h i hi), sumQ_zero]
theorem solQ_lead {m c n : Nat} {A : Nat → Nat → Rat} {s : RedS} (H : RedInv m A c s) {k : Nat} (hk : k < s.2.1) : solQ s n (s.2.2 k) = s.1 k n := by
  unfold solQ
  rw [sumQ_one (k := k) _ hk fun i hi hne => if_neg fun e => hne (H.inj hi hk e), if_pos rfl]
theorem sol_sum {m n : Nat} {A : Nat → Nat → Rat} {s : RedS} (H : RedInv m A (n + 1) s) (hl : ∀ i, i < s.2.1 → s.2.2 i < n) {r : Nat} (hr : r < m) : sumQ (fun j => A r j * solQ s n j) n = A r n := by
  have e : ∀ j, j < n → A r j * solQ s n j = sumQ (fun k => if s.2.2 k = j then A r j * s.1 k n else 0) s.2.1 := fun j _ => by
    unfold solQ
    rw [← sumQ_mul]
    exact sumQ_congr _ fun k _ => by split <;> grind
  rw [sumQ_congr n e, sumQ_comm (fun j k => if s.2.2 k = j then A r j * s.1 k n else 0) s.2.1 n, H.row hr n (by omega)]
  refine sumQ_congr _ fun k hk => ?_
  rw [sumQ_one (k := s.2.2 k) n (hl k hk) fun j _ hj => if_neg (Ne.symm hj), if_pos rfl]
theorem sol_ok {m n : Nat} {q : Nat → Nat → Rat} {b : Nat → Rat} (h : ¬ noSol m n q b) {r : Nat} (hr : r < m) : sumQ (fun j => q r j * solQ (red m (wideQ n q b) (n + 1)) n j) n = b r := by
  have H := red_inv m (wideQ n q b) (n + 1)
  have hl : ∀ i, i < (red m (wideQ n q b) (n + 1)).2.1 → (red m (wideQ n q b) (n + 1)).2.2 i < n := fun i hi => by
    rw [red_some h] at hi ⊢
    exact (red_inv m (wideQ n q b) n).lt i hi
  have := sol_sum H hl hr
  rw [wideQ_n] at this
  rw [← this]
  exact sumQ_congr n fun j hj => by rw [wideQ_lt hj]
theorem Spn.rel {m n : Nat} {A : Nat → Nat → Rat} {w x : Nat → Rat} (h : ∀ r, r < m → A r n = sumQ (fun j => A r j * w j) n) (hx : Spn m A x) : x n = sumQ (fun j => x j * w j) n := by
  obtain ⟨t, ht⟩ := hx
  rw [ht n, sumQ_congr m (g := fun k => sumQ (fun j => t k * (A k j * w j)) n) fun k hk => by rw [h k hk, sumQ_mul], sumQ_comm (fun k j => t k * (A k j * w j)) n m]
  refine sumQ_congr n fun j _ => ?_
  rw [ht j]
  have : sumQ (fun k => t k * A k j) m * w j = w j * sumQ (fun k => t k * A k j) m := by grind
  rw [this, ← sumQ_mul]
  exact sumQ_congr m fun k _ => by grind
theorem made_ok {m n : Nat} {q : Nat → Nat → Rat} {b w : Nat → Rat} (hb : ∀ r, r < m → b r = sumQ (fun j => q r j * w j) n) : ¬ noSol m n q b := fun h => by
  have H := red_inv m (wideQ n q b) n
  unfold noSol at h
  have h1 := leadK_le (B := (red m (wideQ n q b) n).1) (c := n) (m - (red m (wideQ n q b) n).2.1) (red m (wideQ n q b) n).2.1
  have h2 := leadK_at (B := (red m (wideQ n q b) n).1) (c := n) (m - (red m (wideQ n q b) n).2.1) (red m (wideQ n q b) n).2.1 (by have := H.am; omega)
  generalize leadK (red m (wideQ n q b) n).1 n (red m (wideQ n q b) n).2.1 (m - (red m (wideQ n q b) n).2.1) = k at h h1 h2
  refine h2 ?_
  have hr : ∀ r, r < m → wideQ n q b r n = sumQ (fun j => wideQ n q b r j * w j) n := fun r hr => by
    rw [wideQ_n, hb r hr]
    exact sumQ_congr n fun j hj => by rw [wideQ_lt hj]
  rw [Spn.rel hr (H.same.2 k h), sumQ_congr n (g := fun _ => 0) fun j hj => by rw [H.low k h1.1 h j hj]; grind, sumQ_zero]
open Go.RowKit
def lenW (n g r : Nat) : Nat := if r < g then n + 1 else n
theorem lenW_self {n g : Nat} : lenW n g g = n := if_neg (Nat.lt_irrefl g)
theorem lenW_at {n g : Nat} : lenW n (g + 1) g = n + 1 := if_pos (Nat.lt_succ_self g)
theorem lenW_ne {n g r : Nat} (h : r ≠ g) : lenW n g r = lenW n (g + 1) r := by
  unfold lenW
  by_cases h1 : r < g
  · rw [if_pos h1, if_pos (by omega)]
  · rw [if_neg h1, if_neg (by omega)]
theorem lenW_zero {n r : Nat} : n = lenW n 0 r := (if_neg (Nat.not_lt_zero r)).symm
theorem lenW_all {n g r : Nat} (h : r < g) : lenW n g r = n + 1 := if_pos h
theorem wideQ_new {n k : Nat} {q : Nat → Nat → Rat} {v : Nat → Rat} {r : Nat} (h : k = n) : v r = wideQ n q v r k := by rw [h, wideQ_n]
set_option maxRecDepth 100000 in
theorem sMatCopyO {q : Nat → Nat → Rat} {m n : Nat} (hm : m ≤ 68719476736) (hn : n ≤ 68719476736) : CallOK Try.prog 91 [.agg (.cn (.sl 1 (fun i0 => .sl 3 (fun i1 => .rat (q i0 i1)) n) m) (.cn (.ex (.int .i64 ((n : Nat) : Int))) (.nl)))] (.agg (.cn (.own 0 0) (.cn (.ex (.int .i64 ((n : Nat) : Int))) (.nl)))) [.one (.row 48 1 (fun i0 => .own 1 i0) m), .fam m (fun i0 => .row 36 3 (fun i1 => .rat (q i0 i1)) n)] := by
  exact callOK_P (ch := [.loop 3 (Nat) (fun g => g ≤ m) (fun g => m - g) (fun g => ⟨[(1, .own 0 0), (2, .own 1 0), (3, .own 2 0), (10, .sl 1 (fun i0 => .sl 3 (fun i1 => .rat (q i0 i1)) n) m), (11, .ex (.int .i64 ((m : Nat) : Int))), (12, .ex (.int .i64 ((g : Nat) : Int)))], [(0, .one (.var 28 (.agg (.cn (.sl 1 (fun i0 => .sl 3 (fun i1 => .rat (q i0 i1)) n) m) (.cn (.ex (.int .i64 ((n : Nat) : Int))) (.nl)))))), (1, .one (.var 28 (.ex (.agg #[.slice none 0 0, .int .i64 0])))), (2, .one (.var 28 (.agg (.cn (.own 3 0) (.cn (.ex (.int .i64 ((n : Nat) : Int))) (.nl)))))), (3, .one (.row 48 1 (fun i0 => .own 4 i0) g)), (4, .fam g (fun i0 => .row 36 3 (fun i1 => .rat (q i0 i1)) n))], 5⟩) [(0, .id 0), (1, .id 1), (2, .id 2), (3, .nil), (4, .emp)] (fun g => [(0, .id 0), (1, .id 1), (2, .id 2), (3, .id 6), (4, .put 4 g 5)]) (fun g => [.reg 4 [(0, .k g)], .reg 5 [(3, .callS (.own 0 0) [.one (.row 36 3 (fun i0 => .rat (q g i0)) n)]), (5, .row 0 (fun i0 => .own (if i0 < g then 4 else 5) (if i0 < g then i0 else 0)))], .reg 6 [(0, .z ((g + 1 : Nat) : Int))], .ret 7 [(0, .id 3), (1, .id 4)]])]) hMix Try.func91 rfl (by kernel_rfl) (by kernel_rfl) ((∀ j0, j0 < m → (∀ j1, j1 < n → True)) ∧ (((fun X1 X2 X3 X4 X5 X6 X7 X8 X9 X10 X11 : Prop => ∃ g0 : Nat, X1 ∧ X2 ∧ X3 ∧ X4 ∧ X5 ∧ X6 ∧ ((0 : Int) = ((g0 : Nat) : Int)) ∧ X7 ∧ X8 ∧ X9 ∧ ((.agg #[.slice none 0 0, .int .i64 0] : Value) = .agg #[.slice none 0 0, .int .i64 0]) ∧ X10 ∧ X11 ∧ ((g0 : Nat) = 0) ∧ ((g0 : Nat) = 0) ∧ (g0 ≤ m)) _ _ _ _ _ _ _ _ _ _ _) ∧ ∀ g : Nat, (g ≤ m) → (((decide (((g : Nat) : Int) < ((m : Nat) : Int))) = true → _ ∧ (g < m) ∧ _ ∧ (g + 1 ≤ 68719476736) ∧ (∀ j0, j0 < g → (.own (if j0 < g then 4 else 5) (if j0 < g then j0 else 0) : SV) = .own 4 j0) ∧ (∀ j0, j0 < 1 → ((5 : Nat) = (if g + j0 < g then 4 else 5)) ∧ ((0 : Nat) = (if g + j0 < g then g + j0 else 0))) ∧ _ ∧ ((fun X1 X2 X3 X4 X5 X6 X7 X8 X9 X10 X11 X12 : Prop => ∃ g1 : Nat, X1 ∧ X2 ∧ X3 ∧ X4 ∧ X5 ∧ X6 ∧ (((g + 1 : Nat) : Int) = ((g1 : Nat) : Int)) ∧ X7 ∧ X8 ∧ X9 ∧ ((.agg #[.slice none 0 0, .int .i64 0] : Value) = .agg #[.slice none 0 0, .int .i64 0]) ∧ X10 ∧ X11 ∧ ((g + 1 : Nat) = g1) ∧ (∀ j0, j0 < (g + 1) → (((if j0 < g then 4 else 5 : Nat) = 5 ∧ (if j0 < g then j0 else 0 : Nat) = 0 ∧ (j0 : Nat) = g) ∨ ((if j0 < g then 4 else 5 : Nat) = 4 ∧ (if j0 < g then j0 else 0 : Nat) = j0 ∧ (j0 : Nat) ≠ g))) ∧ ((g1 : Nat) = g + 1) ∧ X12 ∧ (((n : Nat) = n) ∧ (∀ j1, j1 < n → ((q g j1 : Rat) = (q g j1)))) ∧ (∀ j0, j0 < g → ((n : Nat) = n) ∧ (∀ j1, j1 < n → ((q j0 j1 : Rat) = (q j0 j1)))) ∧ (g1 ≤ m) ∧ (m - g1 < m - g)) _ _ _ _ _ _ _ _ _ _ _ _)) ∧ ((decide (((g : Nat) : Int) < ((m : Nat) : Int))) = false → (_ ∧ _ ∧ ((g : Nat) = m) ∧ (∀ j0, j0 < g → ((j0 : Nat) = j0)) ∧ ((g : Nat) = m) ∧ (∀ j0, j0 < g → ((n : Nat) = n) ∧ (∀ j1, j1 < n → ((q j0 j1 : Rat) = (q j0 j1))))))))) (by kernel_rfl)
    ⟨(fun _ _ => (fun _ _ => trivial)), ⟨⟨0, (rf 0), (rf 0), (rf 0), (rf m), (leS (fun i0 => .sl 3 (fun i1 => .rat (q i0 i1)) n) m), (rf ((m : Nat) : Int)), (by omega), (rf m), (leS (fun i0 => .sl 3 (fun i1 => .rat (q i0 i1)) n) m), (rf ((n : Nat) : Int)), rfl, (rf 0), (rf ((n : Nat) : Int)), (by omega), (by omega), (by omega)⟩, fun g hg => ⟨fun hc13 => have hc13 := of_decide_eq_true hc13; ⟨(rf ((g : Nat) : Int)), ⟨(by omega), ⟨sVecCopy (n := n) (q := (fun i => q g i)) (by omega), ⟨(by omega), ⟨(fun j0 hj0 => by rw [if_pos hj0, if_pos hj0]), ⟨(fun j0 hj0 => ⟨(by rw [if_neg (by omega)]), (by rw [if_neg (by omega)])⟩), ⟨(wI (g := g) (by omega)), ⟨g + 1, (rf 0), (rf 0), (rf 0), (rf m), (leS (fun i0 => .sl 3 (fun i1 => .rat (q i0 i1)) n) m), (rf ((m : Nat) : Int)), (by omega), (rf m), (leS (fun i0 => .sl 3 (fun i1 => .rat (q i0 i1)) n) m), (rf ((n : Nat) : Int)), rfl, (rf 0), (rf ((n : Nat) : Int)), (by omega), (fun j0 hj0 => (by first | omega | (split <;> omega))), (by omega), (rf g), ⟨rfl, (fun j1 hj1 => rfl)⟩, (fun j0 hj0 => ⟨rfl, (fun j1 hj1 => rfl)⟩), (by omega), (by omega)⟩⟩⟩⟩⟩⟩⟩⟩, fun hc13 => have hc13 := of_decide_eq_false hc13; have hi2 : g = m := (by omega); ⟨(rf 0), (rf ((n : Nat) : Int)), (by omega), (fun j0 hj0 => rfl), (by omega), (fun j0 hj0 => ⟨rfl, (fun j1 hj1 => rfl)⟩)⟩⟩⟩⟩
set_option maxRecDepth 100000 in
theorem sMatWithCol {q : Nat → Nat → Rat} {v : Nat → Rat} {m n : Nat} (hm : m ≤ 68719476736) (hn : n < 64) : CallOK Try.prog 56 [.agg (.cn (.sl 1 (fun i0 => .sl 3 (fun i1 => .rat (q i0 i1)) n) m) (.cn (.ex (.int .i64 ((n : Nat) : Int))) (.nl))), .sl 3 (fun i0 => .rat (v i0)) m] (.cn (.agg (.cn (.sl 1 (fun i0 => .sl 3 (fun i1 => .rat ((wideQ n q v) i0 i1)) (n + 1)) m) (.cn (.ex (.int .i64 ((n + 1 : Nat) : Int))) (.nl)))) (.cn (.ex (.bool true)) (.nl))) [] := by
  exact callOK_P (ch := [.dec 18 false, .reg 3 [(1, .callS (.agg (.cn (.own 0 0) (.cn (.ex (.int .i64 ((n : Nat) : Int))) (.nl)))) [.one (.row 48 1 (fun i0 => .own 1 i0) m), .fam m (fun i0 => .row 36 3 (fun i1 => .rat (q i0 i1)) n)])], .reg 4 [(2, .z ((n + 1 : Nat) : Int))], .loop 6 (Nat) (fun g => g ≤ m) (fun g => m - g) (fun g => ⟨[(1, .sl 3 (fun i0 => .rat (v i0)) m), (2, .own 0 0), (4, .own 1 0), (6, .own 4 0), (28, .ex (.int .i64 ((m : Nat) : Int))), (29, .ex (.int .i64 ((g : Nat) : Int)))], [(0, .one (.var 28 (.agg (.cn (.sl 1 (fun i0 => .sl 3 (fun i1 => .rat (q i0 i1)) n) m) (.cn (.ex (.int .i64 ((n : Nat) : Int))) (.nl)))))), (1, .one (.var 28 (.ex (.agg #[.slice none 0 0, .int .i64 0])))), (2, .one (.row 48 1 (fun i0 => .own 3 i0) m)), (3, .fam m (fun i0 => .row 36 3 (fun i1 => .rat (wideQ n q v i0 i1)) (lenW n g i0))), (4, .one (.var 28 (.agg (.cn (.own 2 0) (.cn (.ex (.int .i64 ((n + 1 : Nat) : Int))) (.nl))))))], 5⟩) [(0, .id 0), (1, .id 1), (2, .id 2), (3, .id 3), (4, .id 4)] (fun g => [(0, .id 0), (1, .id 1), (2, .id 2), (3, .put 3 g 5), (4, .id 4)]) (fun g => [.reg 8 [(6, .k g), (10, .k g), (13, .row 0 (fun i0 => .rat (wideQ n q v g i0))), (14, .k g), (15, .row 0 (fun i0 => .own (if i0 = g then 5 else 3) (if i0 = g then 0 else i0)))], .reg 9 [(0, .z ((g + 1 : Nat) : Int))]])]) hMix Try.func56 rfl (by kernel_rfl) (by kernel_rfl) (let y0 := ((!decide (((m : Nat) : Int) = ((m : Nat) : Int))) == false); (∀ j0, j0 < m → (∀ j1, j1 < n → True)) ∧ (∀ j0, j0 < m → True) ∧ (y0 = true → y0 = true) ∧ (y0 = true → y0 = true) ∧ ((!(!decide (((m : Nat) : Int) = ((m : Nat) : Int)))) = true → y0 = true) ∧ ((bif (!decide (((m : Nat) : Int) = ((m : Nat) : Int))) then true else (decide ((64 : Int) ≤ ((n : Nat) : Int)))) = false) ∧ (CallOK Try.prog 91 [.agg (.cn (.sl 1 (fun i0 => .sl 3 (fun i1 => .rat (q i0 i1)) n) m) (.cn (.ex (.int .i64 ((n : Nat) : Int))) (.nl)))] (.agg (.cn (.own 0 0) (.cn (.ex (.int .i64 ((n : Nat) : Int))) (.nl)))) [.one (.row 48 1 (fun i0 => .own 1 i0) m), .fam m (fun i0 => .row 36 3 (fun i1 => .rat (q i0 i1)) n)]) ∧ _ ∧ (((fun X1 X2 X3 X4 X5 X6 X7 X8 X9 X10 X11 X12 X13 : Prop => ∃ g0 : Nat, X1 ∧ X2 ∧ X3 ∧ X4 ∧ X5 ∧ X6 ∧ ((0 : Int) = ((g0 : Nat) : Int)) ∧ X7 ∧ X8 ∧ X9 ∧ ((.agg #[.slice none 0 0, .int .i64 0] : Value) = .agg #[.slice none 0 0, .int .i64 0]) ∧ X10 ∧ (∀ j0, j0 < m → ((j0 : Nat) = j0)) ∧ X11 ∧ (∀ j0, j0 < m → ((n : Nat) = (lenW n g0 j0)) ∧ (∀ j1, j1 < n → ((q j0 j1 : Rat) = (wideQ n q v j0 j1)))) ∧ X12 ∧ X13 ∧ (g0 ≤ m)) _ _ _ _ _ _ _ _ _ _ _ _ _) ∧ ∀ g : Nat, (g ≤ m) → (((decide (((g : Nat) : Int) < ((m : Nat) : Int))) = true → _ ∧ (g < m) ∧ (g < m) ∧ _ ∧ (g < m) ∧ ((lenW n g g) + 1 ≤ 68719476736) ∧ _ ∧ (∀ j0, j0 < 1 → ((v g : Rat) = (wideQ n q v g ((lenW n g g) + j0)))) ∧ (g < m) ∧ _ ∧ (g < m) ∧ (g < m) ∧ (((5 : Nat) = (if g = g then 5 else 3)) ∧ ((0 : Nat) = (if g = g then 0 else g))) ∧ (∀ t, t < m → t ≠ g → (.own (if t = g then 5 else 3) (if t = g then 0 else t) : SV) = .own 3 t) ∧ _ ∧ ((fun X1 X2 X3 X4 X5 X6 X7 X8 X9 X10 X11 X12 X13 X14 : Prop => ∃ g1 : Nat, X1 ∧ X2 ∧ X3 ∧ X4 ∧ X5 ∧ X6 ∧ (((g + 1 : Nat) : Int) = ((g1 : Nat) : Int)) ∧ X7 ∧ X8 ∧ X9 ∧ ((.agg #[.slice none 0 0, .int .i64 0] : Value) = .agg #[.slice none 0 0, .int .i64 0]) ∧ X10 ∧ (∀ j0, j0 < m → (((if j0 = g then 5 else 3 : Nat) = 5 ∧ (if j0 = g then 0 else j0 : Nat) = 0 ∧ (j0 : Nat) = g) ∨ ((if j0 = g then 5 else 3 : Nat) = 3 ∧ (if j0 = g then 0 else j0 : Nat) = j0 ∧ (j0 : Nat) ≠ g))) ∧ X11 ∧ X12 ∧ (g < m) ∧ ((((lenW n g g) + 1 : Nat) = (lenW n g1 g)) ∧ (∀ j1, j1 < ((lenW n g g) + 1) → ((wideQ n q v g j1 : Rat) = (wideQ n q v g j1)))) ∧ (∀ j0, j0 < m → j0 ≠ g → ((lenW n g j0 : Nat) = (lenW n g1 j0)) ∧ (∀ j1, j1 < (lenW n g j0) → ((wideQ n q v j0 j1 : Rat) = (wideQ n q v j0 j1)))) ∧ X13 ∧ X14 ∧ (g1 ≤ m) ∧ (m - g1 < m - g)) _ _ _ _ _ _ _ _ _ _ _ _ _ _)) ∧ ((decide (((g : Nat) : Int) < ((m : Nat) : Int))) = false → (_ ∧ (∀ j0, j0 < m → ((lenW n g j0 : Nat) = (n + 1)) ∧ (∀ j1, j1 < (lenW n g j0) → ((wideQ n q v j0 j1 : Rat) = ((wideQ n q v) j0 j1))) ∧ (j0 < m)) ∧ _ ∧ _))))) (by kernel_rfl)
    ⟨(fun _ _ => (fun _ _ => trivial)), ⟨(fun _ _ => trivial), ⟨id, ⟨id, ⟨(by simp), ⟨(by simp; omega), ⟨sMatCopyO (q := q) (by omega) (by omega), ⟨(wI (g := n) (by omega)), ⟨⟨0, (rf m), (leS (fun i0 => .rat (v i0)) m), (rf 0), (rf 0), (rf 0), (rf ((m : Nat) : Int)), (by omega), (rf m), (leS (fun i0 => .sl 3 (fun i1 => .rat (q i0 i1)) n) m), (rf ((n : Nat) : Int)), rfl, (rf m), (fun j0 hj0 => rfl), (rf m), (fun j0 hj0 => ⟨lenW_zero, (fun j1 hj1 => (wideQ_lt (by assumption)).symm)⟩), (rf 0), (rf ((n + 1 : Nat) : Int)), (by omega)⟩, fun g hg => have e1 := lenW_self (n := n) (g := g); have e2 := lenW_at (n := n) (g := g); ⟨fun hc30 => have hc30 := of_decide_eq_true hc30; ⟨(rf ((g : Nat) : Int)), ⟨(by omega), ⟨(by omega), ⟨(rf ((g : Nat) : Int)), ⟨(by omega), ⟨(by omega), ⟨(oldS (fun i0 => .rat (wideQ n q v g i0)) (lenW n g g)), ⟨(fun j0 hj0 => (wideQ_new (by omega))), ⟨(by omega), ⟨(rf ((g : Nat) : Int)), ⟨(by omega), ⟨(by omega), ⟨⟨(if_pos rfl).symm, (if_pos rfl).symm⟩, ⟨(fun t ht hne => by rw [if_neg hne, if_neg hne]), ⟨(wI (g := g) (by omega)), ⟨g + 1, (rf m), (leS (fun i0 => .rat (v i0)) m), (rf 0), (rf 0), (rf 0), (rf ((m : Nat) : Int)), (by omega), (rf m), (leS (fun i0 => .sl 3 (fun i1 => .rat (q i0 i1)) n) m), (rf ((n : Nat) : Int)), rfl, (rf m), (fun j0 hj0 => (by first | omega | (split <;> omega))), (rf m), (rf g), (by omega), ⟨(by first | exact lenW_ne (by assumption) | omega), (fun j1 hj1 => rfl)⟩, (fun j0 hj0 hne => ⟨(by first | exact lenW_ne (by assumption) | omega), (fun j1 hj1 => rfl)⟩), (rf 0), (rf ((n + 1 : Nat) : Int)), (by omega), (by omega)⟩⟩⟩⟩⟩⟩⟩⟩⟩⟩⟩⟩⟩⟩⟩⟩, fun hc30 => have hc30 := of_decide_eq_false hc30; have hi2 : g = m := (by omega); ⟨(rf m), (fun j0 hj0 => ⟨(lenW_all (by omega)), (fun j1 hj1 => rfl), (by omega)⟩), (rf ((n + 1 : Nat) : Int)), (rf (true : Bool))⟩⟩⟩⟩⟩⟩⟩⟩⟩⟩⟩
set_option maxRecDepth 100000 in
theorem sMatWithCol_no {q : Nat → Nat → Rat} {v : Nat → Rat} {m n k : Nat} (hk : k ≠ m) : CallOK Try.prog 56 [.agg (.cn (.sl 1 (fun i0 => .sl 3 (fun i1 => .rat (q i0 i1)) n) m) (.cn (.ex (.int .i64 ((n : Nat) : Int))) (.nl))), .sl 3 (fun i0 => .rat (v i0)) k] (.cn (.agg (.cn (.sl 1 (fun _ => .sl 3 (fun _ => .rat 0) 0) 0) (.cn (.ex (.int .i64 ((0 : Nat) : Int))) (.nl)))) (.cn (.ex (.bool false)) (.nl))) [] := by
  exact callOK_P (ch := [.dec 18 true]) hMix Try.func56 rfl (by kernel_rfl) (by kernel_rfl) ((∀ j0, j0 < m → (∀ j1, j1 < n → True)) ∧ (∀ j0, j0 < k → True) ∧ (((!decide (((k : Nat) : Int) = ((m : Nat) : Int))) == false) = true → ((!decide (((k : Nat) : Int) = ((m : Nat) : Int))) == false) = true) ∧ (((!decide (((k : Nat) : Int) = ((m : Nat) : Int))) == false) = true → ((!decide (((k : Nat) : Int) = ((m : Nat) : Int))) == false) = true) ∧ ((!(!decide (((k : Nat) : Int) = ((m : Nat) : Int)))) = true → ((!decide (((k : Nat) : Int) = ((m : Nat) : Int))) == false) = true) ∧ ((bif (!decide (((k : Nat) : Int) = ((m : Nat) : Int))) then true else (decide ((64 : Int) ≤ ((n : Nat) : Int)))) = true) ∧ (_ ∧ ((0 : Int) = ((0 : Nat) : Int)) ∧ _)) (by kernel_rfl)
    ⟨(fun _ _ => (fun _ _ => trivial)), ⟨(fun _ _ => trivial), ⟨id, ⟨id, ⟨(by simp), ⟨(by simp; omega), ⟨(rf 0), (by omega), (rf (false : Bool))⟩⟩⟩⟩⟩⟩⟩
def htq (q : Rat) : Nat := max (nw q.num.natAbs) (nw q.den)
theorem ht_sz (q : Rat) : htq q ≤ szq q := by unfold htq szq; omega
theorem sz_ht (q : Rat) : szq q ≤ 2 * htq q := by unfold htq szq; omega
theorem ht_divInt (a b : Int) (hb : b ≠ 0) : htq (Rat.divInt a b) ≤ max (nw a.natAbs) (nw b.natAbs) := by
  unfold htq
  rw [new_den a b hb, new_num a b hb]
  have e : ∀ (s : Bool) (x : Nat), (signed s x).natAbs = x := fun s x => by cases s <;> simp [signed]
  rw [e]
  have h1 := nw_mono' (Nat.div_le_self a.natAbs (Nat.gcd a.natAbs b.natAbs))
  have h2 := nw_mono' (Nat.div_le_self b.natAbs (Nat.gcd a.natAbs b.natAbs))
  omega
theorem ht_mul (p q : Rat) : htq (p * q) ≤ htq p + htq q := by
  rw [mul_as]
  have h := ht_divInt (p.num * q.num) ((p.den * q.den : Nat) : Int) (den2_ne p q)
  rw [Int.natAbs_mul, Int.natAbs_natCast] at h
  have h1 := nw_mul p.num.natAbs q.num.natAbs
  have h2 := nw_mul p.den q.den
  unfold htq at *
  omega
theorem ht_add (p q : Rat) : htq (p + q) ≤ htq p + htq q + 1 := by
  rw [add_as]
  have h := ht_divInt (p.num * q.den + q.num * p.den) ((p.den * q.den : Nat) : Int) (den2_ne p q)
  rw [Int.natAbs_natCast] at h
  have h0 := nw_mono' (natAbs_add_nat (p.num * q.den) (q.num * p.den))
  rw [Int.natAbs_mul, Int.natAbs_mul, Int.natAbs_natCast, Int.natAbs_natCast] at h0
  have h3 := nw_add (p.num.natAbs * q.den) (q.num.natAbs * p.den)
  have h4 := nw_mul p.num.natAbs q.den
  have h5 := nw_mul q.num.natAbs p.den
  have h2 := nw_mul p.den q.den
  unfold htq at *
  omega
theorem ht_neg (p : Rat) : htq (-p) = htq p := by unfold htq; rw [Rat.neg_num, Rat.neg_den, Int.natAbs_neg]
theorem ht_zero : htq 0 = 1 := by decide +kernel
theorem ht_inv (p : Rat) : htq p⁻¹ ≤ htq p := by
  by_cases h : p = 0
  · rw [h, Rat.inv_zero]; exact Nat.le_refl _
  · rw [Rat.inv_def]
    have h1 : p.num ≠ 0 := fun e => h (Rat.num_eq_zero.1 e)
    have := ht_divInt p.den p.num h1
    rw [Int.natAbs_natCast] at this
    unfold htq at *
    omega
theorem ht_dot {a b : Nat → Rat} {S T : Nat} : ∀ n, (∀ i, i < n → htq (a i) ≤ S) → (∀ i, i < n → htq (b i) ≤ T) → htq (dotQ a b n) ≤ n * (S + T + 1) + 1
  | 0, _, _ => by show htq 0 ≤ _; rw [ht_zero]; omega
  | n + 1, ha, hb => by
    have ih := ht_dot n (fun i hi => ha i (by omega)) (fun i hi => hb i (by omega))
    have h1 := ht_add (dotQ a b n) (a n * b n)
    have h2 := ht_mul (a n) (b n)
    have h3 := ha n (by omega)
    have h4 := hb n (by omega)
    show htq (dotQ a b n + a n * b n) ≤ _
    rw [Nat.add_mul]
    omega
theorem ht_room {a b : Rat} {S : Nat} (ha : htq a ≤ S) (hb : htq b ≤ S) (hS : S ≤ 4294967296) : szq a + szq b ≤ 17179869184 := by
  have := sz_ht a
  have := sz_ht b
  omega
theorem ht_room2 {a b r : Rat} {S : Nat} (ha : htq a ≤ S) (hb : htq b ≤ S) (hr : htq r ≤ S) (hS : S ≤ 1073741824) : szq r + szq b ≤ 17179869184 ∧ szq a + szq (r * b) ≤ 17179869184 := by
  have := sz_ht a
  have := sz_ht b
  have := sz_ht r
  have := sz_ht (r * b)
  have := ht_mul r b
  omega
def hE (s c : Nat) : Nat := (s + 1) * 4 ^ c
theorem hE_succ (s c : Nat) : hE s (c + 1) = 4 * hE s c := by unfold hE; rw [Nat.pow_succ, ← Nat.mul_assoc, Nat.mul_comm]
theorem hE_zero (s : Nat) : hE s 0 = s + 1 := by unfold hE; omega
theorem hE_mono {s c d : Nat} (h : c ≤ d) : hE s c ≤ hE s d := Nat.mul_le_mul_left _ (Nat.pow_le_pow_right (by decide) h)
theorem hE_top {s c d : Nat} (hc : c ≤ d) (t : Nat) (ht : (s + 1) * 4 ^ d ≤ t) : hE s c ≤ t := Nat.le_trans (hE_mono hc) ht
def HtB (m n B : Nat) (A : Nat → Nat → Rat) : Prop := ∀ i, i < m → ∀ j, j < n → htq (A i j) + 1 ≤ B
theorem HtB.swap {m n B k l : Nat} {A : Nat → Nat → Rat} (hk : k < m) (hl : l < m) (h : HtB m n B A) : HtB m n B (swapR A k l) := fun i hi j hj => by
  show htq (A (if i = k then l else if i = l then k else i) j) + 1 ≤ B
  refine h _ ?_ j hj
  split
  · exact hl
  · split
    · exact hk
    · exact hi
theorem HtB.scale {m n B a c : Nat} {A : Nat → Nat → Rat} (ha : a < m) (hc : c < n) (h : HtB m n B A) {j : Nat} (hj : j < n) : htq ((A a c)⁻¹ * A a j) + 2 ≤ 2 * B := by
  have h1 := h a ha c hc
  have h2 := h a ha j hj
  have h3 := ht_mul (A a c)⁻¹ (A a j)
  have h4 := ht_inv (A a c)
  omega
theorem HtB.clear {m n B a c : Nat} {A : Nat → Nat → Rat} (ha : a < m) (hc : c < n) (h : HtB m n B A) : HtB m n (4 * B) (clearQ (scaleQ A a c) a c) := fun i hi j hj => by
  have h1 := h.scale ha hc hj
  unfold clearQ scaleQ setR
  dsimp only
  rw [if_pos rfl]
  split
  · omega
  · have h2 := h i hi j hj
    have h3 := h i hi c hc
    have h4 := ht_add (A i j) (-(A i c) * ((A a c)⁻¹ * A a j))
    have h5 := ht_mul (-(A i c)) ((A a c)⁻¹ * A a j)
    rw [ht_neg] at h5
    omega
theorem red_ht {m n s : Nat} {A : Nat → Nat → Rat} (h : HtB m n (s + 1) A) : ∀ c, c ≤ n → HtB m n (hE s (red m A c).2.1) (red m A c).1
  | 0, _ => by show HtB m n (hE s 0) A; rw [hE_zero]; exact h
  | c + 1, hc => by
    have ih := red_ht h c (by omega)
    have am := (red_inv m A c).am
    show HtB m n (hE s (redStep m (red m A c) c).2.1) (redStep m (red m A c) c).1
    generalize red m A c = S at ih am
    unfold redStep
    have h1 := leadK_le (B := S.1) (c := c) (m - S.2.1) S.2.1
    split
    · rename_i hk
      show HtB m n (hE s (S.2.1 + 1)) (clearQ (scaleQ _ S.2.1 c) S.2.1 c)
      rw [hE_succ]
      exact HtB.clear (by omega) (by omega) (ih.swap (by omega) hk)
    · exact ih
theorem red_htT {m n s : Nat} {A : Nat → Nat → Rat} (h : HtB m n (s + 1) A) {d : Nat} (hd : m ≤ d ∨ n ≤ d) (t : Nat) (ht : (s + 1) * 4 ^ d ≤ t) (c : Nat) (hc : c ≤ n) : HtB m n t (red m A c).1 := fun i hi j hj =>
  Nat.le_trans (red_ht h c hc i hi j hj) (hE_top (by have := (red_inv m A c).am; have := (red_inv m A c).ac; omega) t ht)
def szE (s c : Nat) : Nat := (s + 3) * 9 ^ c
theorem szE_succ (s c : Nat) : szE s (c + 1) = 9 * szE s c := by unfold szE; rw [Nat.pow_succ, ← Nat.mul_assoc, Nat.mul_comm]
theorem szE_ge (s c : Nat) : s + 3 ≤ szE s c := by
  unfold szE
  exact Nat.le_mul_of_pos_right _ (Nat.pow_pos (by decide))
theorem szE_top {s c : Nat} (hs : s ≤ 1000) (hc : c ≤ 6) : szE s c ≤ 533035323 := by
  unfold szE
  have h1 : 9 ^ c ≤ 9 ^ 6 := Nat.pow_le_pow_right (by decide) hc
  calc (s + 3) * 9 ^ c ≤ 1003 * 9 ^ 6 := Nat.mul_le_mul (by omega) h1
    _ = 533035323 := by decide
structure DetI (s n : Nat) (q : Nat → Nat → Rat) (g : Nat × (Nat → Nat → Rat) × Rat) : Prop where
  le : g.1 ≤ n
  eq : g.2.2 * cdet (n - g.1) (blk g.1 g.2.1) = cdet n q
  sz : ∀ i, i < n → ∀ j, j < n → szq (g.2.1 i j) ≤ szE s g.1
  so : szq g.2.2 ≤ 2 + g.1 * szE s g.1
theorem blk_zero (A : Nat → Nat → Rat) : blk 0 A = A := by
  funext i j
  show A (0 + i) (0 + j) = A i j
  rw [Nat.zero_add, Nat.zero_add]
theorem DetI.start {s n : Nat} {q : Nat → Nat → Rat} (hs : ∀ i, i < n → ∀ j, j < n → szq (q i j) ≤ s) : DetI s n q (0, q, 1) :=
  ⟨Nat.zero_le n, by show (1 : Rat) * cdet (n - 0) (blk 0 q) = _; rw [blk_zero, Nat.sub_zero]; grind, fun i hi j hj => Nat.le_trans (hs i hi j hj) (by have := szE_ge s 0; show s ≤ szE s 0; omega), by show szq 1 ≤ 2 + 0 * _; rw [Nat.zero_mul]; decide +kernel⟩
theorem setR_ne {A : Nat → Nat → Rat} {r t : Nat} {x : Nat → Rat} (h : t ≠ r) : setR A r x t = A t := by funext j; exact if_neg h
theorem swap_self {A : Nat → Nat → Rat} {k : Nat} : swapR A k k = A := by
  funext i j
  show A (if i = k then k else if i = k then k else i) j = A i j
  by_cases z : i = k
  · rw [if_pos z, z]
  · rw [if_neg z, if_neg z]
theorem swap_sz {A : Nat → Nat → Rat} {k l n B : Nat} (hk : k < n) (hl : l < n) (h : ∀ i, i < n → ∀ j, j < n → szq (A i j) ≤ B) : ∀ i, i < n → ∀ j, j < n → szq (swapR A k l i j) ≤ B := fun i hi j hj => by
  show szq (A (if i = k then l else if i = l then k else i) j) ≤ B
  refine h _ ?_ j hj
  split
  · exact hl
  · split
    · exact hk
    · exact hi
theorem elim_sz1 {a b c d : Rat} {S : Nat} (h0 : 3 ≤ S) (ha : szq a ≤ S) (hb : szq b ≤ S) (hc : szq c ≤ S) (hd : szq d ≤ S) : szq (b / c) ≤ 2 * S + 1 ∧ szq (-(b / c) * d) ≤ 3 * S + 1 ∧ szq (a + -(b / c) * d) ≤ 9 * S := by
  have h1 : szq (b / c) ≤ 2 * S + 1 := by
    rw [Rat.div_def]
    have := szq_mul b c⁻¹
    have := szq_inv c
    omega
  have h2 : szq (-(b / c) * d) ≤ 3 * S + 1 := by
    have := szq_mul (-(b / c)) d
    rw [szq_neg] at this
    omega
  have h3 := szq_add a (-(b / c) * d)
  exact ⟨h1, h2, by omega⟩
theorem elim_szB {B : Nat → Nat → Rat} {c h n S : Nat} (h0 : 3 ≤ S) (hc : c < n) (hB : ∀ i, i < n → ∀ j, j < n → szq (B i j) ≤ S) : ∀ i, i < n → ∀ j, j < n → szq (elimQ B c h i j) ≤ 9 * S := fun i hi j hj => by
  unfold elimQ
  split
  · exact (elim_sz1 h0 (hB i hi j hj) (hB i hi c hc) (hB c hc c hc) (hB c hc j hj)).2.2
  · have := hB i hi j hj; omega
theorem DetI.next {s n K : Nat} {q : Nat → Nat → Rat} {g : Nat × (Nat → Nat → Rat) × Rat} (H : DetI s n q g) (hc : g.1 < n) (h1 : g.1 ≤ K) (h2 : K < n) (hp : g.2.1 K g.1 ≠ 0) :
    DetI s n q (g.1 + 1, elimQ (swapR g.2.1 g.1 K) g.1 n, (if K = g.1 then g.2.2 else -g.2.2) * swapR g.2.1 g.1 K g.1 g.1) := by
  have hsw := swap_sz hc h2 H.sz
  have h0 : 3 ≤ szE s g.1 := by have := szE_ge s g.1; omega
  have hpp : swapR g.2.1 g.1 K g.1 g.1 ≠ 0 := by
    show g.2.1 (if g.1 = g.1 then K else _) g.1 ≠ 0
    rw [if_pos rfl]; exact hp
  refine ⟨hc, ?_, fun i hi j hj => ?_, ?_⟩
  · refine det_step hc hpp ?_
    by_cases e : K = g.1
    · subst e; rw [if_pos rfl, swap_self]; exact H.eq
    · rw [if_neg e, swap_det (by omega) h2, ← H.eq]; grind
  · rw [szE_succ]; exact elim_szB h0 hc hsw i hi j hj
  · show szq (_ * _) ≤ 2 + (g.1 + 1) * szE s (g.1 + 1)
    have h3 := szq_mul (if K = g.1 then g.2.2 else -g.2.2) (swapR g.2.1 g.1 K g.1 g.1)
    have h4 : szq (if K = g.1 then g.2.2 else -g.2.2) = szq g.2.2 := by split; rfl; exact szq_neg _
    have h5 := hsw g.1 hc g.1 hc
    have h6 := H.so
    rw [szE_succ, Nat.add_mul, Nat.one_mul]
    have h7 : g.1 * szE s g.1 ≤ g.1 * (9 * szE s g.1) := Nat.mul_le_mul_left _ (by omega)
    omega
theorem DetI.none {s n : Nat} {q : Nat → Nat → Rat} {g : Nat × (Nat → Nat → Rat) × Rat} (H : DetI s n q g) (hc : g.1 < n) (h : leadK g.2.1 g.1 g.1 (n - g.1) = n) : cdet n q = 0 := by
  rw [← H.eq]
  exact det_none hc fun i h1 h2 => leadK_none _ _ i h1 (by rw [h]; exact h2)
theorem DetI.done {s n : Nat} {q : Nat → Nat → Rat} {g : Nat × (Nat → Nat → Rat) × Rat} (H : DetI s n q g) (h : g.1 = n) : g.2.2 = cdet n q := by
  rw [← H.eq, h, Nat.sub_self]
  show _ = g.2.2 * 1
  grind
open Go.RowKit
def leadZ (q : Nat → Nat → Rat) (m a c : Nat) : Int := if leadK q c a (m - a) < m then ((leadK q c a (m - a) : Nat) : Int) else -1
theorem leadK_step {q : Nat → Nat → Rat} {m g c : Nat} (hg : g < m) (hz : q g c = 0) : leadK q c g (m - g) = leadK q c (g + 1) (m - (g + 1)) := by
  rw [show m - g = (m - (g + 1)) + 1 by omega]
  exact if_pos hz
theorem leadZ_hit {q : Nat → Nat → Rat} {m a g c : Nat} (hg : g < m) (e : leadK q c a (m - a) = leadK q c g (m - g)) (hz : q g c ≠ 0) : leadZ q m a c = ((g : Nat) : Int) := by
  have : leadK q c g (m - g) = g := by
    rw [show m - g = (m - (g + 1)) + 1 by omega]
    exact if_neg hz
  unfold leadZ
  rw [e, this, if_pos hg]
theorem leadZ_none {q : Nat → Nat → Rat} {m a c : Nat} (e : leadK q c a (m - a) = m) : leadZ q m a c = -1 := by
  unfold leadZ
  rw [e, if_neg (Nat.lt_irrefl m)]
theorem leadZ_pos {q : Nat → Nat → Rat} {m a c : Nat} (h : leadK q c a (m - a) < m) : leadZ q m a c = ((leadK q c a (m - a) : Nat) : Int) := if_pos h
theorem lead_no {q : Nat → Nat → Rat} {m a c : Nat} (h : leadZ q m a c < 0) : ¬ leadK q c a (m - a) < m := fun k => by rw [leadZ_pos k] at h; omega
theorem lead_yes {q : Nat → Nat → Rat} {m a c : Nat} (h : ¬ leadZ q m a c < 0) : leadK q c a (m - a) < m := by
  refine Classical.byContradiction fun k => h ?_
  unfold leadZ
  rw [if_neg k]; decide
theorem red_skip {m g : Nat} {q : Nat → Nat → Rat} (h : ¬ leadK (red m q g).1 g (red m q g).2.1 (m - (red m q g).2.1) < m) : red m q (g + 1) = red m q g := if_neg h
theorem red_step {m g : Nat} {q : Nat → Nat → Rat} (h : leadK (red m q g).1 g (red m q g).2.1 (m - (red m q g).2.1) < m) : red m q (g + 1) = (clearQ (scaleQ (swapR (red m q g).1 (red m q g).2.1 (leadK (red m q g).1 g (red m q g).2.1 (m - (red m q g).2.1))) (red m q g).2.1 g) (red m q g).2.1 g, (red m q g).2.1 + 1, fun i => if i = (red m q g).2.1 then g else (red m q g).2.2 i) := if_pos h
theorem clr_all {B : Nat → Nat → Rat} {a c h r j : Nat} (hr : r < h) : clrP B a c h r j = clearQ B a c r j := by
  unfold clrP clearQ
  by_cases e : r = a
  · rw [if_neg fun h => h.2 e, if_pos e, e]
  · rw [if_pos ⟨hr, e⟩, if_neg e]
theorem red_hit1 {m g h j c : Nat} {q : Nat → Nat → Rat} (k : leadK (red m q g).1 g (red m q g).2.1 (m - (red m q g).2.1) < m) (hj : j < h) : clrP (scaleQ (swapR (red m q g).1 (red m q g).2.1 (leadK (red m q g).1 g (red m q g).2.1 (m - (red m q g).2.1))) (red m q g).2.1 g) (red m q g).2.1 g h j c = (red m q (g + 1)).1 j c := by
  rw [red_step k]
  exact clr_all hj
theorem red_hit2 {m g : Nat} {q : Nat → Nat → Rat} (k : leadK (red m q g).1 g (red m q g).2.1 (m - (red m q g).2.1) < m) : (red m q g).2.1 + 1 = (red m q (g + 1)).2.1 := by rw [red_step k]
theorem red_hit3 {m g : Nat} {q : Nat → Nat → Rat} (k : leadK (red m q g).1 g (red m q g).2.1 (m - (red m q g).2.1) < m) : ∀ j0, j0 < (red m q g).2.1 → (SV.ex (.int .i64 (((red m q (g + 1)).2.2 j0 : Nat) : Int)) : SV) = .ex (.int .i64 (((red m q g).2.2 j0 : Nat) : Int)) := fun j0 hj => by
  rw [red_step k]
  show SV.ex (.int .i64 (((if j0 = (red m q g).2.1 then g else (red m q g).2.2 j0 : Nat) : Int))) = _
  rw [if_neg (by omega)]
theorem red_hit4 {m g : Nat} {q : Nat → Nat → Rat} (k : leadK (red m q g).1 g (red m q g).2.1 (m - (red m q g).2.1) < m) : ∀ j0, j0 < 1 → ((g : Nat) : Int) = (((red m q (g + 1)).2.2 ((red m q g).2.1 + j0) : Nat) : Int) := fun j0 hj => by
  obtain rfl : j0 = 0 := by omega
  rw [red_step k]
  show ((g : Nat) : Int) = (((if (red m q g).2.1 + 0 = (red m q g).2.1 then g else _ : Nat)) : Int)
  rw [if_pos (Nat.add_zero _)]
theorem swap_at {A : Nat → Nat → Rat} {a k c : Nat} : A a c = swapR A a k k c := by
  show A a c = A (if k = a then k else if k = k then a else k) c
  by_cases e : k = a
  · rw [if_pos e, e]
  · rw [if_neg e, if_pos rfl]
theorem swap_other {A : Nat → Nat → Rat} {a k t : Nat} (h : t ≠ k) : swapR A a k t = setR A a (A k) t := by
  funext j
  show A (if t = a then k else if t = k then a else t) j = if t = a then A k j else A t j
  by_cases e : t = a
  · rw [if_pos e, if_pos e]
  · rw [if_neg e, if_neg h, if_neg e]
theorem scale_other {A : Nat → Nat → Rat} {a c t : Nat} (h : t ≠ a) : scaleQ A a c t = A t := setR_ne h
theorem clrP_zero {B : Nat → Nat → Rat} {a c r j : Nat} : B r j = clrP B a c 0 r j := (if_neg fun h => absurd h.1 (Nat.not_lt_zero r)).symm
theorem clrP_self {B : Nat → Nat → Rat} {a c h : Nat} : clrP B a c h a = B a := by funext j; exact if_neg fun h => h.2 rfl
theorem clrP_now {B : Nat → Nat → Rat} {a c h : Nat} : clrP B a c h h = B h := by funext j; exact if_neg fun h => absurd h.1 (Nat.lt_irrefl _)
theorem clrP_ne {B : Nat → Nat → Rat} {a c h t : Nat} (e : t ≠ h) : clrP B a c (h + 1) t = clrP B a c h t := by
  funext j
  unfold clrP
  by_cases q : t < h ∧ t ≠ a
  · rw [if_pos q, if_pos ⟨by omega, q.2⟩]
  · rw [if_neg q, if_neg (by omega)]
theorem clrP_at {B : Nat → Nat → Rat} {a c h j : Nat} (e : h ≠ a) : clrP B a c h h j + -(clrP B a c h h c) * clrP B a c h a j = clrP B a c (h + 1) h j := by
  rw [clrP_now, clrP_self]
  exact (if_pos ⟨Nat.lt_succ_self h, e⟩).symm
theorem clrP_skip {B : Nat → Nat → Rat} {a c h t j : Nat} (z : h = a ∨ clrP B a c h h c = 0) : clrP B a c h t j = clrP B a c (h + 1) t j := by
  by_cases e : t = h
  · subst e
    rw [clrP_now] at z ⊢
    unfold clrP
    by_cases q : t = a
    · rw [if_neg fun k => k.2 q]
    · rw [if_pos ⟨Nat.lt_succ_self t, q⟩, z.resolve_left q]; grind
  · rw [clrP_ne e]
theorem clr_yes {h a : Nat} {x : Rat} (e : (bif !decide (((h : Nat) : Int) = ((a : Nat) : Int)) then !decide (x = 0) else false) = true) : h ≠ a ∧ x ≠ 0 := by
  by_cases q : h = a
  · subst q; simp at e
  · refine ⟨q, fun z => ?_⟩
    subst z; simp at e
theorem clr_no {h a : Nat} {x : Rat} (e : (bif !decide (((h : Nat) : Int) = ((a : Nat) : Int)) then !decide (x = 0) else false) = false) : h = a ∨ x = 0 := by
  by_cases q : h = a
  · exact .inl q
  · refine .inr (Classical.byContradiction fun z => ?_)
    have : ¬ (((h : Nat) : Int) = ((a : Nat) : Int)) := by omega
    simp [this, z] at e
theorem inv_room {m n a c : Nat} {A : Nat → Nat → Rat} (h : HtB m n 100000000 A) (ha : a < m) (hc : c < n) : szq (A a c) ≤ 17179869184 := by
  have := h a ha c hc
  have := sz_ht (A a c)
  omega
theorem scale_room {m n a c : Nat} {A : Nat → Nat → Rat} (h : HtB m n 100000000 A) (ha : a < m) (hc : c < n) : ∀ j, j < n → szq (A a c)⁻¹ + szq (A a j) ≤ 17179869184 := fun j hj => by
  have h1 := h a ha c hc
  have h2 := h a ha j hj
  exact ht_room (S := 100000000) (by have := ht_inv (A a c); omega) (by omega) (by decide)
theorem clr_room {m n a c h : Nat} {A : Nat → Nat → Rat} (H : HtB m n 100000000 A) (ha : a < m) (hc : c < n) (hh : h < m) (e : h ≠ a) : ∀ j, j < n → szq (-(clrP (scaleQ A a c) a c h h c)) + szq (clrP (scaleQ A a c) a c h a j) ≤ 17179869184 ∧ szq (clrP (scaleQ A a c) a c h h j) + szq (-(clrP (scaleQ A a c) a c h h c) * clrP (scaleQ A a c) a c h a j) ≤ 17179869184 := fun j hj => by
  rw [clrP_now, clrP_self, scale_other e]
  have h1 := H.scale ha hc hj
  have h2 := H h hh j hj
  have h3 := H h hh c hc
  have h4 : htq (scaleQ A a c a j) ≤ 200000000 := by
    show htq (if a = a then _ else _) ≤ _
    rw [if_pos rfl]; omega
  exact ht_room2 (S := 200000000) (by omega) h4 (by rw [ht_neg]; omega) (by decide)
set_option maxRecDepth 100000 in
theorem sRowsOf {q : Nat → Nat → Rat} {m n : Nat} (hm : m ≤ 68719476736) (hn : n ≤ 68719476736) : CallOK Try.prog 62 [.agg (.cn (.sl 1 (fun i0 => .sl 3 (fun i1 => .rat (q i0 i1)) n) m) (.cn (.ex (.int .i64 ((n : Nat) : Int))) (.nl)))] (.own 0 0) [.one (.row 48 1 (fun i0 => .sl 3 (fun i1 => .rat (q i0 i1)) n) m)] := by
  exact callOK_P (ch := [.reg 2 [(1, .callS (.ex (.int .i64 ((m : Nat) : Int))) [])], .loop 3 (Nat) (fun g => g ≤ m) (fun g => m - g) (fun g => ⟨[(1, .own 0 0), (3, .own 1 0), (8, .ex (.int .i64 ((m : Nat) : Int))), (9, .ex (.int .i64 ((g : Nat) : Int)))], [(0, .one (.var 28 (.agg (.cn (.sl 1 (fun i0 => .sl 3 (fun i1 => .rat (q i0 i1)) n) m) (.cn (.ex (.int .i64 ((n : Nat) : Int))) (.nl)))))), (1, .one (.row 48 1 (fun i0 => .sl 3 (fun i1 => .rat (q i0 i1)) n) g))], 2⟩) [(0, .id 0), (1, .nil)] (fun _ => [(0, .id 0), (1, .id 2)]) (fun g => [.reg 5 [(2, .callS (.cn (.sl 3 (fun i0 => .rat (q g i0)) n) (.cn (.ex (.bool true)) (.nl))) [])], .reg 6 [(3, .row 0 (fun i0 => .sl 3 (fun i1 => .rat (q i0 i1)) n))], .reg 7 [(0, .z ((g + 1 : Nat) : Int))], .ret 8 [(0, .id 1)]])]) hMix Try.func62 rfl (by kernel_rfl) (by kernel_rfl) ((∀ j0, j0 < m → (∀ j1, j1 < n → True)) ∧ _ ∧ (((fun X1 X2 X3 X4 X5 X6 : Prop => ∃ g0 : Nat, X1 ∧ X2 ∧ X3 ∧ ((0 : Int) = ((g0 : Nat) : Int)) ∧ X4 ∧ X5 ∧ X6 ∧ ((g0 : Nat) = 0) ∧ (g0 ≤ m)) _ _ _ _ _ _) ∧ ∀ g : Nat, (g ≤ m) → (((decide (((g : Nat) : Int) < ((m : Nat) : Int))) = true → _ ∧ (g + 1 ≤ 68719476736) ∧ _ ∧ _ ∧ _ ∧ ((fun X1 X2 X3 X4 X5 X6 X7 : Prop => ∃ g1 : Nat, X1 ∧ X2 ∧ X3 ∧ (((g + 1 : Nat) : Int) = ((g1 : Nat) : Int)) ∧ X4 ∧ X5 ∧ X6 ∧ ((g + 1 : Nat) = g1) ∧ X7 ∧ (g1 ≤ m) ∧ (m - g1 < m - g)) _ _ _ _ _ _ _)) ∧ ((decide (((g : Nat) : Int) < ((m : Nat) : Int))) = false → (_ ∧ ((g : Nat) = m) ∧ _))))) (by kernel_rfl)
    ⟨(fun _ _ => (fun _ _ => trivial)), ⟨sMatRows (m := m) (n := n) (q := q), ⟨⟨0, (rf 0), (rf 0), (rf ((m : Nat) : Int)), (by omega), (rf m), (leS (fun i0 => .sl 3 (fun i1 => .rat (q i0 i1)) n) m), (rf ((n : Nat) : Int)), (by omega), (by omega)⟩, fun g hg => ⟨fun hc10 => have hc10 := of_decide_eq_true hc10; ⟨sMatRow (m := m) (n := n) (r := g) (q := q) (by omega) (by omega), ⟨(by omega), ⟨(oldS (fun i0 => .sl 3 (fun i1 => .rat (q i0 i1)) n) g), ⟨(newS (fun i0 => .sl 3 (fun i1 => .rat (q i0 i1)) n) g), ⟨(wI (g := g) (by omega)), ⟨g + 1, (rf 0), (rf 0), (rf ((m : Nat) : Int)), (by omega), (rf m), (leS (fun i0 => .sl 3 (fun i1 => .rat (q i0 i1)) n) m), (rf ((n : Nat) : Int)), (by omega), (leS (fun i0 => .sl 3 (fun i1 => .rat (q i0 i1)) n) (g + 1)), (by omega), (by omega)⟩⟩⟩⟩⟩⟩, fun hc10 => have hc10 := of_decide_eq_false hc10; have hi2 : g = m := (by omega); ⟨(rf 0), hi2, (leS (fun i0 => .sl 3 (fun i1 => .rat (q i0 i1)) n) g)⟩⟩⟩⟩⟩
set_option maxRecDepth 100000 in
theorem sLead {q : Nat → Nat → Rat} {m n a c : Nat} (hm : m ≤ 68719476736) (ha : a ≤ m) (hc : c < n) : CallOK Try.prog 63 [.sl 1 (fun i0 => .sl 3 (fun i1 => .rat (q i0 i1)) n) m, .ex (.int .i64 ((a : Nat) : Int)), .ex (.int .i64 ((c : Nat) : Int))] (.ex (.int .i64 (leadZ q m a c))) [] := by
  exact callOK_P (ch := [.loop 2 (Nat) (fun g => a ≤ g ∧ g ≤ m ∧ leadK q c a (m - a) = leadK q c g (m - g)) (fun g => m - g) (fun g => ⟨[(0, .sl 1 (fun i0 => .sl 3 (fun i1 => .rat (q i0 i1)) n) m), (2, .ex (.int .i64 ((c : Nat) : Int))), (7, .ex (.int .i64 ((g : Nat) : Int)))], [], 0⟩) [] (fun _ => []) (fun g => [.reg 4 [(2, .k g), (5, .k c), (7, .callS (.ex (.bool (decide (q g c = 0)))) [])], .reg 3 [(1, .z ((g + 1 : Nat) : Int))]])]) hMix Try.func63 rfl (by kernel_rfl) (by kernel_rfl) ((∀ j0, j0 < m → (∀ j1, j1 < n → True)) ∧ (((fun X1 X2 X3 : Prop => ∃ g0 : Nat, X1 ∧ X2 ∧ X3 ∧ (((a : Nat) : Int) = ((g0 : Nat) : Int)) ∧ (a ≤ g0 ∧ g0 ≤ m ∧ leadK q c a (m - a) = leadK q c g0 (m - g0))) _ _ _) ∧ ∀ g : Nat, (a ≤ g ∧ g ≤ m ∧ leadK q c a (m - a) = leadK q c g (m - g)) → (((decide (((g : Nat) : Int) < ((m : Nat) : Int))) = true → _ ∧ (g < m) ∧ _ ∧ (c < n) ∧ _ ∧ (((!(decide (q g c = 0))) = true → ((((g : Nat) : Int) = (leadZ q m a c)))) ∧ ((!(decide (q g c = 0))) = false → _ ∧ ((fun X1 X2 X3 : Prop => ∃ g1 : Nat, X1 ∧ X2 ∧ X3 ∧ (((g + 1 : Nat) : Int) = ((g1 : Nat) : Int)) ∧ (a ≤ g1 ∧ g1 ≤ m ∧ leadK q c a (m - a) = leadK q c g1 (m - g1)) ∧ (m - g1 < m - g)) _ _ _)))) ∧ ((decide (((g : Nat) : Int) < ((m : Nat) : Int))) = false → (((-1 : Int) = (leadZ q m a c))))))) (by kernel_rfl)
    ⟨(fun _ _ => (fun _ _ => trivial)), ⟨⟨a, (rf m), (leS (fun i0 => .sl 3 (fun i1 => .rat (q i0 i1)) n) m), (rf ((c : Nat) : Int)), (by omega), ⟨by omega, by omega, rfl⟩⟩, fun g hg => have hg1 := hg.2.1; ⟨fun hc12 => have hc12 := of_decide_eq_true hc12; ⟨(rf ((g : Nat) : Int)), ⟨(by omega), ⟨(rf ((c : Nat) : Int)), ⟨(by omega), ⟨sRatZero (q := q g c), ⟨fun hc23 => have hz : q g c ≠ 0 := (by simpa using hc23); (leadZ_hit (by omega) hg.2.2 hz).symm, fun hc23 => have hz : q g c = 0 := (by simpa using hc23); ⟨(wI (g := g) (by omega)), ⟨g + 1, (rf m), (leS (fun i0 => .sl 3 (fun i1 => .rat (q i0 i1)) n) m), (rf ((c : Nat) : Int)), (by omega), ⟨by omega, by omega, hg.2.2.trans (leadK_step (by omega) hz)⟩, (by omega)⟩⟩⟩⟩⟩⟩⟩⟩, fun hc12 => have hc12 := of_decide_eq_false hc12; have hi2 : g = m := (by omega); (leadZ_none (hg.2.2.trans (by rw [hi2, Nat.sub_self]; rfl))).symm⟩⟩⟩
set_option maxRecDepth 100000 in
theorem sReduced {q : Nat → Nat → Rat} {m n : Nat} (hm : m ≤ 64) (hn : n ≤ 64) (hs : ∀ c, c ≤ n → HtB m n 100000000 (red m q c).1) : CallOK Try.prog 49 [.agg (.cn (.sl 1 (fun i0 => .sl 3 (fun i1 => .rat (q i0 i1)) n) m) (.cn (.ex (.int .i64 ((n : Nat) : Int))) (.nl)))] (.cn (.agg (.cn (.sl 1 (fun i0 => .sl 3 (fun i1 => .rat (((red m q n).1) i0 i1)) n) m) (.cn (.ex (.int .i64 ((n : Nat) : Int))) (.nl)))) (.cn (.sl 1 (fun i0 => .ex (.int .i64 (((red m q n).2.2 i0 : Nat) : Int))) ((red m q n).2.1)) (.nl))) [] := by
  exact callOK_P (ch := [.reg 1 [(1, .callS (.own 0 0) [.one (.row 48 1 (fun i0 => .sl 3 (fun i1 => .rat (q i0 i1)) n) m)])], .reg 3 [(1, .callS (.ex (.int .i64 ((n : Nat) : Int))) [])], .loop 4 (Nat) (fun g => g ≤ n) (fun g => n - g) (fun g => ⟨[(1, .own 0 0), (2, .own 1 0), (4, .own 2 0), (17, .ex (.int .i64 ((n : Nat) : Int))), (18, .ex (.int .i64 ((g : Nat) : Int))), (5, .own 4 0)], [(0, .one (.var 28 (.agg (.cn (.sl 1 (fun i0 => .sl 3 (fun i1 => .rat (q i0 i1)) n) m) (.cn (.ex (.int .i64 ((n : Nat) : Int))) (.nl)))))), (1, .one (.var 28 (.ex (.agg #[.slice none 0 0, .int .i64 0])))), (2, .one (.row 48 1 (fun i0 => .sl 3 (fun i1 => .rat ((red m q g).1 i0 i1)) n) m)), (4, .one (.row 3 1 (fun i0 => .ex (.int .i64 (((red m q g).2.2 i0 : Nat) : Int))) ((red m q g).2.1)))], 5⟩) [(0, .id 0), (1, .id 1), (2, .id 2), (4, .nil)] (fun _ => [(0, .id 0), (1, .id 1), (2, .id 2), (4, .id 4)]) (fun g => [.reg 7 [(3, .callS (.ex (.int .i64 (leadZ ((red m q g).1) m ((red m q g).2.1) g))) [])], .reg 19 [(0, .z ((g + 1 : Nat) : Int))], .reg 9 [(6, .k (leadK (red m q g).1 g (red m q g).2.1 (m - (red m q g).2.1))), (10, .k ((red m q g).2.1)), (12, .k ((red m q g).2.1)), (13, .row 0 (fun i0 => .sl 3 (fun i1 => .rat ((setR (red m q g).1 (red m q g).2.1 ((red m q g).1 (leadK (red m q g).1 g (red m q g).2.1 (m - (red m q g).2.1)))) i0 i1)) n)), (14, .k (leadK (red m q g).1 g (red m q g).2.1 (m - (red m q g).2.1))), (15, .row 0 (fun i0 => .sl 3 (fun i1 => .rat ((swapR (red m q g).1 (red m q g).2.1 (leadK (red m q g).1 g (red m q g).2.1 (m - (red m q g).2.1))) i0 i1)) n))], .reg 10 [(2, .k ((red m q g).2.1)), (5, .k g), (7, .callS (.cn (.rat (((swapR (red m q g).1 (red m q g).2.1 (leadK (red m q g).1 g (red m q g).2.1 (m - (red m q g).2.1))) ((red m q g).2.1) g)⁻¹)) (.cn (.ex (.bool (!decide (((swapR (red m q g).1 (red m q g).2.1 (leadK (red m q g).1 g (red m q g).2.1 (m - (red m q g).2.1))) ((red m q g).2.1) g) = 0)))) (.nl))) [])], .reg 11 [(5, .k ((red m q g).2.1)), (7, .callS (.sl 3 (fun i0 => .rat ((((swapR (red m q g).1 (red m q g).2.1 (leadK (red m q g).1 g (red m q g).2.1 (m - (red m q g).2.1))) ((red m q g).2.1) g)⁻¹) * ((swapR (red m q g).1 (red m q g).2.1 (leadK (red m q g).1 g (red m q g).2.1 (m - (red m q g).2.1))) ((red m q g).2.1) i0))) n) []), (8, .k ((red m q g).2.1)), (9, .row 0 (fun i0 => .sl 3 (fun i1 => .rat ((scaleQ (swapR (red m q g).1 (red m q g).2.1 (leadK (red m q g).1 g (red m q g).2.1 (m - (red m q g).2.1))) (red m q g).2.1 g) i0 i1)) n))], .loop 13 (Nat) (fun h => h ≤ m) (fun h => m - h) (fun h => ⟨[(1, .own 0 0), (2, .own 1 0), (4, .own 2 0), (17, .ex (.int .i64 ((n : Nat) : Int))), (18, .ex (.int .i64 ((g : Nat) : Int))), (5, .own 4 0), (6, .ex (.int .i64 ((g : Nat) : Int))), (7, .ex (.int .i64 (((red m q g).2.1 : Nat) : Int))), (64, .ex (.int .i64 ((m : Nat) : Int))), (65, .ex (.int .i64 ((h : Nat) : Int)))], [(0, .one (.var 28 (.agg (.cn (.sl 1 (fun i0 => .sl 3 (fun i1 => .rat (q i0 i1)) n) m) (.cn (.ex (.int .i64 ((n : Nat) : Int))) (.nl)))))), (1, .one (.var 28 (.ex (.agg #[.slice none 0 0, .int .i64 0])))), (2, .one (.row 48 1 (fun i0 => .sl 3 (fun i1 => .rat ((clrP (scaleQ (swapR (red m q g).1 (red m q g).2.1 (leadK (red m q g).1 g (red m q g).2.1 (m - (red m q g).2.1))) (red m q g).2.1 g) (red m q g).2.1 g h) i0 i1)) n) m)), (4, .one (.row 3 1 (fun i0 => .ex (.int .i64 (((red m q g).2.2 i0 : Nat) : Int))) ((red m q g).2.1)))], 5⟩) [(0, .id 0), (1, .id 1), (2, .id 2), (4, .id 4)] (fun _ => [(0, .id 0), (1, .id 1), (2, .id 2), (4, .id 4)]) (fun h => [.reg 15 [(6, .k h), (9, .k g), (11, .callS (.ex (.bool (decide ((clrP (scaleQ (swapR (red m q g).1 (red m q g).2.1 (leadK (red m q g).1 g (red m q g).2.1 (m - (red m q g).2.1))) (red m q g).2.1 g) (red m q g).2.1 g h) h g = 0)))) [])], .reg 16 [(4, .k h), (8, .k h), (11, .k g), (13, .callS (.rat (-((clrP (scaleQ (swapR (red m q g).1 (red m q g).2.1 (leadK (red m q g).1 g (red m q g).2.1 (m - (red m q g).2.1))) (red m q g).2.1 g) (red m q g).2.1 g h) h g))) []), (16, .k ((red m q g).2.1)), (18, .callS (.cn (.sl 3 (fun i0 => .rat (((clrP (scaleQ (swapR (red m q g).1 (red m q g).2.1 (leadK (red m q g).1 g (red m q g).2.1 (m - (red m q g).2.1))) (red m q g).2.1 g) (red m q g).2.1 g h) h i0) + (-((clrP (scaleQ (swapR (red m q g).1 (red m q g).2.1 (leadK (red m q g).1 g (red m q g).2.1 (m - (red m q g).2.1))) (red m q g).2.1 g) (red m q g).2.1 g h) h g)) * ((clrP (scaleQ (swapR (red m q g).1 (red m q g).2.1 (leadK (red m q g).1 g (red m q g).2.1 (m - (red m q g).2.1))) (red m q g).2.1 g) (red m q g).2.1 g h) ((red m q g).2.1) i0))) n) (.cn (.ex (.bool true)) (.nl))) []), (22, .k h), (23, .row 0 (fun i0 => .sl 3 (fun i1 => .rat ((clrP (scaleQ (swapR (red m q g).1 (red m q g).2.1 (leadK (red m q g).1 g (red m q g).2.1 (m - (red m q g).2.1))) (red m q g).2.1 g) (red m q g).2.1 g (h + 1)) i0 i1)) n))], .reg 17 [(0, .z ((h + 1 : Nat) : Int))], .reg 17 [(0, .z ((h + 1 : Nat) : Int))], .conv 18 [(0, .id 0), (1, .id 1), (2, .id 2), (3, .id 4)] ⟨[(1, .own 0 0), (2, .own 1 0), (4, .own 2 0), (17, .ex (.int .i64 ((n : Nat) : Int))), (18, .ex (.int .i64 ((g : Nat) : Int))), (5, .own 3 0), (6, .ex (.int .i64 ((g : Nat) : Int)))], [(0, .one (.var 28 (.agg (.cn (.sl 1 (fun i0 => .sl 3 (fun i1 => .rat (q i0 i1)) n) m) (.cn (.ex (.int .i64 ((n : Nat) : Int))) (.nl)))))), (1, .one (.var 28 (.ex (.agg #[.slice none 0 0, .int .i64 0])))), (2, .one (.row 48 1 (fun i0 => .sl 3 (fun i1 => .rat ((red m q (g + 1)).1 i0 i1)) n) m)), (3, .one (.row 3 1 (fun i0 => .ex (.int .i64 (((red m q g).2.2 i0 : Nat) : Int))) ((red m q g).2.1)))], 4⟩, .reg 18 [(3, .row 0 (fun i0 => .ex (.int .i64 (((red m q (g + 1)).2.2 i0 : Nat) : Int))))], .reg 19 [(0, .z ((g + 1 : Nat) : Int))]]), .conv 20 [(0, .id 0), (1, .id 1)] ⟨[(1, .own 0 0), (2, .own 1 0), (4, .sl 1 (fun i0 => .sl 3 (fun i1 => .rat (((red m q n).1) i0 i1)) n) m), (5, .sl 1 (fun i0 => .ex (.int .i64 (((red m q n).2.2 i0 : Nat) : Int))) ((red m q n).2.1))], [(0, .one (.var 28 (.agg (.cn (.sl 1 (fun i0 => .sl 3 (fun i1 => .rat (q i0 i1)) n) m) (.cn (.ex (.int .i64 ((n : Nat) : Int))) (.nl)))))), (1, .one (.var 28 (.ex (.agg #[.slice none 0 0, .int .i64 0]))))], 2⟩, .reg 20 [(1, .callS (.ex (.int .i64 ((n : Nat) : Int))) []), (3, .callS (.cn (.agg (.cn (.sl 1 (fun i0 => .sl 3 (fun i1 => .rat (((red m q n).1) i0 i1)) n) m) (.cn (.ex (.int .i64 ((n : Nat) : Int))) (.nl)))) (.cn (.ex (.bool true)) (.nl))) [])]])]) hMix Try.func49 rfl (by kernel_rfl) (by kernel_rfl) ((∀ j0, j0 < m → (∀ j1, j1 < n → True)) ∧ _ ∧ _ ∧ (((fun X1 X2 X3 X4 X5 X6 X7 X8 X9 : Prop => ∃ g0 : Nat, X1 ∧ X2 ∧ X3 ∧ X4 ∧ ((0 : Int) = ((g0 : Nat) : Int)) ∧ X5 ∧ X6 ∧ X7 ∧ X8 ∧ ((.agg #[.slice none 0 0, .int .i64 0] : Value) = .agg #[.slice none 0 0, .int .i64 0]) ∧ X9 ∧ (∀ j0, j0 < m → ((n : Nat) = n) ∧ (∀ j1, j1 < n → ((q j0 j1 : Rat) = ((red m q g0).1 j0 j1)))) ∧ (((red m q g0).2.1 : Nat) = 0) ∧ (g0 ≤ n)) _ _ _ _ _ _ _ _ _) ∧ ∀ g : Nat, (g ≤ n) → (((decide (((g : Nat) : Int) < ((n : Nat) : Int))) = true → _ ∧ (((decide ((leadZ ((red m q g).1) m ((red m q g).2.1) g : Int) < 0)) = true → _ ∧ ((fun X1 X2 X3 X4 X5 X6 X7 X8 X9 : Prop => ∃ g1 : Nat, X1 ∧ X2 ∧ X3 ∧ X4 ∧ (((g + 1 : Nat) : Int) = ((g1 : Nat) : Int)) ∧ X5 ∧ X6 ∧ X7 ∧ X8 ∧ ((.agg #[.slice none 0 0, .int .i64 0] : Value) = .agg #[.slice none 0 0, .int .i64 0]) ∧ X9 ∧ (∀ j0, j0 < m → ((n : Nat) = n) ∧ (∀ j1, j1 < n → (((red m q g).1 j0 j1 : Rat) = ((red m q g1).1 j0 j1)))) ∧ (((red m q g).2.1 : Nat) = ((red m q g1).2.1)) ∧ (∀ j0, j0 < ((red m q g).2.1) → ((((red m q g).2.2 j0 : Nat) : Int) = (((red m q g1).2.2 j0 : Nat) : Int))) ∧ (g1 ≤ n) ∧ (n - g1 < n - g)) _ _ _ _ _ _ _ _ _)) ∧ ((decide ((leadZ ((red m q g).1) m ((red m q g).2.1) g : Int) < 0)) = false → ((leadZ ((red m q g).1) m ((red m q g).2.1) g : Int) = (((leadK (red m q g).1 g (red m q g).2.1 (m - (red m q g).2.1)) : Nat) : Int)) ∧ ((leadK (red m q g).1 g (red m q g).2.1 (m - (red m q g).2.1)) < m) ∧ ((leadK (red m q g).1 g (red m q g).2.1 (m - (red m q g).2.1)) < m) ∧ _ ∧ (((red m q g).2.1) < m) ∧ (((red m q g).2.1) < m) ∧ _ ∧ (((red m q g).2.1) < m) ∧ (((red m q g).2.1) < m) ∧ (((n : Nat) = n) ∧ (∀ j0, j0 < n → (((red m q g).1 (leadK (red m q g).1 g (red m q g).2.1 (m - (red m q g).2.1)) j0 : Rat) = ((setR (red m q g).1 (red m q g).2.1 ((red m q g).1 (leadK (red m q g).1 g (red m q g).2.1 (m - (red m q g).2.1)))) ((red m q g).2.1) j0)))) ∧ (∀ t, t < m → t ≠ ((red m q g).2.1) → (.sl 3 (fun i0 => .rat ((setR (red m q g).1 (red m q g).2.1 ((red m q g).1 (leadK (red m q g).1 g (red m q g).2.1 (m - (red m q g).2.1)))) t i0)) n : SV) = .sl 3 (fun i0 => .rat ((red m q g).1 t i0)) n) ∧ ((leadZ ((red m q g).1) m ((red m q g).2.1) g : Int) = (((leadK (red m q g).1 g (red m q g).2.1 (m - (red m q g).2.1)) : Nat) : Int)) ∧ ((leadK (red m q g).1 g (red m q g).2.1 (m - (red m q g).2.1)) < m) ∧ ((leadK (red m q g).1 g (red m q g).2.1 (m - (red m q g).2.1)) < m) ∧ (((n : Nat) = n) ∧ (∀ j0, j0 < n → (((red m q g).1 ((red m q g).2.1) j0 : Rat) = ((swapR (red m q g).1 (red m q g).2.1 (leadK (red m q g).1 g (red m q g).2.1 (m - (red m q g).2.1))) (leadK (red m q g).1 g (red m q g).2.1 (m - (red m q g).2.1)) j0)))) ∧ (∀ t, t < m → t ≠ (leadK (red m q g).1 g (red m q g).2.1 (m - (red m q g).2.1)) → (.sl 3 (fun i0 => .rat ((swapR (red m q g).1 (red m q g).2.1 (leadK (red m q g).1 g (red m q g).2.1 (m - (red m q g).2.1))) t i0)) n : SV) = .sl 3 (fun i0 => .rat ((setR (red m q g).1 (red m q g).2.1 ((red m q g).1 (leadK (red m q g).1 g (red m q g).2.1 (m - (red m q g).2.1)))) t i0)) n) ∧ _ ∧ (((red m q g).2.1) < m) ∧ (((red m q g).2.1) < m) ∧ _ ∧ (g < n) ∧ _ ∧ _ ∧ (((red m q g).2.1) < m) ∧ (((red m q g).2.1) < m) ∧ _ ∧ _ ∧ (((red m q g).2.1) < m) ∧ (((red m q g).2.1) < m) ∧ (((n : Nat) = n) ∧ (∀ j0, j0 < n → (((((swapR (red m q g).1 (red m q g).2.1 (leadK (red m q g).1 g (red m q g).2.1 (m - (red m q g).2.1))) ((red m q g).2.1) g)⁻¹) * ((swapR (red m q g).1 (red m q g).2.1 (leadK (red m q g).1 g (red m q g).2.1 (m - (red m q g).2.1))) ((red m q g).2.1) j0) : Rat) = ((scaleQ (swapR (red m q g).1 (red m q g).2.1 (leadK (red m q g).1 g (red m q g).2.1 (m - (red m q g).2.1))) (red m q g).2.1 g) ((red m q g).2.1) j0)))) ∧ (∀ t, t < m → t ≠ ((red m q g).2.1) → (.sl 3 (fun i0 => .rat ((scaleQ (swapR (red m q g).1 (red m q g).2.1 (leadK (red m q g).1 g (red m q g).2.1 (m - (red m q g).2.1))) (red m q g).2.1 g) t i0)) n : SV) = .sl 3 (fun i0 => .rat ((swapR (red m q g).1 (red m q g).2.1 (leadK (red m q g).1 g (red m q g).2.1 (m - (red m q g).2.1))) t i0)) n) ∧ (((fun X1 X2 X3 X4 X5 X6 X7 X8 X9 X10 X11 X12 X13 X14 X15 : Prop => ∃ h0 : Nat, X1 ∧ X2 ∧ X3 ∧ X4 ∧ X5 ∧ X6 ∧ X7 ∧ X8 ∧ X9 ∧ ((0 : Int) = ((h0 : Nat) : Int)) ∧ X10 ∧ X11 ∧ X12 ∧ ((.agg #[.slice none 0 0, .int .i64 0] : Value) = .agg #[.slice none 0 0, .int .i64 0]) ∧ X13 ∧ (∀ j0, j0 < m → ((n : Nat) = n) ∧ (∀ j1, j1 < n → (((scaleQ (swapR (red m q g).1 (red m q g).2.1 (leadK (red m q g).1 g (red m q g).2.1 (m - (red m q g).2.1))) (red m q g).2.1 g) j0 j1 : Rat) = ((clrP (scaleQ (swapR (red m q g).1 (red m q g).2.1 (leadK (red m q g).1 g (red m q g).2.1 (m - (red m q g).2.1))) (red m q g).2.1 g) (red m q g).2.1 g h0) j0 j1)))) ∧ X14 ∧ X15 ∧ (h0 ≤ m)) _ _ _ _ _ _ _ _ _ _ _ _ _ _ _) ∧ ∀ h : Nat, (h ≤ m) → (((decide (((h : Nat) : Int) < ((m : Nat) : Int))) = true → (((!decide (((h : Nat) : Int) = (((red m q g).2.1 : Nat) : Int))) == true) = true → ((!decide (((h : Nat) : Int) = (((red m q g).2.1 : Nat) : Int))) == true) = true) ∧ (((!decide (((h : Nat) : Int) = (((red m q g).2.1 : Nat) : Int))) == true) = true → ((!decide (((h : Nat) : Int) = (((red m q g).2.1 : Nat) : Int))) == true) = true) ∧ (((!decide (((h : Nat) : Int) = (((red m q g).2.1 : Nat) : Int))) == true) = true → _) ∧ (((!decide (((h : Nat) : Int) = (((red m q g).2.1 : Nat) : Int))) == true) = true → h < m) ∧ (((!decide (((h : Nat) : Int) = (((red m q g).2.1 : Nat) : Int))) == true) = true → ((!decide (((h : Nat) : Int) = (((red m q g).2.1 : Nat) : Int))) == true) = true) ∧ (((!decide (((h : Nat) : Int) = (((red m q g).2.1 : Nat) : Int))) == true) = true → h < m) ∧ (((!decide (((h : Nat) : Int) = (((red m q g).2.1 : Nat) : Int))) == true) = true → ((!decide (((h : Nat) : Int) = (((red m q g).2.1 : Nat) : Int))) == true) = true) ∧ (((!decide (((h : Nat) : Int) = (((red m q g).2.1 : Nat) : Int))) == true) = true → ((!decide (((h : Nat) : Int) = (((red m q g).2.1 : Nat) : Int))) == true) = true) ∧ (((!decide (((h : Nat) : Int) = (((red m q g).2.1 : Nat) : Int))) == true) = true → _) ∧ (((!decide (((h : Nat) : Int) = (((red m q g).2.1 : Nat) : Int))) == true) = true → g < n) ∧ (((!decide (((h : Nat) : Int) = (((red m q g).2.1 : Nat) : Int))) == true) = true → ((!decide (((h : Nat) : Int) = (((red m q g).2.1 : Nat) : Int))) == true) = true) ∧ (((!decide (((h : Nat) : Int) = (((red m q g).2.1 : Nat) : Int))) == true) = true → ((!decide (((h : Nat) : Int) = (((red m q g).2.1 : Nat) : Int))) == true) = true) ∧ (((!decide (((h : Nat) : Int) = (((red m q g).2.1 : Nat) : Int))) == true) = true → _) ∧ (((!decide (((h : Nat) : Int) = (((red m q g).2.1 : Nat) : Int))) == true) = true → ((!decide (((h : Nat) : Int) = (((red m q g).2.1 : Nat) : Int))) == true) = true) ∧ ((!decide (((h : Nat) : Int) = (((red m q g).2.1 : Nat) : Int))) = true → ((!decide (((h : Nat) : Int) = (((red m q g).2.1 : Nat) : Int))) == true) = true) ∧ (((bif (!decide (((h : Nat) : Int) = (((red m q g).2.1 : Nat) : Int))) then (!(decide ((clrP (scaleQ (swapR (red m q g).1 (red m q g).2.1 (leadK (red m q g).1 g (red m q g).2.1 (m - (red m q g).2.1))) (red m q g).2.1 g) (red m q g).2.1 g h) h g = 0))) else false) = true → _ ∧ (h < m) ∧ (h < m) ∧ _ ∧ (h < m) ∧ (h < m) ∧ _ ∧ (g < n) ∧ _ ∧ _ ∧ (((red m q g).2.1) < m) ∧ (((red m q g).2.1) < m) ∧ _ ∧ _ ∧ (h < m) ∧ (h < m) ∧ (((n : Nat) = n) ∧ (∀ j0, j0 < n → ((((clrP (scaleQ (swapR (red m q g).1 (red m q g).2.1 (leadK (red m q g).1 g (red m q g).2.1 (m - (red m q g).2.1))) (red m q g).2.1 g) (red m q g).2.1 g h) h j0) + (-((clrP (scaleQ (swapR (red m q g).1 (red m q g).2.1 (leadK (red m q g).1 g (red m q g).2.1 (m - (red m q g).2.1))) (red m q g).2.1 g) (red m q g).2.1 g h) h g)) * ((clrP (scaleQ (swapR (red m q g).1 (red m q g).2.1 (leadK (red m q g).1 g (red m q g).2.1 (m - (red m q g).2.1))) (red m q g).2.1 g) (red m q g).2.1 g h) ((red m q g).2.1) j0) : Rat) = ((clrP (scaleQ (swapR (red m q g).1 (red m q g).2.1 (leadK (red m q g).1 g (red m q g).2.1 (m - (red m q g).2.1))) (red m q g).2.1 g) (red m q g).2.1 g (h + 1)) h j0)))) ∧ (∀ t, t < m → t ≠ h → (.sl 3 (fun i0 => .rat ((clrP (scaleQ (swapR (red m q g).1 (red m q g).2.1 (leadK (red m q g).1 g (red m q g).2.1 (m - (red m q g).2.1))) (red m q g).2.1 g) (red m q g).2.1 g (h + 1)) t i0)) n : SV) = .sl 3 (fun i0 => .rat ((clrP (scaleQ (swapR (red m q g).1 (red m q g).2.1 (leadK (red m q g).1 g (red m q g).2.1 (m - (red m q g).2.1))) (red m q g).2.1 g) (red m q g).2.1 g h) t i0)) n) ∧ _ ∧ ((fun X1 X2 X3 X4 X5 X6 X7 X8 X9 X10 X11 X12 X13 X14 X15 : Prop => ∃ h1 : Nat, X1 ∧ X2 ∧ X3 ∧ X4 ∧ X5 ∧ X6 ∧ X7 ∧ X8 ∧ X9 ∧ (((h + 1 : Nat) : Int) = ((h1 : Nat) : Int)) ∧ X10 ∧ X11 ∧ X12 ∧ ((.agg #[.slice none 0 0, .int .i64 0] : Value) = .agg #[.slice none 0 0, .int .i64 0]) ∧ X13 ∧ (∀ j0, j0 < m → ((n : Nat) = n) ∧ (∀ j1, j1 < n → (((clrP (scaleQ (swapR (red m q g).1 (red m q g).2.1 (leadK (red m q g).1 g (red m q g).2.1 (m - (red m q g).2.1))) (red m q g).2.1 g) (red m q g).2.1 g (h + 1)) j0 j1 : Rat) = ((clrP (scaleQ (swapR (red m q g).1 (red m q g).2.1 (leadK (red m q g).1 g (red m q g).2.1 (m - (red m q g).2.1))) (red m q g).2.1 g) (red m q g).2.1 g h1) j0 j1)))) ∧ X14 ∧ X15 ∧ (h1 ≤ m) ∧ (m - h1 < m - h)) _ _ _ _ _ _ _ _ _ _ _ _ _ _ _)) ∧ ((bif (!decide (((h : Nat) : Int) = (((red m q g).2.1 : Nat) : Int))) then (!(decide ((clrP (scaleQ (swapR (red m q g).1 (red m q g).2.1 (leadK (red m q g).1 g (red m q g).2.1 (m - (red m q g).2.1))) (red m q g).2.1 g) (red m q g).2.1 g h) h g = 0))) else false) = false → _ ∧ ((fun X1 X2 X3 X4 X5 X6 X7 X8 X9 X10 X11 X12 X13 X14 X15 : Prop => ∃ h1 : Nat, X1 ∧ X2 ∧ X3 ∧ X4 ∧ X5 ∧ X6 ∧ X7 ∧ X8 ∧ X9 ∧ (((h + 1 : Nat) : Int) = ((h1 : Nat) : Int)) ∧ X10 ∧ X11 ∧ X12 ∧ ((.agg #[.slice none 0 0, .int .i64 0] : Value) = .agg #[.slice none 0 0, .int .i64 0]) ∧ X13 ∧ (∀ j0, j0 < m → ((n : Nat) = n) ∧ (∀ j1, j1 < n → (((clrP (scaleQ (swapR (red m q g).1 (red m q g).2.1 (leadK (red m q g).1 g (red m q g).2.1 (m - (red m q g).2.1))) (red m q g).2.1 g) (red m q g).2.1 g h) j0 j1 : Rat) = ((clrP (scaleQ (swapR (red m q g).1 (red m q g).2.1 (leadK (red m q g).1 g (red m q g).2.1 (m - (red m q g).2.1))) (red m q g).2.1 g) (red m q g).2.1 g h1) j0 j1)))) ∧ X14 ∧ X15 ∧ (h1 ≤ m) ∧ (m - h1 < m - h)) _ _ _ _ _ _ _ _ _ _ _ _ _ _ _)))) ∧ ((decide (((h : Nat) : Int) < ((m : Nat) : Int))) = false → _ ∧ _ ∧ _ ∧ _ ∧ _ ∧ _ ∧ _ ∧ _ ∧ _ ∧ _ ∧ ((.agg #[.slice none 0 0, .int .i64 0] : Value) = .agg #[.slice none 0 0, .int .i64 0]) ∧ _ ∧ (∀ j0, j0 < m → ((n : Nat) = n) ∧ (∀ j1, j1 < n → (((clrP (scaleQ (swapR (red m q g).1 (red m q g).2.1 (leadK (red m q g).1 g (red m q g).2.1 (m - (red m q g).2.1))) (red m q g).2.1 g) (red m q g).2.1 g h) j0 j1 : Rat) = ((red m q (g + 1)).1 j0 j1)))) ∧ _ ∧ _ ∧ (((red m q g).2.1) + 1 ≤ 68719476736) ∧ (∀ j0, j0 < ((red m q g).2.1) → (.ex (.int .i64 (((red m q (g + 1)).2.2 j0 : Nat) : Int)) : SV) = .ex (.int .i64 (((red m q g).2.2 j0 : Nat) : Int))) ∧ (∀ j0, j0 < 1 → (((g : Nat) : Int) = (((red m q (g + 1)).2.2 (((red m q g).2.1) + j0) : Nat) : Int))) ∧ _ ∧ ((fun X1 X2 X3 X4 X5 X6 X7 X8 X9 : Prop => ∃ g1 : Nat, X1 ∧ X2 ∧ X3 ∧ X4 ∧ (((g + 1 : Nat) : Int) = ((g1 : Nat) : Int)) ∧ X5 ∧ X6 ∧ X7 ∧ X8 ∧ ((.agg #[.slice none 0 0, .int .i64 0] : Value) = .agg #[.slice none 0 0, .int .i64 0]) ∧ X9 ∧ (∀ j0, j0 < m → ((n : Nat) = n) ∧ (∀ j1, j1 < n → (((red m q (g + 1)).1 j0 j1 : Rat) = ((red m q g1).1 j0 j1)))) ∧ ((((red m q g).2.1) + 1 : Nat) = ((red m q g1).2.1)) ∧ (∀ j0, j0 < (((red m q g).2.1) + 1) → ((((red m q (g + 1)).2.2 j0 : Nat) : Int) = (((red m q g1).2.2 j0 : Nat) : Int))) ∧ (g1 ≤ n) ∧ (n - g1 < n - g)) _ _ _ _ _ _ _ _ _))))))) ∧ ((decide (((g : Nat) : Int) < ((n : Nat) : Int))) = false → _ ∧ _ ∧ _ ∧ (∀ j0, j0 < m → ((n : Nat) = n) ∧ (∀ j1, j1 < n → (((red m q g).1 j0 j1 : Rat) = (((red m q n).1) j0 j1)))) ∧ (((red m q g).2.1 : Nat) = ((red m q n).2.1)) ∧ (∀ j0, j0 < ((red m q g).2.1) → ((((red m q g).2.2 j0 : Nat) : Int) = (((red m q n).2.2 j0 : Nat) : Int))) ∧ _ ∧ _ ∧ _ ∧ ((.agg #[.slice none 0 0, .int .i64 0] : Value) = .agg #[.slice none 0 0, .int .i64 0]) ∧ _ ∧ _ ∧ (_ ∧ _ ∧ _ ∧ _ ∧ _))))) (by kernel_rfl)
    ⟨(fun _ _ => (fun _ _ => trivial)), ⟨sRowsOf (m := m) (n := n) (q := q) (by omega) (by omega), ⟨sMatCols (m := m) (n := n) (q := q), ⟨⟨0, (rf 0), (rf 0), (rf 0), (rf ((n : Nat) : Int)), (by omega), (rf 0), (rf m), (leS (fun i0 => .sl 3 (fun i1 => .rat (q i0 i1)) n) m), (rf ((n : Nat) : Int)), rfl, (rf m), (fun j0 hj0 => ⟨rfl, (fun j1 hj1 => rfl)⟩), rfl, (by omega)⟩, fun g hg => have H1 := (red_inv m q g).am; have H2 := (red_inv m q g).ac; ⟨fun hc19 => have hc19 := of_decide_eq_true hc19; ⟨sLead (m := m) (n := n) (a := (red m q g).2.1) (c := g) (q := ((red m q g).1)) (by omega) (by omega) (by omega), ⟨fun hc28 => have hc28 := of_decide_eq_true hc28; have hk2 := lead_no hc28; ⟨(wI (g := g) (by omega)), ⟨g + 1, (rf 0), (rf 0), (rf 0), (rf ((n : Nat) : Int)), (by omega), (rf 0), (rf m), (leS (fun i0 => .sl 3 (fun i1 => .rat (q i0 i1)) n) m), (rf ((n : Nat) : Int)), rfl, (rf m), (fun j0 hj0 => ⟨rfl, (fun j1 hj1 => (by first | rfl | rw [red_skip hk2]))⟩), (by first | exact red_hit2 hk2 | rw [red_skip hk2]), (fun j0 hj0 => (by first | rfl | rw [red_skip hk2])), (by omega), (by omega)⟩⟩, fun hc28 => have hc28 := of_decide_eq_false hc28; have hk2 := lead_yes hc28; have hk1 := leadK_le (B := (red m q g).1) (c := g) (m - (red m q g).2.1) (red m q g).2.1; have ha : (red m q g).2.1 < m := (by omega); have H3 := hs g (by omega); have H4 := H3.swap (k := (red m q g).2.1) ha hk2; have H5 := fun j hj => H4.scale (c := g) (j := j) ha (by omega) hj; ⟨(leadZ_pos hk2), ⟨(by omega), ⟨(by omega), ⟨(rf (((red m q g).2.1 : Nat) : Int)), ⟨(by omega), ⟨(by omega), ⟨(rf (((red m q g).2.1 : Nat) : Int)), ⟨(by omega), ⟨(by omega), ⟨⟨rfl, (fun j0 hj0 => (if_pos rfl).symm)⟩, ⟨(fun t ht hne => by simp only [setR_ne hne]), ⟨(leadZ_pos hk2), ⟨(by omega), ⟨(by omega), ⟨⟨rfl, (fun j0 hj0 => (swap_at))⟩, ⟨(fun t ht hne => by simp only [swap_other hne]), ⟨(rf (((red m q g).2.1 : Nat) : Int)), ⟨(by omega), ⟨(by omega), ⟨(rf ((g : Nat) : Int)), ⟨(by omega), ⟨sRatInv (q := (swapR (red m q g).1 (red m q g).2.1 (leadK (red m q g).1 g (red m q g).2.1 (m - (red m q g).2.1))) ((red m q g).2.1) g) (inv_room H4 ha (by omega)), ⟨(rf (((red m q g).2.1 : Nat) : Int)), ⟨(by omega), ⟨(by omega), ⟨(sVecScale (n := n) (a := (swapR (red m q g).1 (red m q g).2.1 (leadK (red m q g).1 g (red m q g).2.1 (m - (red m q g).2.1))) ((red m q g).2.1)) (r := (((swapR (red m q g).1 (red m q g).2.1 (leadK (red m q g).1 g (red m q g).2.1 (m - (red m q g).2.1))) ((red m q g).2.1) g)⁻¹)) (by omega) (scale_room H4 ha (by omega))).frzV, ⟨(rf (((red m q g).2.1 : Nat) : Int)), ⟨(by omega), ⟨(by omega), ⟨⟨rfl, (fun j0 hj0 => (if_pos rfl).symm)⟩, ⟨(fun t ht hne => by simp only [scale_other hne]), ⟨⟨0, (rf 0), (rf 0), (rf 0), (rf ((n : Nat) : Int)), (rf ((g : Nat) : Int)), (rf 0), (rf ((g : Nat) : Int)), (rf (((red m q g).2.1 : Nat) : Int)), (rf ((m : Nat) : Int)), (by omega), (rf m), (leS (fun i0 => .sl 3 (fun i1 => .rat (q i0 i1)) n) m), (rf ((n : Nat) : Int)), rfl, (rf m), (fun j0 hj0 => ⟨rfl, (fun j1 hj1 => clrP_zero)⟩), (rf ((red m q g).2.1 : Nat)), (leS (fun i0 => .ex (.int .i64 (((red m q g).2.2 i0 : Nat) : Int))) ((red m q g).2.1)), (by omega)⟩, fun h hh => ⟨fun hc66 => have hc66 := of_decide_eq_true hc66; ⟨id, ⟨id, ⟨(fun hg => (rf ((h : Nat) : Int))), ⟨(fun hg => (by omega)), ⟨id, ⟨(fun hg => (by omega)), ⟨id, ⟨id, ⟨(fun hg => (rf ((g : Nat) : Int))), ⟨(fun hg => (by omega)), ⟨id, ⟨id, ⟨(fun hg => sRatZero (q := (clrP (scaleQ (swapR (red m q g).1 (red m q g).2.1 (leadK (red m q g).1 g (red m q g).2.1 (m - (red m q g).2.1))) (red m q g).2.1 g) (red m q g).2.1 g h) h g)), ⟨id, ⟨(by simp), ⟨fun hc81 => have hz := clr_yes hc81; ⟨(rf ((h : Nat) : Int)), ⟨(by omega), ⟨(by omega), ⟨(rf ((h : Nat) : Int)), ⟨(by omega), ⟨(by omega), ⟨(rf ((g : Nat) : Int)), ⟨(by omega), ⟨sRatNeg (q := (clrP (scaleQ (swapR (red m q g).1 (red m q g).2.1 (leadK (red m q g).1 g (red m q g).2.1 (m - (red m q g).2.1))) (red m q g).2.1 g) (red m q g).2.1 g h) h g), ⟨(rf (((red m q g).2.1 : Nat) : Int)), ⟨(by omega), ⟨(by omega), ⟨(sVecAddTimes (a := (clrP (scaleQ (swapR (red m q g).1 (red m q g).2.1 (leadK (red m q g).1 g (red m q g).2.1 (m - (red m q g).2.1))) (red m q g).2.1 g) (red m q g).2.1 g h) h) (b := (clrP (scaleQ (swapR (red m q g).1 (red m q g).2.1 (leadK (red m q g).1 g (red m q g).2.1 (m - (red m q g).2.1))) (red m q g).2.1 g) (red m q g).2.1 g h) ((red m q g).2.1)) (n := n) (r := - ((clrP (scaleQ (swapR (red m q g).1 (red m q g).2.1 (leadK (red m q g).1 g (red m q g).2.1 (m - (red m q g).2.1))) (red m q g).2.1 g) (red m q g).2.1 g h) h g)) (by omega) (clr_room H4 ha (by omega) (by omega) hz.1)).frzV2, ⟨(rf ((h : Nat) : Int)), ⟨(by omega), ⟨(by omega), ⟨⟨rfl, (fun j0 hj0 => (clrP_at hz.1))⟩, ⟨(fun t ht hne => by simp only [clrP_ne hne]), ⟨(wI (g := h) (by omega)), ⟨h + 1, (rf 0), (rf 0), (rf 0), (rf ((n : Nat) : Int)), (rf ((g : Nat) : Int)), (rf 0), (rf ((g : Nat) : Int)), (rf (((red m q g).2.1 : Nat) : Int)), (rf ((m : Nat) : Int)), (by omega), (rf m), (leS (fun i0 => .sl 3 (fun i1 => .rat (q i0 i1)) n) m), (rf ((n : Nat) : Int)), rfl, (rf m), (fun j0 hj0 => ⟨rfl, (fun j1 hj1 => (by first | rfl | exact clrP_skip hz))⟩), (rf ((red m q g).2.1 : Nat)), (leS (fun i0 => .ex (.int .i64 (((red m q g).2.2 i0 : Nat) : Int))) ((red m q g).2.1)), (by omega), (by omega)⟩⟩⟩⟩⟩⟩⟩⟩⟩⟩⟩⟩⟩⟩⟩⟩⟩⟩⟩⟩, fun hc81 => have hz := clr_no hc81; ⟨(wI (g := h) (by omega)), ⟨h + 1, (rf 0), (rf 0), (rf 0), (rf ((n : Nat) : Int)), (rf ((g : Nat) : Int)), (rf 0), (rf ((g : Nat) : Int)), (rf (((red m q g).2.1 : Nat) : Int)), (rf ((m : Nat) : Int)), (by omega), (rf m), (leS (fun i0 => .sl 3 (fun i1 => .rat (q i0 i1)) n) m), (rf ((n : Nat) : Int)), rfl, (rf m), (fun j0 hj0 => ⟨rfl, (fun j1 hj1 => (by first | rfl | exact clrP_skip hz))⟩), (rf ((red m q g).2.1 : Nat)), (leS (fun i0 => .ex (.int .i64 (((red m q g).2.2 i0 : Nat) : Int))) ((red m q g).2.1)), (by omega), (by omega)⟩⟩⟩⟩⟩⟩⟩⟩⟩⟩⟩⟩⟩⟩⟩⟩⟩⟩, fun hc66 => have hc66 := of_decide_eq_false hc66; have hi3 : h = m := (by omega); ⟨(rf 0), ⟨(rf 0), ⟨(rf 0), ⟨(rf ((n : Nat) : Int)), ⟨(rf ((g : Nat) : Int)), ⟨(rf 0), ⟨(rf ((g : Nat) : Int)), ⟨(rf m), ⟨(leS (fun i0 => .sl 3 (fun i1 => .rat (q i0 i1)) n) m), ⟨(rf ((n : Nat) : Int)), ⟨rfl, ⟨(rf m), ⟨(fun j0 hj0 => ⟨rfl, (fun j1 hj1 => (red_hit1 hk2 (by omega)))⟩), ⟨(rf ((red m q g).2.1 : Nat)), ⟨(leS (fun i0 => .ex (.int .i64 (((red m q g).2.2 i0 : Nat) : Int))) ((red m q g).2.1)), ⟨(by omega), ⟨(red_hit3 hk2), ⟨(red_hit4 hk2), ⟨(wI (g := g) (by omega)), ⟨g + 1, (rf 0), (rf 0), (rf 0), (rf ((n : Nat) : Int)), (by omega), (rf 0), (rf m), (leS (fun i0 => .sl 3 (fun i1 => .rat (q i0 i1)) n) m), (rf ((n : Nat) : Int)), rfl, (rf m), (fun j0 hj0 => ⟨rfl, (fun j1 hj1 => (by first | rfl | rw [red_skip hk2]))⟩), (by first | exact red_hit2 hk2 | rw [red_skip hk2]), (fun j0 hj0 => (by first | rfl | rw [red_skip hk2])), (by omega), (by omega)⟩⟩⟩⟩⟩⟩⟩⟩⟩⟩⟩⟩⟩⟩⟩⟩⟩⟩⟩⟩⟩⟩⟩⟩⟩⟩⟩⟩⟩⟩⟩⟩⟩⟩⟩⟩⟩⟩⟩⟩⟩⟩⟩⟩⟩⟩⟩⟩⟩⟩⟩⟩⟩⟩⟩, fun hc19 => have hc19 := of_decide_eq_false hc19; have hi2 : g = n := (by omega); ⟨(rf 0), ⟨(rf 0), ⟨(rf m), ⟨(fun j0 hj0 => ⟨rfl, (fun j1 hj1 => (by rw [hi2]))⟩), ⟨(by rw [hi2]), ⟨(fun j0 hj0 => (by rw [hi2])), ⟨(rf m), ⟨(leS (fun i0 => .sl 3 (fun i1 => .rat (q i0 i1)) n) m), ⟨(rf ((n : Nat) : Int)), ⟨rfl, ⟨sMatCols (m := m) (n := n) (q := q), ⟨(sMatOf (m := m) (n := n) (q := fun r c => ((red m q n).1) r c) (by omega) (by omega)), ⟨(rf m), (leS (fun i0 => .sl 3 (fun i1 => .rat (((red m q n).1) i0 i1)) n) m), (rf ((n : Nat) : Int)), (rf ((red m q n).2.1 : Nat)), (leS (fun i0 => .ex (.int .i64 (((red m q n).2.2 i0 : Nat) : Int))) ((red m q n).2.1))⟩⟩⟩⟩⟩⟩⟩⟩⟩⟩⟩⟩⟩⟩⟩⟩⟩⟩
def frL (a : Nat) (L : Nat → Nat) : Nat → Nat × (Nat → Nat)
  | 0 => (0, fun _ => 0)
  | c + 1 => if cntL a L c < a ∧ L (cntL a L c) = c then frL a L c else ((frL a L c).1 + 1, fun i => if i = (frL a L c).1 then c else (frL a L c).2 i)
theorem cntL_zero {L : Nat → Nat} : ∀ a, cntL a L 0 = 0
  | 0 => rfl
  | a + 1 => by unfold cntL; rw [if_neg (Nat.not_lt_zero _)]; exact cntL_zero a
structure LeadsOK (a n : Nat) (L : Nat → Nat) : Prop where
  inc : ∀ i j, i < j → j < a → L i < L j
  lt : ∀ i, i < a → L i < n
theorem RedInv.leads {m n : Nat} {A : Nat → Nat → Rat} {s : RedS} (H : RedInv m A n s) : LeadsOK s.2.1 n s.2.2 := ⟨H.inc, H.lt⟩
section
variable {a n c : Nat} {L : Nat → Nat}
theorem cnt_hit (H : LeadsOK a n L) (h : cntL a L c < a ∧ L (cntL a L c) = c) : cntL a L (c + 1) = cntL a L c + 1 := by
  have h1 := cntL_lt (c := c) a H.inc
  refine cntL_eq H.inc h.1 fun i hi => ?_
  have := h1 i hi
  by_cases e : i = cntL a L c
  · subst e; rw [h.2]; omega
  · rcases Nat.lt_or_gt_of_ne e with q | q
    · have := this.1 q; omega
    · have := H.inc _ _ q hi; omega
theorem cnt_miss (H : LeadsOK a n L) (h : ¬ (cntL a L c < a ∧ L (cntL a L c) = c)) : cntL a L (c + 1) = cntL a L c := by
  have h1 := cntL_lt (c := c) a H.inc
  refine cntL_eq H.inc (cntL_le a) fun i hi => ?_
  have := h1 i hi
  constructor
  · intro q; have := this.1 q; omega
  · intro q
    refine Classical.byContradiction fun k => ?_
    have e : L i = c := by have := mt this.2 k; omega
    by_cases z : i = cntL a L c
    · exact h ⟨by omega, by rw [← z]; exact e⟩
    · have h2 := H.inc (cntL a L c) i (by omega) hi
      have := (h1 (cntL a L c) (by omega)).2 (by omega)
      omega
theorem fr_hit (h : cntL a L c < a ∧ L (cntL a L c) = c) : frL a L (c + 1) = frL a L c := if_pos h
theorem fr_miss (h : ¬ (cntL a L c < a ∧ L (cntL a L c) = c)) : frL a L (c + 1) = ((frL a L c).1 + 1, fun i => if i = (frL a L c).1 then c else (frL a L c).2 i) := if_neg h
theorem miss_ne (H : LeadsOK a n L) (h : ¬ (cntL a L c < a ∧ L (cntL a L c) = c)) : ∀ i, i < a → L i ≠ c := fun i hi e => by
  have h1 := cntL_lt (c := c) a H.inc
  by_cases z : i = cntL a L c
  · exact h ⟨by omega, by rw [← z]; exact e⟩
  · rcases Nat.lt_or_gt_of_ne z with q | q
    · have := (h1 i hi).1 q; omega
    · have := H.inc (cntL a L c) i q hi
      have := (h1 (cntL a L c) (by omega)).2 (by omega); omega
theorem fr_inv (H : LeadsOK a n L) : ∀ c, c ≤ n → cntL a L c + (frL a L c).1 = c ∧ (∀ i, i < (frL a L c).1 → (frL a L c).2 i < c ∧ ∀ k, k < a → L k ≠ (frL a L c).2 i) ∧ (∀ i j, i < j → j < (frL a L c).1 → (frL a L c).2 i < (frL a L c).2 j) ∧ ∀ x, x < c → (∀ k, k < a → L k ≠ x) → ∃ i, i < (frL a L c).1 ∧ (frL a L c).2 i = x
  | 0, _ => ⟨by rw [cntL_zero]; rfl, fun i hi => absurd hi (Nat.not_lt_zero i), fun i j _ hj => absurd hj (Nat.not_lt_zero j), fun x hx => absurd hx (Nat.not_lt_zero x)⟩
  | c + 1, hc => by
    obtain ⟨h1, h2, h3, h4⟩ := fr_inv H c (by omega)
    by_cases h : cntL a L c < a ∧ L (cntL a L c) = c
    · rw [cnt_hit H h, fr_hit h]
      refine ⟨by omega, fun i hi => ⟨by have := (h2 i hi).1; omega, (h2 i hi).2⟩, h3, fun x hx hn => ?_⟩
      by_cases e : x = c
      · exact absurd (h.2.trans e.symm) (hn _ h.1)
      · exact h4 x (by omega) hn
    · rw [cnt_miss H h, fr_miss h]
      refine ⟨by show _ + (_ + 1) = _; omega, fun i hi => ?_, fun i j hij hj => ?_, fun x hx hn => ?_⟩
      · show (if i = (frL a L c).1 then c else (frL a L c).2 i) < c + 1 ∧ ∀ k, k < a → L k ≠ (if i = (frL a L c).1 then c else (frL a L c).2 i)
        have hi : i < (frL a L c).1 + 1 := hi
        by_cases e : i = (frL a L c).1
        · rw [if_pos e]; exact ⟨Nat.lt_succ_self c, miss_ne H h⟩
        · rw [if_neg e]; have := h2 i (by omega); exact ⟨by omega, this.2⟩
      · show (if i = (frL a L c).1 then c else (frL a L c).2 i) < (if j = (frL a L c).1 then c else (frL a L c).2 j)
        have hj : j < (frL a L c).1 + 1 := hj
        rw [if_neg (by omega)]
        by_cases e : j = (frL a L c).1
        · rw [if_pos e]; exact (h2 i (by omega)).1
        · rw [if_neg e]; exact h3 i j hij (by omega)
      · by_cases e : x = c
        · exact ⟨(frL a L c).1, Nat.lt_succ_self _, by show (if (frL a L c).1 = (frL a L c).1 then c else _) = x; rw [if_pos rfl, e]⟩
        · obtain ⟨i, hi, q⟩ := h4 x (by omega) hn
          exact ⟨i, Nat.lt_succ_of_lt hi, by show (if i = (frL a L c).1 then c else _) = x; rw [if_neg (by omega)]; exact q⟩
end
def solP (s : RedS) (n k j : Nat) : Rat := sumQ (fun r => if s.2.2 r = j then s.1 r n else 0) k
theorem solP_zero {s : RedS} {n j : Nat} : (0 : Rat) = solP s n 0 j := rfl
theorem solP_at {m c n : Nat} {A : Nat → Nat → Rat} {s : RedS} (H : RedInv m A c s) {k : Nat} (hk : k < s.2.1) : s.1 k n = solP s n (k + 1) (s.2.2 k) := by
  show _ = sumQ _ k + (if s.2.2 k = s.2.2 k then _ else _)
  rw [if_pos rfl, sumQ_congr k (g := fun _ => 0) fun i hi => if_neg fun e => absurd (H.inj (by omega) hk e) (by omega), sumQ_zero]; grind
theorem solP_ne {s : RedS} {n k j : Nat} (h : j ≠ s.2.2 k) : solP s n (k + 1) j = solP s n k j := by
  show solP s n k j + (if s.2.2 k = j then _ else _) = _
  rw [if_neg (Ne.symm h)]; grind
def kerP (s : RedS) (c k j : Nat) : Rat := (if j = c then 1 else 0) + sumQ (fun r => if s.2.2 r = j then - s.1 r c else 0) k
theorem kerP_zero {s : RedS} {c j : Nat} : (if j = c then 1 else 0 : Rat) = kerP s c 0 j := by unfold kerP; show _ = _ + (0 : Rat); grind
theorem kerP_at {m n c : Nat} {A : Nat → Nat → Rat} {s : RedS} (H : RedInv m A n s) {k : Nat} (hk : k < s.2.1) (hc : ∀ i, i < s.2.1 → s.2.2 i ≠ c) : -(s.1 k c) = kerP s c (k + 1) (s.2.2 k) := by
  show _ = (if s.2.2 k = c then (1 : Rat) else 0) + (sumQ _ k + (if s.2.2 k = s.2.2 k then _ else _))
  rw [if_pos rfl, if_neg (hc k hk), sumQ_congr k (g := fun _ => 0) fun i hi => if_neg fun e => absurd (H.inj (by omega) hk e) (by omega), sumQ_zero]; grind
theorem kerP_ne {s : RedS} {c k j : Nat} (h : j ≠ s.2.2 k) : kerP s c (k + 1) j = kerP s c k j := by
  show (if j = c then (1 : Rat) else 0) + (sumQ _ k + (if s.2.2 k = j then _ else _)) = _
  rw [if_neg (Ne.symm h)]; unfold kerP; grind
open Go.RowKit
theorem of_guard {P : Prop} [Decidable P] (h : (decide P == true) = true) : P := by simpa using h
theorem swap_same {A : Nat → Nat → Rat} {a k i j : Nat} (h : k = a) : swapR A a k i j = A i j := by rw [h, swap_self]
theorem ne_of_bool {z : Int} {k g : Nat} (e : z = ((k : Nat) : Int)) (h : (!decide (z = ((g : Nat) : Int))) = true) : k ≠ g := by rintro rfl; simp [e] at h
theorem eq_of_bool {z : Int} {k g : Nat} (e : z = ((k : Nat) : Int)) (h : (!decide (z = ((g : Nat) : Int))) = false) : k = g := by
  have h2 : z = ((g : Nat) : Int) := by simpa using h
  omega
theorem elim_now {B : Nat → Nat → Rat} {c h j : Nat} (hc : c < h) : elimQ B c h h j + -(elimQ B c h h c / elimQ B c h c c) * elimQ B c h c j = elimQ B c (h + 1) h j := by
  rw [elimQ_end (Nat.le_refl h), elimQ_top (Nat.le_refl c)]
  exact elimQ_at hc
theorem DetI.room {s n K : Nat} {q : Nat → Nat → Rat} {g : Nat × (Nat → Nat → Rat) × Rat} (H : DetI s n q g) (hn : n ≤ 6) (hs : s ≤ 1000) (hc : g.1 < n) (hK : K < n) :
    szq (if K = g.1 then g.2.2 else -g.2.2) + szq (swapR g.2.1 g.1 K g.1 g.1) ≤ 17179869184 ∧
    (∀ h, g.1 < h → h < n → szq (elimQ (swapR g.2.1 g.1 K) g.1 h h g.1) + szq (elimQ (swapR g.2.1 g.1 K) g.1 h g.1 g.1) + 1 ≤ 17179869184) ∧
    ∀ h, g.1 < h → h < n → ∀ j, j < n → szq (-(elimQ (swapR g.2.1 g.1 K) g.1 h h g.1 / elimQ (swapR g.2.1 g.1 K) g.1 h g.1 g.1)) + szq (elimQ (swapR g.2.1 g.1 K) g.1 h g.1 j) ≤ 17179869184 ∧ szq (elimQ (swapR g.2.1 g.1 K) g.1 h h j) + szq (-(elimQ (swapR g.2.1 g.1 K) g.1 h h g.1 / elimQ (swapR g.2.1 g.1 K) g.1 h g.1 g.1) * elimQ (swapR g.2.1 g.1 K) g.1 h g.1 j) ≤ 17179869184 := by
  have hsw := swap_sz hc hK H.sz
  have ht := szE_top (c := g.1) hs (by omega)
  have h0 : 3 ≤ szE s g.1 := by have := szE_ge s g.1; omega
  have ho := H.so
  have hm : g.1 * szE s g.1 ≤ 6 * 533035323 := Nat.mul_le_mul (by omega) ht
  refine ⟨?_, fun h h1 h2 => ?_, fun h h1 h2 j hj => ?_⟩
  · have h4 : szq (if K = g.1 then g.2.2 else -g.2.2) = szq g.2.2 := by split; rfl; exact szq_neg _
    have := hsw g.1 hc g.1 hc
    omega
  · rw [elimQ_end (Nat.le_refl h), elimQ_top (Nat.le_refl g.1)]
    have := hsw h h2 g.1 hc
    have := hsw g.1 hc g.1 hc
    omega
  · rw [elimQ_end (Nat.le_refl h), elimQ_top (Nat.le_refl g.1)]
    have e := elim_sz1 h0 (hsw h h2 j hj) (hsw h h2 g.1 hc) (hsw g.1 hc g.1 hc) (hsw g.1 hc j hj)
    have := hsw g.1 hc j hj
    have := hsw h h2 j hj
    rw [szq_neg]
    omega
theorem sol_lt {m n : Nat} {q : Nat → Nat → Rat} {b : Nat → Rat} (h : ¬ noSol m n q b) : ∀ i, i < (red m (wideQ n q b) (n + 1)).2.1 → (red m (wideQ n q b) (n + 1)).2.2 i < n := fun i hi => by
  rw [red_some h] at hi ⊢
  exact (red_inv m (wideQ n q b) n).lt i hi
theorem sol_test {a n : Nat} {L : Nat → Nat} (h : ∀ i, i < a → L i < n) : (bif decide ((0 : Int) < ((a : Nat) : Int)) then decide (((L (a - 1) : Nat) : Int) = ((n : Nat) : Int)) else false) = false := by
  by_cases e : a = 0
  · subst e; rfl
  · have := h (a - 1) (by omega)
    have h2 : ¬ (((L (a - 1) : Nat) : Int) = ((n : Nat) : Int)) := by omega
    simp [h2]
theorem ker_yes {x a c : Nat} {L : Nat → Nat} (h : (bif decide (((x : Nat) : Int) < ((a : Nat) : Int)) then decide (((L x : Nat) : Int) = ((c : Nat) : Int)) else false) = true) : x < a ∧ L x = c := by
  obtain ⟨h1, h2⟩ := bif_true h
  exact ⟨by omega, by omega⟩
theorem ker_no {x a c : Nat} {L : Nat → Nat} (h : (bif decide (((x : Nat) : Int) < ((a : Nat) : Int)) then decide (((L x : Nat) : Int) = ((c : Nat) : Int)) else false) = false) : ¬ (x < a ∧ L x = c) := fun ⟨h1, h2⟩ => bif_false h ⟨by omega, by omega⟩
theorem ker_old {s : RedS} {c n : Nat} (h : ¬ (cntL s.2.1 s.2.2 c < s.2.1 ∧ s.2.2 (cntL s.2.1 s.2.2 c) = c)) : ∀ j0, j0 < (frL s.2.1 s.2.2 c).1 → (SV.sl 3 (fun i1 => .rat (kerQ s ((frL s.2.1 s.2.2 (c + 1)).2 j0) i1)) n : SV) = .sl 3 (fun i1 => .rat (kerQ s ((frL s.2.1 s.2.2 c).2 j0) i1)) n := fun j0 hj => by
  rw [fr_miss h]
  have e : (((frL s.2.1 s.2.2 c).1 + 1, fun i => if i = (frL s.2.1 s.2.2 c).1 then c else (frL s.2.1 s.2.2 c).2 i) : Nat × (Nat → Nat)).2 j0 = (frL s.2.1 s.2.2 c).2 j0 := if_neg (by omega)
  rw [e]
theorem ker_new {s : RedS} {c n : Nat} (h : ¬ (cntL s.2.1 s.2.2 c < s.2.1 ∧ s.2.2 (cntL s.2.1 s.2.2 c) = c)) : ∀ j0, j0 < 1 → (n : Nat) = n ∧ ∀ j1, j1 < n → (kerQ s c j1 : Rat) = kerQ s ((frL s.2.1 s.2.2 (c + 1)).2 ((frL s.2.1 s.2.2 c).1 + j0)) j1 := fun j0 hj => by
  obtain rfl : j0 = 0 := by omega
  refine ⟨rfl, fun j1 _ => ?_⟩
  rw [fr_miss h]
  have e : (((frL s.2.1 s.2.2 c).1 + 1, fun i => if i = (frL s.2.1 s.2.2 c).1 then c else (frL s.2.1 s.2.2 c).2 i) : Nat × (Nat → Nat)).2 ((frL s.2.1 s.2.2 c).1 + 0) = c := if_pos (Nat.add_zero _)
  rw [e]
set_option maxRecDepth 100000 in
theorem sRank {q : Nat → Nat → Rat} {m n : Nat} (hm : m ≤ 64) (hn : n ≤ 64) (hs : ∀ c, c ≤ n → HtB m n 100000000 (red m q c).1) : CallOK Try.prog 54 [.agg (.cn (.sl 1 (fun i0 => .sl 3 (fun i1 => .rat (q i0 i1)) n) m) (.cn (.ex (.int .i64 ((n : Nat) : Int))) (.nl)))] (.ex (.int .i64 (((red m q n).2.1 : Nat) : Int))) [] := by
  exact callOK_P (ch := [.reg 1 [(1, .callS (.cn (.agg (.cn (.sl 1 (fun i0 => .sl 3 (fun i1 => .rat (((red m q n).1) i0 i1)) n) m) (.cn (.ex (.int .i64 ((n : Nat) : Int))) (.nl)))) (.cn (.sl 1 (fun i0 => .ex (.int .i64 (((red m q n).2.2 i0 : Nat) : Int))) ((red m q n).2.1)) (.nl))) [])]]) hMix Try.func54 rfl (by kernel_rfl) (by kernel_rfl) ((∀ j0, j0 < m → (∀ j1, j1 < n → True)) ∧ _ ∧ (_)) (by kernel_rfl)
    ⟨(fun _ _ => (fun _ _ => trivial)), ⟨sReduced (m := m) (n := n) (q := q) (by omega) (by omega) (by assumption), (rf (((red m q n).2.1 : Nat) : Int))⟩⟩
set_option maxRecDepth 100000 in
theorem sDet {q : Nat → Nat → Rat} {n s : Nat} (hn : n ≤ 6) (h1 : s ≤ 1000) (hs : ∀ i, i < n → ∀ j, j < n → szq (q i j) ≤ s) : CallOK Try.prog 13 [.agg (.cn (.sl 1 (fun i0 => .sl 3 (fun i1 => .rat (q i0 i1)) n) n) (.cn (.ex (.int .i64 ((n : Nat) : Int))) (.nl)))] (.cn (.rat (cdet n q)) (.cn (.ex (.bool true)) (.nl))) [] := by
  exact callOK_P (ch := [.reg 1 [(1, .callS (.ex (.int .i64 ((n : Nat) : Int))) []), (3, .callS (.ex (.int .i64 ((n : Nat) : Int))) [])], .dec 15 false, .reg 3 [(1, .callS (.own 0 0) [.one (.row 48 1 (fun i0 => .sl 3 (fun i1 => .rat (q i0 i1)) n) n)])], .reg 4 [(0, .callS (.rat ((1 : Int) : Rat)) [])], .loop 6 (Nat × (Nat → Nat → Rat) × Rat) (fun g => DetI s n q g) (fun g => n - g.1) (fun g => ⟨[(2, .own 1 0), (4, .own 2 0), (5, .own 3 0), (21, .ex (.int .i64 ((n : Nat) : Int))), (22, .ex (.int .i64 ((g.1 : Nat) : Int)))], [(0, .one (.var 28 (.agg (.cn (.sl 1 (fun i0 => .sl 3 (fun i1 => .rat (q i0 i1)) n) n) (.cn (.ex (.int .i64 ((n : Nat) : Int))) (.nl)))))), (1, .one (.var 36 (.ex (.agg #[.bool false, .slice none 0 0, .slice none 0 0])))), (2, .one (.row 48 1 (fun i0 => .sl 3 (fun i1 => .rat (g.2.1 i0 i1)) n) n)), (3, .one (.var 36 (.rat g.2.2)))], 4⟩) [(0, .id 0), (1, .id 1), (2, .id 2), (3, .id 3)] (fun _ => [(0, .id 0), (1, .id 1), (2, .id 2), (3, .id 3)]) (fun g => [.reg 8 [(3, .callS (.ex (.int .i64 (leadZ g.2.1 n g.1 g.1))) [])], .reg 12 [(6, .k (leadK g.2.1 g.1 g.1 (n - g.1))), (10, .k g.1), (12, .k g.1), (13, .row 0 (fun i0 => .sl 3 (fun i1 => .rat ((setR g.2.1 g.1 (g.2.1 (leadK g.2.1 g.1 g.1 (n - g.1)))) i0 i1)) n)), (14, .k (leadK g.2.1 g.1 g.1 (n - g.1))), (15, .row 0 (fun i0 => .sl 3 (fun i1 => .rat ((swapR g.2.1 g.1 (leadK g.2.1 g.1 g.1 (n - g.1))) i0 i1)) n))], .reg 13 [(1, .callS (.rat (-g.2.2)) [])], .conv 14 [(0, .id 0), (1, .id 1), (2, .id 2), (3, .id 3)] ⟨[(2, .own 1 0), (4, .own 2 0), (5, .own 3 0), (21, .ex (.int .i64 ((n : Nat) : Int))), (22, .ex (.int .i64 ((g.1 : Nat) : Int))), (6, .ex (.int .i64 ((g.1 : Nat) : Int)))], [(0, .one (.var 28 (.agg (.cn (.sl 1 (fun i0 => .sl 3 (fun i1 => .rat (q i0 i1)) n) n) (.cn (.ex (.int .i64 ((n : Nat) : Int))) (.nl)))))), (1, .one (.var 36 (.ex (.agg #[.bool false, .slice none 0 0, .slice none 0 0])))), (2, .one (.row 48 1 (fun i0 => .sl 3 (fun i1 => .rat ((swapR g.2.1 g.1 (leadK g.2.1 g.1 g.1 (n - g.1))) i0 i1)) n) n)), (3, .one (.var 36 (.rat (if leadK g.2.1 g.1 g.1 (n - g.1) = g.1 then g.2.2 else -g.2.2))))], 4⟩, .reg 14 [(3, .k g.1), (6, .k g.1), (8, .callS (.rat ((if leadK g.2.1 g.1 g.1 (n - g.1) = g.1 then g.2.2 else -g.2.2) * ((swapR g.2.1 g.1 (leadK g.2.1 g.1 g.1 (n - g.1))) g.1 g.1))) [])], .reg 15 [(1, .z ((g.1 + 1 : Nat) : Int))], .loop 16 (Nat) (fun h => g.1 + 1 ≤ h ∧ h ≤ n) (fun h => n - h) (fun h => ⟨[(2, .own 1 0), (4, .own 2 0), (5, .own 3 0), (21, .ex (.int .i64 ((n : Nat) : Int))), (22, .ex (.int .i64 ((g.1 : Nat) : Int))), (6, .ex (.int .i64 ((g.1 : Nat) : Int))), (8, .ex (.int .i64 ((h : Nat) : Int)))], [(0, .one (.var 28 (.agg (.cn (.sl 1 (fun i0 => .sl 3 (fun i1 => .rat (q i0 i1)) n) n) (.cn (.ex (.int .i64 ((n : Nat) : Int))) (.nl)))))), (1, .one (.var 36 (.ex (.agg #[.bool false, .slice none 0 0, .slice none 0 0])))), (2, .one (.row 48 1 (fun i0 => .sl 3 (fun i1 => .rat ((elimQ (swapR g.2.1 g.1 (leadK g.2.1 g.1 g.1 (n - g.1))) g.1 h) i0 i1)) n) n)), (3, .one (.var 36 (.rat ((if leadK g.2.1 g.1 g.1 (n - g.1) = g.1 then g.2.2 else -g.2.2) * (swapR g.2.1 g.1 (leadK g.2.1 g.1 g.1 (n - g.1))) g.1 g.1))))], 4⟩) [(0, .id 0), (1, .id 1), (2, .id 2), (3, .id 3)] (fun _ => [(0, .id 0), (1, .id 1), (2, .id 2), (3, .id 3)]) (fun h => [.reg 18 [(2, .k h), (5, .k g.1), (9, .k g.1), (12, .k g.1), (14, .callS (.cn (.rat (((elimQ (swapR g.2.1 g.1 (leadK g.2.1 g.1 g.1 (n - g.1))) g.1 h) h g.1) / ((elimQ (swapR g.2.1 g.1 (leadK g.2.1 g.1 g.1 (n - g.1))) g.1 h) g.1 g.1))) (.cn (.ex (.bool (!decide (((elimQ (swapR g.2.1 g.1 (leadK g.2.1 g.1 g.1 (n - g.1))) g.1 h) g.1 g.1) = 0)))) (.nl))) [])], .reg 19 [(4, .k h), (7, .callS (.rat (-(((elimQ (swapR g.2.1 g.1 (leadK g.2.1 g.1 g.1 (n - g.1))) g.1 h) h g.1) / ((elimQ (swapR g.2.1 g.1 (leadK g.2.1 g.1 g.1 (n - g.1))) g.1 h) g.1 g.1)))) []), (10, .k g.1), (12, .callS (.cn (.sl 3 (fun i0 => .rat (((elimQ (swapR g.2.1 g.1 (leadK g.2.1 g.1 g.1 (n - g.1))) g.1 h) h i0) + (-(((elimQ (swapR g.2.1 g.1 (leadK g.2.1 g.1 g.1 (n - g.1))) g.1 h) h g.1) / ((elimQ (swapR g.2.1 g.1 (leadK g.2.1 g.1 g.1 (n - g.1))) g.1 h) g.1 g.1))) * ((elimQ (swapR g.2.1 g.1 (leadK g.2.1 g.1 g.1 (n - g.1))) g.1 h) g.1 i0))) n) (.cn (.ex (.bool true)) (.nl))) []), (16, .k h), (17, .row 0 (fun i0 => .sl 3 (fun i1 => .rat ((elimQ (swapR g.2.1 g.1 (leadK g.2.1 g.1 g.1 (n - g.1))) g.1 (h + 1)) i0 i1)) n))], .reg 17 [(1, .z ((h + 1 : Nat) : Int))], .reg 20 [(0, .z ((g.1 + 1 : Nat) : Int))]]), .conv 14 [(0, .id 0), (1, .id 1), (2, .id 2), (3, .id 3)] ⟨[(2, .own 1 0), (4, .own 2 0), (5, .own 3 0), (21, .ex (.int .i64 ((n : Nat) : Int))), (22, .ex (.int .i64 ((g.1 : Nat) : Int))), (6, .ex (.int .i64 ((g.1 : Nat) : Int)))], [(0, .one (.var 28 (.agg (.cn (.sl 1 (fun i0 => .sl 3 (fun i1 => .rat (q i0 i1)) n) n) (.cn (.ex (.int .i64 ((n : Nat) : Int))) (.nl)))))), (1, .one (.var 36 (.ex (.agg #[.bool false, .slice none 0 0, .slice none 0 0])))), (2, .one (.row 48 1 (fun i0 => .sl 3 (fun i1 => .rat ((swapR g.2.1 g.1 (leadK g.2.1 g.1 g.1 (n - g.1))) i0 i1)) n) n)), (3, .one (.var 36 (.rat (if leadK g.2.1 g.1 g.1 (n - g.1) = g.1 then g.2.2 else -g.2.2))))], 4⟩, .reg 14 [(3, .k g.1), (6, .k g.1), (8, .callS (.rat ((if leadK g.2.1 g.1 g.1 (n - g.1) = g.1 then g.2.2 else -g.2.2) * ((swapR g.2.1 g.1 (leadK g.2.1 g.1 g.1 (n - g.1))) g.1 g.1))) [])], .reg 15 [(1, .z ((g.1 + 1 : Nat) : Int))], .loop 16 (Nat) (fun h => g.1 + 1 ≤ h ∧ h ≤ n) (fun h => n - h) (fun h => ⟨[(2, .own 1 0), (4, .own 2 0), (5, .own 3 0), (21, .ex (.int .i64 ((n : Nat) : Int))), (22, .ex (.int .i64 ((g.1 : Nat) : Int))), (6, .ex (.int .i64 ((g.1 : Nat) : Int))), (8, .ex (.int .i64 ((h : Nat) : Int)))], [(0, .one (.var 28 (.agg (.cn (.sl 1 (fun i0 => .sl 3 (fun i1 => .rat (q i0 i1)) n) n) (.cn (.ex (.int .i64 ((n : Nat) : Int))) (.nl)))))), (1, .one (.var 36 (.ex (.agg #[.bool false, .slice none 0 0, .slice none 0 0])))), (2, .one (.row 48 1 (fun i0 => .sl 3 (fun i1 => .rat ((elimQ (swapR g.2.1 g.1 (leadK g.2.1 g.1 g.1 (n - g.1))) g.1 h) i0 i1)) n) n)), (3, .one (.var 36 (.rat ((if leadK g.2.1 g.1 g.1 (n - g.1) = g.1 then g.2.2 else -g.2.2) * (swapR g.2.1 g.1 (leadK g.2.1 g.1 g.1 (n - g.1))) g.1 g.1))))], 4⟩) [(0, .id 0), (1, .id 1), (2, .id 2), (3, .id 3)] (fun _ => [(0, .id 0), (1, .id 1), (2, .id 2), (3, .id 3)]) (fun h => [.reg 18 [(2, .k h), (5, .k g.1), (9, .k g.1), (12, .k g.1), (14, .callS (.cn (.rat (((elimQ (swapR g.2.1 g.1 (leadK g.2.1 g.1 g.1 (n - g.1))) g.1 h) h g.1) / ((elimQ (swapR g.2.1 g.1 (leadK g.2.1 g.1 g.1 (n - g.1))) g.1 h) g.1 g.1))) (.cn (.ex (.bool (!decide (((elimQ (swapR g.2.1 g.1 (leadK g.2.1 g.1 g.1 (n - g.1))) g.1 h) g.1 g.1) = 0)))) (.nl))) [])], .reg 19 [(4, .k h), (7, .callS (.rat (-(((elimQ (swapR g.2.1 g.1 (leadK g.2.1 g.1 g.1 (n - g.1))) g.1 h) h g.1) / ((elimQ (swapR g.2.1 g.1 (leadK g.2.1 g.1 g.1 (n - g.1))) g.1 h) g.1 g.1)))) []), (10, .k g.1), (12, .callS (.cn (.sl 3 (fun i0 => .rat (((elimQ (swapR g.2.1 g.1 (leadK g.2.1 g.1 g.1 (n - g.1))) g.1 h) h i0) + (-(((elimQ (swapR g.2.1 g.1 (leadK g.2.1 g.1 g.1 (n - g.1))) g.1 h) h g.1) / ((elimQ (swapR g.2.1 g.1 (leadK g.2.1 g.1 g.1 (n - g.1))) g.1 h) g.1 g.1))) * ((elimQ (swapR g.2.1 g.1 (leadK g.2.1 g.1 g.1 (n - g.1))) g.1 h) g.1 i0))) n) (.cn (.ex (.bool true)) (.nl))) []), (16, .k h), (17, .row 0 (fun i0 => .sl 3 (fun i1 => .rat ((elimQ (swapR g.2.1 g.1 (leadK g.2.1 g.1 g.1 (n - g.1))) g.1 (h + 1)) i0 i1)) n))], .reg 17 [(1, .z ((h + 1 : Nat) : Int))], .reg 20 [(0, .z ((g.1 + 1 : Nat) : Int))]])])]) hMix Try.func13 rfl (by kernel_rfl) (by kernel_rfl) ((∀ j0, j0 < n → (∀ j1, j1 < n → True)) ∧ _ ∧ _ ∧ ((!decide (((n : Nat) : Int) = ((n : Nat) : Int))) = false) ∧ _ ∧ _ ∧ (((fun X1 X2 X3 X4 X5 X6 X7 X8 : Prop => ∃ g0 : Nat × (Nat → Nat → Rat) × Rat, X1 ∧ X2 ∧ X3 ∧ X4 ∧ ((0 : Int) = ((g0.1 : Nat) : Int)) ∧ X5 ∧ X6 ∧ X7 ∧ ((.agg #[.bool false, .slice none 0 0, .slice none 0 0] : Value) = .agg #[.bool false, .slice none 0 0, .slice none 0 0]) ∧ X8 ∧ (∀ j0, j0 < n → ((n : Nat) = n) ∧ (∀ j1, j1 < n → ((q j0 j1 : Rat) = (g0.2.1 j0 j1)))) ∧ ((((1 : Int) : Rat) : Rat) = g0.2.2) ∧ (DetI s n q g0)) _ _ _ _ _ _ _ _) ∧ ∀ g : Nat × (Nat → Nat → Rat) × Rat, (DetI s n q g) → (((decide (((g.1 : Nat) : Int) < ((n : Nat) : Int))) = true → _ ∧ (((decide ((leadZ g.2.1 n g.1 g.1 : Int) < 0)) = true → (((cdet n q : Rat) = 0) ∧ _)) ∧ ((decide ((leadZ g.2.1 n g.1 g.1 : Int) < 0)) = false → (((!decide ((leadZ g.2.1 n g.1 g.1 : Int) = ((g.1 : Nat) : Int))) = true → ((leadZ g.2.1 n g.1 g.1 : Int) = ((leadK g.2.1 g.1 g.1 (n - g.1) : Nat) : Int)) ∧ ((leadK g.2.1 g.1 g.1 (n - g.1)) < n) ∧ ((leadK g.2.1 g.1 g.1 (n - g.1)) < n) ∧ _ ∧ (g.1 < n) ∧ (g.1 < n) ∧ _ ∧ (g.1 < n) ∧ (g.1 < n) ∧ (((n : Nat) = n) ∧ (∀ j0, j0 < n → ((g.2.1 (leadK g.2.1 g.1 g.1 (n - g.1)) j0 : Rat) = ((setR g.2.1 g.1 (g.2.1 (leadK g.2.1 g.1 g.1 (n - g.1)))) g.1 j0)))) ∧ (∀ t, t < n → t ≠ g.1 → (.sl 3 (fun i0 => .rat ((setR g.2.1 g.1 (g.2.1 (leadK g.2.1 g.1 g.1 (n - g.1)))) t i0)) n : SV) = .sl 3 (fun i0 => .rat (g.2.1 t i0)) n) ∧ ((leadZ g.2.1 n g.1 g.1 : Int) = ((leadK g.2.1 g.1 g.1 (n - g.1) : Nat) : Int)) ∧ ((leadK g.2.1 g.1 g.1 (n - g.1)) < n) ∧ ((leadK g.2.1 g.1 g.1 (n - g.1)) < n) ∧ (((n : Nat) = n) ∧ (∀ j0, j0 < n → ((g.2.1 g.1 j0 : Rat) = ((swapR g.2.1 g.1 (leadK g.2.1 g.1 g.1 (n - g.1))) (leadK g.2.1 g.1 g.1 (n - g.1)) j0)))) ∧ (∀ t, t < n → t ≠ (leadK g.2.1 g.1 g.1 (n - g.1)) → (.sl 3 (fun i0 => .rat ((swapR g.2.1 g.1 (leadK g.2.1 g.1 g.1 (n - g.1))) t i0)) n : SV) = .sl 3 (fun i0 => .rat ((setR g.2.1 g.1 (g.2.1 (leadK g.2.1 g.1 g.1 (n - g.1)))) t i0)) n) ∧ _ ∧ _ ∧ _ ∧ _ ∧ _ ∧ _ ∧ _ ∧ _ ∧ _ ∧ _ ∧ ((.agg #[.bool false, .slice none 0 0, .slice none 0 0] : Value) = .agg #[.bool false, .slice none 0 0, .slice none 0 0]) ∧ _ ∧ _ ∧ ((-g.2.2 : Rat) = (if leadK g.2.1 g.1 g.1 (n - g.1) = g.1 then g.2.2 else -g.2.2)) ∧ _ ∧ (g.1 < n) ∧ (g.1 < n) ∧ _ ∧ (g.1 < n) ∧ _ ∧ _ ∧ (((fun X1 X2 X3 X4 X5 X6 X7 X8 X9 X10 : Prop => ∃ h0 : Nat, X1 ∧ X2 ∧ X3 ∧ X4 ∧ X5 ∧ X6 ∧ (((g.1 + 1 : Nat) : Int) = ((h0 : Nat) : Int)) ∧ X7 ∧ X8 ∧ X9 ∧ ((.agg #[.bool false, .slice none 0 0, .slice none 0 0] : Value) = .agg #[.bool false, .slice none 0 0, .slice none 0 0]) ∧ X10 ∧ (∀ j0, j0 < n → ((n : Nat) = n) ∧ (∀ j1, j1 < n → (((swapR g.2.1 g.1 (leadK g.2.1 g.1 g.1 (n - g.1))) j0 j1 : Rat) = ((elimQ (swapR g.2.1 g.1 (leadK g.2.1 g.1 g.1 (n - g.1))) g.1 h0) j0 j1)))) ∧ (((if leadK g.2.1 g.1 g.1 (n - g.1) = g.1 then g.2.2 else -g.2.2) * ((swapR g.2.1 g.1 (leadK g.2.1 g.1 g.1 (n - g.1))) g.1 g.1) : Rat) = ((if leadK g.2.1 g.1 g.1 (n - g.1) = g.1 then g.2.2 else -g.2.2) * (swapR g.2.1 g.1 (leadK g.2.1 g.1 g.1 (n - g.1))) g.1 g.1)) ∧ (g.1 + 1 ≤ h0 ∧ h0 ≤ n)) _ _ _ _ _ _ _ _ _ _) ∧ ∀ h : Nat, (g.1 + 1 ≤ h ∧ h ≤ n) → (((decide (((h : Nat) : Int) < ((n : Nat) : Int))) = true → _ ∧ (h < n) ∧ (h < n) ∧ _ ∧ (g.1 < n) ∧ _ ∧ (g.1 < n) ∧ (g.1 < n) ∧ _ ∧ (g.1 < n) ∧ _ ∧ _ ∧ (h < n) ∧ (h < n) ∧ _ ∧ _ ∧ (g.1 < n) ∧ (g.1 < n) ∧ _ ∧ _ ∧ (h < n) ∧ (h < n) ∧ (((n : Nat) = n) ∧ (∀ j0, j0 < n → ((((elimQ (swapR g.2.1 g.1 (leadK g.2.1 g.1 g.1 (n - g.1))) g.1 h) h j0) + (-(((elimQ (swapR g.2.1 g.1 (leadK g.2.1 g.1 g.1 (n - g.1))) g.1 h) h g.1) / ((elimQ (swapR g.2.1 g.1 (leadK g.2.1 g.1 g.1 (n - g.1))) g.1 h) g.1 g.1))) * ((elimQ (swapR g.2.1 g.1 (leadK g.2.1 g.1 g.1 (n - g.1))) g.1 h) g.1 j0) : Rat) = ((elimQ (swapR g.2.1 g.1 (leadK g.2.1 g.1 g.1 (n - g.1))) g.1 (h + 1)) h j0)))) ∧ (∀ t, t < n → t ≠ h → (.sl 3 (fun i0 => .rat ((elimQ (swapR g.2.1 g.1 (leadK g.2.1 g.1 g.1 (n - g.1))) g.1 (h + 1)) t i0)) n : SV) = .sl 3 (fun i0 => .rat ((elimQ (swapR g.2.1 g.1 (leadK g.2.1 g.1 g.1 (n - g.1))) g.1 h) t i0)) n) ∧ _ ∧ ((fun X1 X2 X3 X4 X5 X6 X7 X8 X9 X10 X11 : Prop => ∃ h1 : Nat, X1 ∧ X2 ∧ X3 ∧ X4 ∧ X5 ∧ X6 ∧ (((h + 1 : Nat) : Int) = ((h1 : Nat) : Int)) ∧ X7 ∧ X8 ∧ X9 ∧ ((.agg #[.bool false, .slice none 0 0, .slice none 0 0] : Value) = .agg #[.bool false, .slice none 0 0, .slice none 0 0]) ∧ X10 ∧ (∀ j0, j0 < n → ((n : Nat) = n) ∧ (∀ j1, j1 < n → (((elimQ (swapR g.2.1 g.1 (leadK g.2.1 g.1 g.1 (n - g.1))) g.1 (h + 1)) j0 j1 : Rat) = ((elimQ (swapR g.2.1 g.1 (leadK g.2.1 g.1 g.1 (n - g.1))) g.1 h1) j0 j1)))) ∧ X11 ∧ (g.1 + 1 ≤ h1 ∧ h1 ≤ n) ∧ (n - h1 < n - h)) _ _ _ _ _ _ _ _ _ _ _)) ∧ ((decide (((h : Nat) : Int) < ((n : Nat) : Int))) = false → _ ∧ ((fun X1 X2 X3 X4 X5 X6 X7 X8 : Prop => ∃ g1 : Nat × (Nat → Nat → Rat) × Rat, X1 ∧ X2 ∧ X3 ∧ X4 ∧ (((g.1 + 1 : Nat) : Int) = ((g1.1 : Nat) : Int)) ∧ X5 ∧ X6 ∧ X7 ∧ ((.agg #[.bool false, .slice none 0 0, .slice none 0 0] : Value) = .agg #[.bool false, .slice none 0 0, .slice none 0 0]) ∧ X8 ∧ (∀ j0, j0 < n → ((n : Nat) = n) ∧ (∀ j1, j1 < n → (((elimQ (swapR g.2.1 g.1 (leadK g.2.1 g.1 g.1 (n - g.1))) g.1 h) j0 j1 : Rat) = (g1.2.1 j0 j1)))) ∧ ((((if leadK g.2.1 g.1 g.1 (n - g.1) = g.1 then g.2.2 else -g.2.2) * (swapR g.2.1 g.1 (leadK g.2.1 g.1 g.1 (n - g.1))) g.1 g.1) : Rat) = g1.2.2) ∧ (DetI s n q g1) ∧ (n - g1.1 < n - g.1)) _ _ _ _ _ _ _ _))))) ∧ ((!decide ((leadZ g.2.1 n g.1 g.1 : Int) = ((g.1 : Nat) : Int))) = false → _ ∧ _ ∧ _ ∧ _ ∧ _ ∧ _ ∧ _ ∧ _ ∧ _ ∧ ((.agg #[.bool false, .slice none 0 0, .slice none 0 0] : Value) = .agg #[.bool false, .slice none 0 0, .slice none 0 0]) ∧ _ ∧ (∀ j0, j0 < n → ((n : Nat) = n) ∧ (∀ j1, j1 < n → ((g.2.1 j0 j1 : Rat) = ((swapR g.2.1 g.1 (leadK g.2.1 g.1 g.1 (n - g.1))) j0 j1)))) ∧ ((g.2.2 : Rat) = (if leadK g.2.1 g.1 g.1 (n - g.1) = g.1 then g.2.2 else -g.2.2)) ∧ _ ∧ (g.1 < n) ∧ (g.1 < n) ∧ _ ∧ (g.1 < n) ∧ _ ∧ _ ∧ (((fun X1 X2 X3 X4 X5 X6 X7 X8 X9 X10 : Prop => ∃ h0 : Nat, X1 ∧ X2 ∧ X3 ∧ X4 ∧ X5 ∧ X6 ∧ (((g.1 + 1 : Nat) : Int) = ((h0 : Nat) : Int)) ∧ X7 ∧ X8 ∧ X9 ∧ ((.agg #[.bool false, .slice none 0 0, .slice none 0 0] : Value) = .agg #[.bool false, .slice none 0 0, .slice none 0 0]) ∧ X10 ∧ (∀ j0, j0 < n → ((n : Nat) = n) ∧ (∀ j1, j1 < n → (((swapR g.2.1 g.1 (leadK g.2.1 g.1 g.1 (n - g.1))) j0 j1 : Rat) = ((elimQ (swapR g.2.1 g.1 (leadK g.2.1 g.1 g.1 (n - g.1))) g.1 h0) j0 j1)))) ∧ (((if leadK g.2.1 g.1 g.1 (n - g.1) = g.1 then g.2.2 else -g.2.2) * ((swapR g.2.1 g.1 (leadK g.2.1 g.1 g.1 (n - g.1))) g.1 g.1) : Rat) = ((if leadK g.2.1 g.1 g.1 (n - g.1) = g.1 then g.2.2 else -g.2.2) * (swapR g.2.1 g.1 (leadK g.2.1 g.1 g.1 (n - g.1))) g.1 g.1)) ∧ (g.1 + 1 ≤ h0 ∧ h0 ≤ n)) _ _ _ _ _ _ _ _ _ _) ∧ ∀ h : Nat, (g.1 + 1 ≤ h ∧ h ≤ n) → (((decide (((h : Nat) : Int) < ((n : Nat) : Int))) = true → _ ∧ (h < n) ∧ (h < n) ∧ _ ∧ (g.1 < n) ∧ _ ∧ (g.1 < n) ∧ (g.1 < n) ∧ _ ∧ (g.1 < n) ∧ _ ∧ _ ∧ (h < n) ∧ (h < n) ∧ _ ∧ _ ∧ (g.1 < n) ∧ (g.1 < n) ∧ _ ∧ _ ∧ (h < n) ∧ (h < n) ∧ (((n : Nat) = n) ∧ (∀ j0, j0 < n → ((((elimQ (swapR g.2.1 g.1 (leadK g.2.1 g.1 g.1 (n - g.1))) g.1 h) h j0) + (-(((elimQ (swapR g.2.1 g.1 (leadK g.2.1 g.1 g.1 (n - g.1))) g.1 h) h g.1) / ((elimQ (swapR g.2.1 g.1 (leadK g.2.1 g.1 g.1 (n - g.1))) g.1 h) g.1 g.1))) * ((elimQ (swapR g.2.1 g.1 (leadK g.2.1 g.1 g.1 (n - g.1))) g.1 h) g.1 j0) : Rat) = ((elimQ (swapR g.2.1 g.1 (leadK g.2.1 g.1 g.1 (n - g.1))) g.1 (h + 1)) h j0)))) ∧ (∀ t, t < n → t ≠ h → (.sl 3 (fun i0 => .rat ((elimQ (swapR g.2.1 g.1 (leadK g.2.1 g.1 g.1 (n - g.1))) g.1 (h + 1)) t i0)) n : SV) = .sl 3 (fun i0 => .rat ((elimQ (swapR g.2.1 g.1 (leadK g.2.1 g.1 g.1 (n - g.1))) g.1 h) t i0)) n) ∧ _ ∧ ((fun X1 X2 X3 X4 X5 X6 X7 X8 X9 X10 X11 : Prop => ∃ h1 : Nat, X1 ∧ X2 ∧ X3 ∧ X4 ∧ X5 ∧ X6 ∧ (((h + 1 : Nat) : Int) = ((h1 : Nat) : Int)) ∧ X7 ∧ X8 ∧ X9 ∧ ((.agg #[.bool false, .slice none 0 0, .slice none 0 0] : Value) = .agg #[.bool false, .slice none 0 0, .slice none 0 0]) ∧ X10 ∧ (∀ j0, j0 < n → ((n : Nat) = n) ∧ (∀ j1, j1 < n → (((elimQ (swapR g.2.1 g.1 (leadK g.2.1 g.1 g.1 (n - g.1))) g.1 (h + 1)) j0 j1 : Rat) = ((elimQ (swapR g.2.1 g.1 (leadK g.2.1 g.1 g.1 (n - g.1))) g.1 h1) j0 j1)))) ∧ X11 ∧ (g.1 + 1 ≤ h1 ∧ h1 ≤ n) ∧ (n - h1 < n - h)) _ _ _ _ _ _ _ _ _ _ _)) ∧ ((decide (((h : Nat) : Int) < ((n : Nat) : Int))) = false → _ ∧ ((fun X1 X2 X3 X4 X5 X6 X7 X8 : Prop => ∃ g1 : Nat × (Nat → Nat → Rat) × Rat, X1 ∧ X2 ∧ X3 ∧ X4 ∧ (((g.1 + 1 : Nat) : Int) = ((g1.1 : Nat) : Int)) ∧ X5 ∧ X6 ∧ X7 ∧ ((.agg #[.bool false, .slice none 0 0, .slice none 0 0] : Value) = .agg #[.bool false, .slice none 0 0, .slice none 0 0]) ∧ X8 ∧ (∀ j0, j0 < n → ((n : Nat) = n) ∧ (∀ j1, j1 < n → (((elimQ (swapR g.2.1 g.1 (leadK g.2.1 g.1 g.1 (n - g.1))) g.1 h) j0 j1 : Rat) = (g1.2.1 j0 j1)))) ∧ ((((if leadK g.2.1 g.1 g.1 (n - g.1) = g.1 then g.2.2 else -g.2.2) * (swapR g.2.1 g.1 (leadK g.2.1 g.1 g.1 (n - g.1))) g.1 g.1) : Rat) = g1.2.2) ∧ (DetI s n q g1) ∧ (n - g1.1 < n - g.1)) _ _ _ _ _ _ _ _))))))))) ∧ ((decide (((g.1 : Nat) : Int) < ((n : Nat) : Int))) = false → (((g.2.2 : Rat) = (cdet n q)) ∧ _))))) (by kernel_rfl)
    ⟨(fun _ _ => (fun _ _ => trivial)), ⟨sMatRows (m := n) (n := n) (q := q), ⟨sMatCols (m := n) (n := n) (q := q), ⟨(by simp), ⟨sRowsOf (m := n) (n := n) (q := q) (by omega) (by omega), ⟨sRatInt (x := 1) (by omega) (by omega), ⟨⟨(0, q, 1), (rf 0), (rf 0), (rf 0), (rf ((n : Nat) : Int)), rfl, (rf n), (leS (fun i0 => .sl 3 (fun i1 => .rat (q i0 i1)) n) n), (rf ((n : Nat) : Int)), rfl, (rf n), (fun j0 hj0 => ⟨rfl, (fun j1 hj1 => rfl)⟩), rfl, (DetI.start hs)⟩, fun g hg => have hg1 := hg.le; ⟨fun hc23 => have hc23 := of_decide_eq_true hc23; ⟨sLead (m := n) (n := n) (a := g.1) (c := g.1) (q := g.2.1) (by omega) (by omega) (by omega), ⟨fun hc30 => have hc30 := of_decide_eq_true hc30; have hk2 := lead_no hc30; have hk1 := leadK_le (B := g.2.1) (c := g.1) (n - g.1) g.1; ⟨(hg.none (by omega) (by omega)), (rf (true : Bool))⟩, fun hc30 => have hc30 := of_decide_eq_false hc30; have hk2 := lead_yes hc30; have hk1 := leadK_le (B := g.2.1) (c := g.1) (n - g.1) g.1; have hp := leadK_at (B := g.2.1) (c := g.1) (n - g.1) g.1 (by omega); have hR := hg.room hn h1 (by omega) hk2; have hd := hg.next (by omega) hk1.1 hk2 hp; ⟨fun hc34 => have hk3 := ne_of_bool (leadZ_pos hk2) hc34; ⟨(leadZ_pos hk2), ⟨(by omega), ⟨(by omega), ⟨(rf ((g.1 : Nat) : Int)), ⟨(by omega), ⟨(by omega), ⟨(rf ((g.1 : Nat) : Int)), ⟨(by omega), ⟨(by omega), ⟨⟨rfl, (fun j0 hj0 => (if_pos rfl).symm)⟩, ⟨(fun t ht hne => by simp only [setR_ne hne]), ⟨(leadZ_pos hk2), ⟨(by omega), ⟨(by omega), ⟨⟨rfl, (fun j0 hj0 => (swap_at))⟩, ⟨(fun t ht hne => by simp only [swap_other hne]), ⟨sRatNeg (q := g.2.2), ⟨(rf 0), ⟨(rf 0), ⟨(rf 0), ⟨(rf ((n : Nat) : Int)), ⟨(rf ((g.1 : Nat) : Int)), ⟨(rf ((g.1 : Nat) : Int)), ⟨(rf n), ⟨(leS (fun i0 => .sl 3 (fun i1 => .rat (q i0 i1)) n) n), ⟨(rf ((n : Nat) : Int)), ⟨rfl, ⟨(rf n), ⟨(leS (fun i0 => .sl 3 (fun i1 => .rat ((swapR g.2.1 g.1 (leadK g.2.1 g.1 g.1 (n - g.1))) i0 i1)) n) n), ⟨(by first | exact (if_neg hk3).symm | exact (if_pos hk3).symm), ⟨(rf ((g.1 : Nat) : Int)), ⟨(by omega), ⟨(by omega), ⟨(rf ((g.1 : Nat) : Int)), ⟨(by omega), ⟨sRatMul (p := if leadK g.2.1 g.1 g.1 (n - g.1) = g.1 then g.2.2 else -g.2.2) (q := (swapR g.2.1 g.1 (leadK g.2.1 g.1 g.1 (n - g.1))) g.1 g.1) hR.1, ⟨(wI (g := g.1) (by omega)), ⟨⟨g.1 + 1, (rf 0), (rf 0), (rf 0), (rf ((n : Nat) : Int)), (rf ((g.1 : Nat) : Int)), (rf ((g.1 : Nat) : Int)), (by omega), (rf n), (leS (fun i0 => .sl 3 (fun i1 => .rat (q i0 i1)) n) n), (rf ((n : Nat) : Int)), rfl, (rf n), (fun j0 hj0 => ⟨rfl, (fun j1 hj1 => elimQ_zero)⟩), rfl, ⟨Nat.le_refl _, by omega⟩⟩, fun h hh0 => have hh1 := hh0.1; have hh2 := hh0.2; ⟨fun hc65 => have hc65 := of_decide_eq_true hc65; have hh : g.1 < h ∧ h < n := ⟨by omega, by omega⟩; ⟨(rf ((h : Nat) : Int)), ⟨(by omega), ⟨(by omega), ⟨(rf ((g.1 : Nat) : Int)), ⟨(by omega), ⟨(rf ((g.1 : Nat) : Int)), ⟨(by omega), ⟨(by omega), ⟨(rf ((g.1 : Nat) : Int)), ⟨(by omega), ⟨sRatDiv (p := (elimQ (swapR g.2.1 g.1 (leadK g.2.1 g.1 g.1 (n - g.1))) g.1 h) h g.1) (q := (elimQ (swapR g.2.1 g.1 (leadK g.2.1 g.1 g.1 (n - g.1))) g.1 h) g.1 g.1) (hR.2.1 h hh.1 hh.2), ⟨(rf ((h : Nat) : Int)), ⟨(by omega), ⟨(by omega), ⟨sRatNeg (q := ((elimQ (swapR g.2.1 g.1 (leadK g.2.1 g.1 g.1 (n - g.1))) g.1 h) h g.1) / ((elimQ (swapR g.2.1 g.1 (leadK g.2.1 g.1 g.1 (n - g.1))) g.1 h) g.1 g.1)), ⟨(rf ((g.1 : Nat) : Int)), ⟨(by omega), ⟨(by omega), ⟨(sVecAddTimes (a := (elimQ (swapR g.2.1 g.1 (leadK g.2.1 g.1 g.1 (n - g.1))) g.1 h) h) (b := (elimQ (swapR g.2.1 g.1 (leadK g.2.1 g.1 g.1 (n - g.1))) g.1 h) g.1) (n := n) (r := - (((elimQ (swapR g.2.1 g.1 (leadK g.2.1 g.1 g.1 (n - g.1))) g.1 h) h g.1) / ((elimQ (swapR g.2.1 g.1 (leadK g.2.1 g.1 g.1 (n - g.1))) g.1 h) g.1 g.1))) (by omega) (hR.2.2 h hh.1 hh.2)).frzV2, ⟨(rf ((h : Nat) : Int)), ⟨(by omega), ⟨(by omega), ⟨⟨rfl, (fun j0 hj0 => (elim_now (by omega)))⟩, ⟨(fun t ht hne => by simp only [elimQ_ne hne]), ⟨(wI (g := h) (by omega)), ⟨h + 1, (rf 0), (rf 0), (rf 0), (rf ((n : Nat) : Int)), (rf ((g.1 : Nat) : Int)), (rf ((g.1 : Nat) : Int)), (by omega), (rf n), (leS (fun i0 => .sl 3 (fun i1 => .rat (q i0 i1)) n) n), (rf ((n : Nat) : Int)), rfl, (rf n), (fun j0 hj0 => ⟨rfl, (fun j1 hj1 => rfl)⟩), (rf (((if leadK g.2.1 g.1 g.1 (n - g.1) = g.1 then g.2.2 else -g.2.2) * (swapR g.2.1 g.1 (leadK g.2.1 g.1 g.1 (n - g.1))) g.1 g.1) : Rat)), ⟨by omega, by omega⟩, (by omega)⟩⟩⟩⟩⟩⟩⟩⟩⟩⟩⟩⟩⟩⟩⟩⟩⟩⟩⟩⟩⟩⟩⟩⟩⟩⟩, fun hc65 => have hc65 := of_decide_eq_false hc65; have hi3 : h = n := (by omega); ⟨(wI (g := g.1) (by omega)), ⟨(g.1 + 1, elimQ (swapR g.2.1 g.1 (leadK g.2.1 g.1 g.1 (n - g.1))) g.1 n, ((if leadK g.2.1 g.1 g.1 (n - g.1) = g.1 then g.2.2 else -g.2.2) * (swapR g.2.1 g.1 (leadK g.2.1 g.1 g.1 (n - g.1))) g.1 g.1)), (rf 0), (rf 0), (rf 0), (rf ((n : Nat) : Int)), rfl, (rf n), (leS (fun i0 => .sl 3 (fun i1 => .rat (q i0 i1)) n) n), (rf ((n : Nat) : Int)), rfl, (rf n), (fun j0 hj0 => ⟨rfl, (fun j1 hj1 => (by simp only [hi3]))⟩), rfl, hd, (by show n - (g.1 + 1) < n - g.1; omega)⟩⟩⟩⟩⟩⟩⟩⟩⟩⟩⟩⟩⟩⟩⟩⟩⟩⟩⟩⟩⟩⟩⟩⟩⟩⟩⟩⟩⟩⟩⟩⟩⟩⟩⟩⟩⟩⟩⟩⟩⟩, fun hc34 => have hk3 := eq_of_bool (leadZ_pos hk2) hc34; ⟨(rf 0), ⟨(rf 0), ⟨(rf 0), ⟨(rf ((n : Nat) : Int)), ⟨(rf ((g.1 : Nat) : Int)), ⟨(rf ((g.1 : Nat) : Int)), ⟨(rf n), ⟨(leS (fun i0 => .sl 3 (fun i1 => .rat (q i0 i1)) n) n), ⟨(rf ((n : Nat) : Int)), ⟨rfl, ⟨(rf n), ⟨(fun j0 hj0 => ⟨rfl, (fun j1 hj1 => (by first | rfl | exact (swap_same hk3).symm))⟩), ⟨(by first | exact (if_neg hk3).symm | exact (if_pos hk3).symm), ⟨(rf ((g.1 : Nat) : Int)), ⟨(by omega), ⟨(by omega), ⟨(rf ((g.1 : Nat) : Int)), ⟨(by omega), ⟨sRatMul (p := if leadK g.2.1 g.1 g.1 (n - g.1) = g.1 then g.2.2 else -g.2.2) (q := (swapR g.2.1 g.1 (leadK g.2.1 g.1 g.1 (n - g.1))) g.1 g.1) hR.1, ⟨(wI (g := g.1) (by omega)), ⟨⟨g.1 + 1, (rf 0), (rf 0), (rf 0), (rf ((n : Nat) : Int)), (rf ((g.1 : Nat) : Int)), (rf ((g.1 : Nat) : Int)), (by omega), (rf n), (leS (fun i0 => .sl 3 (fun i1 => .rat (q i0 i1)) n) n), (rf ((n : Nat) : Int)), rfl, (rf n), (fun j0 hj0 => ⟨rfl, (fun j1 hj1 => elimQ_zero)⟩), rfl, ⟨Nat.le_refl _, by omega⟩⟩, fun h hh0 => have hh1 := hh0.1; have hh2 := hh0.2; ⟨fun hc65 => have hc65 := of_decide_eq_true hc65; have hh : g.1 < h ∧ h < n := ⟨by omega, by omega⟩; ⟨(rf ((h : Nat) : Int)), ⟨(by omega), ⟨(by omega), ⟨(rf ((g.1 : Nat) : Int)), ⟨(by omega), ⟨(rf ((g.1 : Nat) : Int)), ⟨(by omega), ⟨(by omega), ⟨(rf ((g.1 : Nat) : Int)), ⟨(by omega), ⟨sRatDiv (p := (elimQ (swapR g.2.1 g.1 (leadK g.2.1 g.1 g.1 (n - g.1))) g.1 h) h g.1) (q := (elimQ (swapR g.2.1 g.1 (leadK g.2.1 g.1 g.1 (n - g.1))) g.1 h) g.1 g.1) (hR.2.1 h hh.1 hh.2), ⟨(rf ((h : Nat) : Int)), ⟨(by omega), ⟨(by omega), ⟨sRatNeg (q := ((elimQ (swapR g.2.1 g.1 (leadK g.2.1 g.1 g.1 (n - g.1))) g.1 h) h g.1) / ((elimQ (swapR g.2.1 g.1 (leadK g.2.1 g.1 g.1 (n - g.1))) g.1 h) g.1 g.1)), ⟨(rf ((g.1 : Nat) : Int)), ⟨(by omega), ⟨(by omega), ⟨(sVecAddTimes (a := (elimQ (swapR g.2.1 g.1 (leadK g.2.1 g.1 g.1 (n - g.1))) g.1 h) h) (b := (elimQ (swapR g.2.1 g.1 (leadK g.2.1 g.1 g.1 (n - g.1))) g.1 h) g.1) (n := n) (r := - (((elimQ (swapR g.2.1 g.1 (leadK g.2.1 g.1 g.1 (n - g.1))) g.1 h) h g.1) / ((elimQ (swapR g.2.1 g.1 (leadK g.2.1 g.1 g.1 (n - g.1))) g.1 h) g.1 g.1))) (by omega) (hR.2.2 h hh.1 hh.2)).frzV2, ⟨(rf ((h : Nat) : Int)), ⟨(by omega), ⟨(by omega), ⟨⟨rfl, (fun j0 hj0 => (elim_now (by omega)))⟩, ⟨(fun t ht hne => by simp only [elimQ_ne hne]), ⟨(wI (g := h) (by omega)), ⟨h + 1, (rf 0), (rf 0), (rf 0), (rf ((n : Nat) : Int)), (rf ((g.1 : Nat) : Int)), (rf ((g.1 : Nat) : Int)), (by omega), (rf n), (leS (fun i0 => .sl 3 (fun i1 => .rat (q i0 i1)) n) n), (rf ((n : Nat) : Int)), rfl, (rf n), (fun j0 hj0 => ⟨rfl, (fun j1 hj1 => rfl)⟩), (rf (((if leadK g.2.1 g.1 g.1 (n - g.1) = g.1 then g.2.2 else -g.2.2) * (swapR g.2.1 g.1 (leadK g.2.1 g.1 g.1 (n - g.1))) g.1 g.1) : Rat)), ⟨by omega, by omega⟩, (by omega)⟩⟩⟩⟩⟩⟩⟩⟩⟩⟩⟩⟩⟩⟩⟩⟩⟩⟩⟩⟩⟩⟩⟩⟩⟩⟩, fun hc65 => have hc65 := of_decide_eq_false hc65; have hi3 : h = n := (by omega); ⟨(wI (g := g.1) (by omega)), ⟨(g.1 + 1, elimQ (swapR g.2.1 g.1 (leadK g.2.1 g.1 g.1 (n - g.1))) g.1 n, ((if leadK g.2.1 g.1 g.1 (n - g.1) = g.1 then g.2.2 else -g.2.2) * (swapR g.2.1 g.1 (leadK g.2.1 g.1 g.1 (n - g.1))) g.1 g.1)), (rf 0), (rf 0), (rf 0), (rf ((n : Nat) : Int)), rfl, (rf n), (leS (fun i0 => .sl 3 (fun i1 => .rat (q i0 i1)) n) n), (rf ((n : Nat) : Int)), rfl, (rf n), (fun j0 hj0 => ⟨rfl, (fun j1 hj1 => (by simp only [hi3]))⟩), rfl, hd, (by show n - (g.1 + 1) < n - g.1; omega)⟩⟩⟩⟩⟩⟩⟩⟩⟩⟩⟩⟩⟩⟩⟩⟩⟩⟩⟩⟩⟩⟩⟩⟩⟩⟩⟩, fun hc23 => have hc23 := of_decide_eq_false hc23; have hi2 : g.1 = n := (by omega); ⟨(hg.done hi2), (rf (true : Bool))⟩⟩⟩⟩⟩⟩⟩⟩⟩
set_option maxRecDepth 100000 in
theorem sSolve_no {q : Nat → Nat → Rat} {b : Nat → Rat} {m n k : Nat} (hk : k ≠ m) : CallOK Try.prog 25 [.agg (.cn (.sl 1 (fun i0 => .sl 3 (fun i1 => .rat (q i0 i1)) n) m) (.cn (.ex (.int .i64 ((n : Nat) : Int))) (.nl))), .sl 3 (fun i0 => .rat (b i0)) k] (.cn (.sl 3 (fun _ => .rat 0) 0) (.cn (.ex (.int .i64 0)) (.cn (.ex (.bool false)) (.nl)))) [] := by
  exact callOK_P (ch := [.reg 1 [(2, .callS (.cn (.agg (.cn (.sl 1 (fun _ => .sl 3 (fun _ => .rat 0) 0) 0) (.cn (.ex (.int .i64 ((0 : Nat) : Int))) (.nl)))) (.cn (.ex (.bool false)) (.nl))) [])], .dec 22 true]) hMix Try.func25 rfl (by kernel_rfl) (by kernel_rfl) ((∀ j0, j0 < m → (∀ j1, j1 < n → True)) ∧ (∀ j0, j0 < k → True) ∧ _ ∧ ((!false) = true) ∧ (_ ∧ _ ∧ _)) (by kernel_rfl)
    ⟨(fun _ _ => (fun _ _ => trivial)), ⟨(fun _ _ => trivial), ⟨(sMatWithCol_no (m := m) (n := n) (k := k) (q := q) (v := b) hk), ⟨(by simp), ⟨(rf 0), (rf (0 : Int)), (rf (false : Bool))⟩⟩⟩⟩⟩
set_option maxRecDepth 100000 in
theorem sSolveN {q : Nat → Nat → Rat} {b : Nat → Rat} {m n : Nat} (hm : m ≤ 64) (hn : n < 64) (hs : ∀ c, c ≤ n + 1 → HtB m (n + 1) 100000000 (red m (wideQ n q b) c).1) (h : noSol m n q b) : CallOK Try.prog 25 [.agg (.cn (.sl 1 (fun i0 => .sl 3 (fun i1 => .rat (q i0 i1)) n) m) (.cn (.ex (.int .i64 ((n : Nat) : Int))) (.nl))), .sl 3 (fun i0 => .rat (b i0)) m] (.cn (.sl 3 (fun _ => .rat 0) 0) (.cn (.ex (.int .i64 1)) (.cn (.ex (.bool true)) (.nl)))) [] := by
  have ha := (red_none h).1
  have hl := (red_none h).2
  have hb : (red m (wideQ n q b) (n + 1)).2.1 - 1 = (red m q n).2.1 := by omega
  have hw := (red_inv m (wideQ n q b) (n + 1)).am
  exact callOK_P (ch := [.reg 1 [(2, .callS (.cn (.agg (.cn (.sl 1 (fun i0 => .sl 3 (fun i1 => .rat (wideQ n q b i0 i1)) (n + 1)) m) (.cn (.ex (.int .i64 ((n + 1 : Nat) : Int))) (.nl)))) (.cn (.ex (.bool true)) (.nl))) [])], .dec 22 false, .reg 4 [(1, .callS (.cn (.agg (.cn (.sl 1 (fun i0 => .sl 3 (fun i1 => .rat (((red m (wideQ n q b) (n + 1)).1) i0 i1)) (n + 1)) m) (.cn (.ex (.int .i64 ((n + 1 : Nat) : Int))) (.nl)))) (.cn (.sl 1 (fun i0 => .ex (.int .i64 (((red m (wideQ n q b) (n + 1)).2.2 i0 : Nat) : Int))) ((red m (wideQ n q b) (n + 1)).2.1)) (.nl))) [])], .reg 6 [(5, .z (((red m (wideQ n q b) (n + 1)).2.1 - 1 : Nat) : Int)), (6, .k ((red m (wideQ n q b) (n + 1)).2.1 - 1)), (9, .callS (.ex (.int .i64 ((n : Nat) : Int))) [])], .dec 41 true]) hMix Try.func25 rfl (by kernel_rfl) (by kernel_rfl) ((∀ j0, j0 < m → (∀ j1, j1 < n → True)) ∧ (∀ j0, j0 < m → True) ∧ _ ∧ ((!true) = false) ∧ _ ∧ (((decide ((0 : Int) < (((red m (wideQ n q b) (n + 1)).2.1 : Nat) : Int))) == true) = true → ((decide ((0 : Int) < (((red m (wideQ n q b) (n + 1)).2.1 : Nat) : Int))) == true) = true) ∧ (((decide ((0 : Int) < (((red m (wideQ n q b) (n + 1)).2.1 : Nat) : Int))) == true) = true → IntKind.wrap .i64 ((((red m (wideQ n q b) (n + 1)).2.1 : Nat) : Int) - 1) = ((((red m (wideQ n q b) (n + 1)).2.1 - 1 : Nat) : Int))) ∧ (((decide ((0 : Int) < (((red m (wideQ n q b) (n + 1)).2.1 : Nat) : Int))) == true) = true → ((decide ((0 : Int) < (((red m (wideQ n q b) (n + 1)).2.1 : Nat) : Int))) == true) = true) ∧ (((decide ((0 : Int) < (((red m (wideQ n q b) (n + 1)).2.1 : Nat) : Int))) == true) = true → ((decide ((0 : Int) < (((red m (wideQ n q b) (n + 1)).2.1 : Nat) : Int))) == true) = true) ∧ (((decide ((0 : Int) < (((red m (wideQ n q b) (n + 1)).2.1 : Nat) : Int))) == true) = true → _) ∧ (((decide ((0 : Int) < (((red m (wideQ n q b) (n + 1)).2.1 : Nat) : Int))) == true) = true → ((red m (wideQ n q b) (n + 1)).2.1 - 1) < ((red m (wideQ n q b) (n + 1)).2.1)) ∧ (((decide ((0 : Int) < (((red m (wideQ n q b) (n + 1)).2.1 : Nat) : Int))) == true) = true → ((decide ((0 : Int) < (((red m (wideQ n q b) (n + 1)).2.1 : Nat) : Int))) == true) = true) ∧ (((decide ((0 : Int) < (((red m (wideQ n q b) (n + 1)).2.1 : Nat) : Int))) == true) = true → ((decide ((0 : Int) < (((red m (wideQ n q b) (n + 1)).2.1 : Nat) : Int))) == true) = true) ∧ (((decide ((0 : Int) < (((red m (wideQ n q b) (n + 1)).2.1 : Nat) : Int))) == true) = true → _) ∧ (((decide ((0 : Int) < (((red m (wideQ n q b) (n + 1)).2.1 : Nat) : Int))) == true) = true → ((decide ((0 : Int) < (((red m (wideQ n q b) (n + 1)).2.1 : Nat) : Int))) == true) = true) ∧ (((decide ((0 : Int) < (((red m (wideQ n q b) (n + 1)).2.1 : Nat) : Int))) == true) = true → ((decide ((0 : Int) < (((red m (wideQ n q b) (n + 1)).2.1 : Nat) : Int))) == true) = true) ∧ ((decide ((0 : Int) < (((red m (wideQ n q b) (n + 1)).2.1 : Nat) : Int))) = true → ((decide ((0 : Int) < (((red m (wideQ n q b) (n + 1)).2.1 : Nat) : Int))) == true) = true) ∧ ((bif (decide ((0 : Int) < (((red m (wideQ n q b) (n + 1)).2.1 : Nat) : Int))) then (decide ((((red m (wideQ n q b) (n + 1)).2.2 ((red m (wideQ n q b) (n + 1)).2.1 - 1) : Nat) : Int) = ((n : Nat) : Int))) else false) = true) ∧ (_ ∧ _ ∧ _)) (by kernel_rfl)
    ⟨(fun _ _ => (fun _ _ => trivial)), ⟨(fun _ _ => trivial), ⟨(sMatWithCol (m := m) (n := n) (q := q) (v := b) (by omega) (by omega)), ⟨(by simp), ⟨sReduced (m := m) (n := n + 1) (q := (wideQ n q b)) (by omega) (by omega) (by assumption), ⟨id, ⟨(fun hg => (by rw [IntKind.wrap_i64]; omega)), ⟨id, ⟨id, ⟨(fun hg => (rf (((red m (wideQ n q b) (n + 1)).2.1 - 1 : Nat) : Int))), ⟨(fun hg => (by omega)), ⟨id, ⟨id, ⟨(fun hg => sMatCols (m := m) (n := n) (q := q)), ⟨id, ⟨id, ⟨(by simp), ⟨(by rw [hb, hl]; simp; omega), ⟨(rf 0), (rf (1 : Int)), (rf (true : Bool))⟩⟩⟩⟩⟩⟩⟩⟩⟩⟩⟩⟩⟩⟩⟩⟩⟩⟩⟩
set_option maxRecDepth 100000 in
theorem sSolveY {q : Nat → Nat → Rat} {b : Nat → Rat} {m n : Nat} (hm : m ≤ 64) (hn : n < 64) (hs : ∀ c, c ≤ n + 1 → HtB m (n + 1) 100000000 (red m (wideQ n q b) c).1) (h : ¬ noSol m n q b) : CallOK Try.prog 25 [.agg (.cn (.sl 1 (fun i0 => .sl 3 (fun i1 => .rat (q i0 i1)) n) m) (.cn (.ex (.int .i64 ((n : Nat) : Int))) (.nl))), .sl 3 (fun i0 => .rat (b i0)) m] (.cn (.sl 3 (fun i0 => .rat (solQ (red m (wideQ n q b) (n + 1)) n i0)) n) (.cn (.ex (.int .i64 (if (red m (wideQ n q b) (n + 1)).2.1 < n then 3 else 2))) (.cn (.ex (.bool true)) (.nl)))) [] := by
  have H := red_inv m (wideQ n q b) (n + 1)
  have hw := H.am
  have hl : ∀ i, i < (red m (wideQ n q b) (n + 1)).2.1 → (red m (wideQ n q b) (n + 1)).2.2 i < n := sol_lt h
  exact callOK_P (ch := [.reg 1 [(2, .callS (.cn (.agg (.cn (.sl 1 (fun i0 => .sl 3 (fun i1 => .rat (wideQ n q b i0 i1)) (n + 1)) m) (.cn (.ex (.int .i64 ((n + 1 : Nat) : Int))) (.nl)))) (.cn (.ex (.bool true)) (.nl))) [])], .dec 22 false, .reg 4 [(1, .callS (.cn (.agg (.cn (.sl 1 (fun i0 => .sl 3 (fun i1 => .rat (((red m (wideQ n q b) (n + 1)).1) i0 i1)) (n + 1)) m) (.cn (.ex (.int .i64 ((n + 1 : Nat) : Int))) (.nl)))) (.cn (.sl 1 (fun i0 => .ex (.int .i64 (((red m (wideQ n q b) (n + 1)).2.2 i0 : Nat) : Int))) ((red m (wideQ n q b) (n + 1)).2.1)) (.nl))) [])], .reg 6 [(5, .z (((red m (wideQ n q b) (n + 1)).2.1 - 1 : Nat) : Int)), (6, .k ((red m (wideQ n q b) (n + 1)).2.1 - 1)), (9, .callS (.ex (.int .i64 ((n : Nat) : Int))) [])], .dec 41 false, .reg 8 [(1, .callS (.ex (.int .i64 ((n : Nat) : Int))) []), (2, .row n (fun _ => .rat 0))], .loop 10 (Nat) (fun g => g ≤ (red m (wideQ n q b) (n + 1)).2.1) (fun g => (red m (wideQ n q b) (n + 1)).2.1 - g) (fun g => ⟨[(2, .own 0 0), (9, .own 2 0), (10, .sl 1 (fun i0 => .ex (.int .i64 (((red m (wideQ n q b) (n + 1)).2.2 i0 : Nat) : Int))) ((red m (wideQ n q b) (n + 1)).2.1)), (11, .ex (.int .i64 (((red m (wideQ n q b) (n + 1)).2.1 : Nat) : Int))), (12, .own 3 0), (45, .sl 1 (fun i0 => .ex (.int .i64 (((red m (wideQ n q b) (n + 1)).2.2 i0 : Nat) : Int))) ((red m (wideQ n q b) (n + 1)).2.1)), (46, .ex (.int .i64 (((red m (wideQ n q b) (n + 1)).2.1 : Nat) : Int))), (47, .ex (.int .i64 ((g : Nat) : Int)))], [(0, .one (.var 28 (.agg (.cn (.sl 1 (fun i0 => .sl 3 (fun i1 => .rat (q i0 i1)) n) m) (.cn (.ex (.int .i64 ((n : Nat) : Int))) (.nl)))))), (2, .one (.var 28 (.agg (.cn (.sl 1 (fun i0 => .sl 3 (fun i1 => .rat (((red m (wideQ n q b) (n + 1)).1) i0 i1)) (n + 1)) m) (.cn (.ex (.int .i64 ((n + 1 : Nat) : Int))) (.nl)))))), (3, .one (.row 36 3 (fun i0 => .rat (solP (red m (wideQ n q b) (n + 1)) n g i0)) n))], 4⟩) [(0, .id 0), (2, .id 2), (3, .id 3)] (fun _ => [(0, .id 0), (2, .id 2), (3, .id 3)]) (fun g => [.reg 11 [(1, .k g)], .reg 12 [(5, .callS (.ex (.int .i64 ((n : Nat) : Int))) []), (6, .callS (.rat (((red m (wideQ n q b) (n + 1)).1) g n)) []), (7, .k ((red m (wideQ n q b) (n + 1)).2.2 g)), (8, .row 0 (fun i0 => .rat (solP (red m (wideQ n q b) (n + 1)) n (g + 1) i0)))], .reg 13 [(0, .z ((g + 1 : Nat) : Int))], .reg 14 [(2, .callS (.ex (.int .i64 ((n : Nat) : Int))) [])]])]) hMix Try.func25 rfl (by kernel_rfl) (by kernel_rfl) (let y1 := (decide ((0 : Int) < (((red m (wideQ n q b) (n + 1)).2.1 : Nat) : Int))); let y0 := (y1 == true); let y2 := (decide ((((red m (wideQ n q b) (n + 1)).2.1 : Nat) : Int) < ((n : Nat) : Int))); (∀ j0, j0 < m → (∀ j1, j1 < n → True)) ∧ (∀ j0, j0 < m → True) ∧ _ ∧ ((!true) = false) ∧ _ ∧ (y0 = true → y0 = true) ∧ (y0 = true → IntKind.wrap .i64 ((((red m (wideQ n q b) (n + 1)).2.1 : Nat) : Int) - 1) = ((((red m (wideQ n q b) (n + 1)).2.1 - 1 : Nat) : Int))) ∧ (y0 = true → y0 = true) ∧ (y0 = true → y0 = true) ∧ (y0 = true → _) ∧ (y0 = true → ((red m (wideQ n q b) (n + 1)).2.1 - 1) < ((red m (wideQ n q b) (n + 1)).2.1)) ∧ (y0 = true → y0 = true) ∧ (y0 = true → y0 = true) ∧ (y0 = true → _) ∧ (y0 = true → y0 = true) ∧ (y0 = true → y0 = true) ∧ (y1 = true → y0 = true) ∧ ((bif y1 then (decide ((((red m (wideQ n q b) (n + 1)).2.2 ((red m (wideQ n q b) (n + 1)).2.1 - 1) : Nat) : Int) = ((n : Nat) : Int))) else false) = false) ∧ _ ∧ _ ∧ _ ∧ (n ≤ 68719476736) ∧ (∀ j0, j0 < n → ((0 : Rat) = 0)) ∧ (((fun X1 X2 X3 X4 X5 X6 X7 X8 X9 X10 X11 X12 X13 X14 X15 X16 : Prop => ∃ g0 : Nat, X1 ∧ X2 ∧ X3 ∧ X4 ∧ X5 ∧ X6 ∧ X7 ∧ X8 ∧ X9 ∧ ((0 : Int) = ((g0 : Nat) : Int)) ∧ X10 ∧ X11 ∧ X12 ∧ X13 ∧ X14 ∧ X15 ∧ X16 ∧ (∀ j0, j0 < n → ((0 : Rat) = (solP (red m (wideQ n q b) (n + 1)) n g0 j0))) ∧ (g0 ≤ (red m (wideQ n q b) (n + 1)).2.1)) _ _ _ _ _ _ _ _ _ _ _ _ _ _ _ _) ∧ ∀ g : Nat, (g ≤ (red m (wideQ n q b) (n + 1)).2.1) → (((decide (((g : Nat) : Int) < (((red m (wideQ n q b) (n + 1)).2.1 : Nat) : Int))) = true → _ ∧ (g < ((red m (wideQ n q b) (n + 1)).2.1)) ∧ _ ∧ _ ∧ _ ∧ (((red m (wideQ n q b) (n + 1)).2.2 g) < n) ∧ (((red m (wideQ n q b) (n + 1)).2.2 g) < n) ∧ (((((red m (wideQ n q b) (n + 1)).1) g n : Rat) = (solP (red m (wideQ n q b) (n + 1)) n (g + 1) ((red m (wideQ n q b) (n + 1)).2.2 g)))) ∧ (∀ t, t < n → t ≠ ((red m (wideQ n q b) (n + 1)).2.2 g) → (.rat (solP (red m (wideQ n q b) (n + 1)) n (g + 1) t) : SV) = .rat (solP (red m (wideQ n q b) (n + 1)) n g t)) ∧ _ ∧ ((fun X1 X2 X3 X4 X5 X6 X7 X8 X9 X10 X11 X12 X13 X14 X15 X16 : Prop => ∃ g1 : Nat, X1 ∧ X2 ∧ X3 ∧ X4 ∧ X5 ∧ X6 ∧ X7 ∧ X8 ∧ X9 ∧ (((g + 1 : Nat) : Int) = ((g1 : Nat) : Int)) ∧ X10 ∧ X11 ∧ X12 ∧ X13 ∧ X14 ∧ X15 ∧ X16 ∧ (∀ j0, j0 < n → ((solP (red m (wideQ n q b) (n + 1)) n (g + 1) j0 : Rat) = (solP (red m (wideQ n q b) (n + 1)) n g1 j0))) ∧ (g1 ≤ (red m (wideQ n q b) (n + 1)).2.1) ∧ ((red m (wideQ n q b) (n + 1)).2.1 - g1 < (red m (wideQ n q b) (n + 1)).2.1 - g)) _ _ _ _ _ _ _ _ _ _ _ _ _ _ _ _)) ∧ ((decide (((g : Nat) : Int) < (((red m (wideQ n q b) (n + 1)).2.1 : Nat) : Int))) = false → _ ∧ ((y2 = true → (_ ∧ (∀ j0, j0 < n → ((solP (red m (wideQ n q b) (n + 1)) n g j0 : Rat) = (solQ (red m (wideQ n q b) (n + 1)) n j0))) ∧ ((3 : Int) = (if (red m (wideQ n q b) (n + 1)).2.1 < n then 3 else 2)) ∧ _)) ∧ (y2 = false → (_ ∧ (∀ j0, j0 < n → ((solP (red m (wideQ n q b) (n + 1)) n g j0 : Rat) = (solQ (red m (wideQ n q b) (n + 1)) n j0))) ∧ ((2 : Int) = (if (red m (wideQ n q b) (n + 1)).2.1 < n then 3 else 2)) ∧ _))))))) (by kernel_rfl)
    ⟨(fun _ _ => (fun _ _ => trivial)), ⟨(fun _ _ => trivial), ⟨(sMatWithCol (m := m) (n := n) (q := q) (v := b) (by omega) (by omega)), ⟨(by simp), ⟨sReduced (m := m) (n := n + 1) (q := (wideQ n q b)) (by omega) (by omega) (by assumption), ⟨id, ⟨(fun hg => (by have hg2 := of_guard hg; rw [IntKind.wrap_i64]; omega)), ⟨id, ⟨id, ⟨(fun hg => (rf (((red m (wideQ n q b) (n + 1)).2.1 - 1 : Nat) : Int))), ⟨(fun hg => (by have hg2 := of_guard hg; omega)), ⟨id, ⟨id, ⟨(fun hg => sMatCols (m := m) (n := n) (q := q)), ⟨id, ⟨id, ⟨(by simp), ⟨(sol_test hl), ⟨sMatCols (m := m) (n := n) (q := q), ⟨(rf ((n : Nat) : Int)), ⟨(rf ((n : Nat) : Int)), ⟨(by omega), ⟨(fun j0 hj0 => rfl), ⟨⟨0, (rf 0), (rf 0), (rf ((red m (wideQ n q b) (n + 1)).2.1 : Nat)), (leS (fun i0 => .ex (.int .i64 (((red m (wideQ n q b) (n + 1)).2.2 i0 : Nat) : Int))) ((red m (wideQ n q b) (n + 1)).2.1)), (rf (((red m (wideQ n q b) (n + 1)).2.1 : Nat) : Int)), (rf 0), (rf ((red m (wideQ n q b) (n + 1)).2.1 : Nat)), (leS (fun i0 => .ex (.int .i64 (((red m (wideQ n q b) (n + 1)).2.2 i0 : Nat) : Int))) ((red m (wideQ n q b) (n + 1)).2.1)), (rf (((red m (wideQ n q b) (n + 1)).2.1 : Nat) : Int)), (by omega), (rf m), (leS (fun i0 => .sl 3 (fun i1 => .rat (q i0 i1)) n) m), (rf ((n : Nat) : Int)), (rf m), (leS (fun i0 => .sl 3 (fun i1 => .rat (((red m (wideQ n q b) (n + 1)).1) i0 i1)) (n + 1)) m), (rf ((n + 1 : Nat) : Int)), (rf n), (fun j0 hj0 => solP_zero), (by omega)⟩, fun g hg => ⟨fun hc48 => have hc48 := of_decide_eq_true hc48; have hl2 := hl g (by omega); ⟨(rf ((g : Nat) : Int)), ⟨(by omega), ⟨sMatCols (m := m) (n := n) (q := q), ⟨sMatAt (m := m) (n := n + 1) (r := g) (c := n) (q := (fun r c => ((red m (wideQ n q b) (n + 1)).1) r c)) (by omega) (by omega), ⟨(rf (((red m (wideQ n q b) (n + 1)).2.2 g : Nat) : Int)), ⟨(by omega), ⟨(by omega), ⟨(solP_at H (by omega)), ⟨(fun t ht hne => by rw [solP_ne hne]), ⟨(wI (g := g) (by omega)), ⟨g + 1, (rf 0), (rf 0), (rf ((red m (wideQ n q b) (n + 1)).2.1 : Nat)), (leS (fun i0 => .ex (.int .i64 (((red m (wideQ n q b) (n + 1)).2.2 i0 : Nat) : Int))) ((red m (wideQ n q b) (n + 1)).2.1)), (rf (((red m (wideQ n q b) (n + 1)).2.1 : Nat) : Int)), (rf 0), (rf ((red m (wideQ n q b) (n + 1)).2.1 : Nat)), (leS (fun i0 => .ex (.int .i64 (((red m (wideQ n q b) (n + 1)).2.2 i0 : Nat) : Int))) ((red m (wideQ n q b) (n + 1)).2.1)), (rf (((red m (wideQ n q b) (n + 1)).2.1 : Nat) : Int)), (by omega), (rf m), (leS (fun i0 => .sl 3 (fun i1 => .rat (q i0 i1)) n) m), (rf ((n : Nat) : Int)), (rf m), (leS (fun i0 => .sl 3 (fun i1 => .rat (((red m (wideQ n q b) (n + 1)).1) i0 i1)) (n + 1)) m), (rf ((n + 1 : Nat) : Int)), (rf n), (fun j0 hj0 => rfl), (by omega), (by omega)⟩⟩⟩⟩⟩⟩⟩⟩⟩⟩⟩, fun hc48 => have hc48 := of_decide_eq_false hc48; have hi2 : g = (red m (wideQ n q b) (n + 1)).2.1 := (by omega); ⟨sMatCols (m := m) (n := n) (q := q), ⟨fun hc64 => have hc64 := of_decide_eq_true hc64; ⟨(rf n), (fun j0 hj0 => (by rw [hi2]; rfl)), (if_pos (by omega)).symm, (rf (true : Bool))⟩, fun hc64 => have hc64 := of_decide_eq_false hc64; ⟨(rf n), (fun j0 hj0 => (by rw [hi2]; rfl)), (if_neg (by omega)).symm, (rf (true : Bool))⟩⟩⟩⟩⟩⟩⟩⟩⟩⟩⟩⟩⟩⟩⟩⟩⟩⟩⟩⟩⟩⟩⟩⟩⟩⟩⟩⟩
set_option maxRecDepth 100000 in
theorem sKernel {q : Nat → Nat → Rat} {m n : Nat} (hm : m ≤ 64) (hn : n ≤ 64) (hs : ∀ c, c ≤ n → HtB m n 100000000 (red m q c).1) : CallOK Try.prog 57 [.agg (.cn (.sl 1 (fun i0 => .sl 3 (fun i1 => .rat (q i0 i1)) n) m) (.cn (.ex (.int .i64 ((n : Nat) : Int))) (.nl)))] (.sl 1 (fun i0 => .sl 3 (fun i1 => .rat (kerQ (red m q n) ((frL (red m q n).2.1 (red m q n).2.2 n).2 i0) i1)) n) ((frL (red m q n).2.1 (red m q n).2.2 n).1)) [] := by
  have H := red_inv m q n
  have hl := H.leads
  have hlt := H.lt
  have hw := H.am
  exact callOK_P (ch := [.reg 1 [(1, .callS (.cn (.agg (.cn (.sl 1 (fun i0 => .sl 3 (fun i1 => .rat (((red m q n).1) i0 i1)) n) m) (.cn (.ex (.int .i64 ((n : Nat) : Int))) (.nl)))) (.cn (.sl 1 (fun i0 => .ex (.int .i64 (((red m q n).2.2 i0 : Nat) : Int))) ((red m q n).2.1)) (.nl))) [])], .reg 4 [(1, .callS (.ex (.int .i64 ((n : Nat) : Int))) [])], .loop 5 (Nat) (fun g => g ≤ n) (fun g => n - g) (fun g => ⟨[(1, .own 0 0), (3, .own 1 0), (4, .sl 1 (fun i0 => .ex (.int .i64 (((red m q n).2.2 i0 : Nat) : Int))) ((red m q n).2.1)), (17, .ex (.int .i64 ((n : Nat) : Int))), (18, .ex (.int .i64 ((g : Nat) : Int))), (5, .own 3 0), (6, .ex (.int .i64 ((cntL (red m q n).2.1 (red m q n).2.2 g : Nat) : Int)))], [(0, .one (.var 28 (.agg (.cn (.sl 1 (fun i0 => .sl 3 (fun i1 => .rat (q i0 i1)) n) m) (.cn (.ex (.int .i64 ((n : Nat) : Int))) (.nl)))))), (1, .one (.var 28 (.agg (.cn (.sl 1 (fun i0 => .sl 3 (fun i1 => .rat (((red m q n).1) i0 i1)) n) m) (.cn (.ex (.int .i64 ((n : Nat) : Int))) (.nl)))))), (3, .one (.row 48 1 (fun i0 => .sl 3 (fun i1 => .rat (kerQ (red m q n) ((frL (red m q n).2.1 (red m q n).2.2 g).2 i0) i1)) n) ((frL (red m q n).2.1 (red m q n).2.2 g).1)))], 4⟩) [(0, .id 0), (1, .id 1), (3, .nil)] (fun _ => [(0, .id 0), (1, .id 1), (3, .id 3)]) (fun g => [.reg 7 [(7, .k (cntL (red m q n).2.1 (red m q n).2.2 g))], .reg 8 [(1, .z ((cntL (red m q n).2.1 (red m q n).2.2 g + 1 : Nat) : Int))], .reg 17 [(0, .z ((g + 1 : Nat) : Int))], .conv 9 [(0, .id 0), (1, .id 1), (2, .id 3)] ⟨[(1, .own 0 0), (3, .own 1 0), (4, .sl 1 (fun i0 => .ex (.int .i64 (((red m q n).2.2 i0 : Nat) : Int))) ((red m q n).2.1)), (17, .ex (.int .i64 ((n : Nat) : Int))), (18, .ex (.int .i64 ((g : Nat) : Int))), (5, .own 2 0), (6, .ex (.int .i64 ((cntL (red m q n).2.1 (red m q n).2.2 g : Nat) : Int))), (7, .ex (.int .i64 ((g : Nat) : Int)))], [(0, .one (.var 28 (.agg (.cn (.sl 1 (fun i0 => .sl 3 (fun i1 => .rat (q i0 i1)) n) m) (.cn (.ex (.int .i64 ((n : Nat) : Int))) (.nl)))))), (1, .one (.var 28 (.agg (.cn (.sl 1 (fun i0 => .sl 3 (fun i1 => .rat (((red m q n).1) i0 i1)) n) m) (.cn (.ex (.int .i64 ((n : Nat) : Int))) (.nl)))))), (2, .one (.row 48 1 (fun i0 => .sl 3 (fun i1 => .rat (kerQ (red m q n) ((frL (red m q n).2.1 (red m q n).2.2 g).2 i0) i1)) n) ((frL (red m q n).2.1 (red m q n).2.2 g).1)))], 3⟩, .reg 9 [(1, .callS (.ex (.int .i64 ((n : Nat) : Int))) []), (2, .row n (fun _ => .rat 0))], .reg 10 [(2, .callS (.rat ((1 : Int) : Rat)) []), (3, .k g), (4, .row 0 (fun i0 => .rat (if i0 = g then 1 else 0)))], .loop 12 (Nat) (fun h => h ≤ (red m q n).2.1) (fun h => (red m q n).2.1 - h) (fun h => ⟨[(1, .own 0 0), (3, .own 1 0), (4, .sl 1 (fun i0 => .ex (.int .i64 (((red m q n).2.2 i0 : Nat) : Int))) ((red m q n).2.1)), (17, .ex (.int .i64 ((n : Nat) : Int))), (18, .ex (.int .i64 ((g : Nat) : Int))), (5, .own 2 0), (6, .ex (.int .i64 ((cntL (red m q n).2.1 (red m q n).2.2 g : Nat) : Int))), (7, .ex (.int .i64 ((g : Nat) : Int))), (8, .own 3 0), (42, .sl 1 (fun i0 => .ex (.int .i64 (((red m q n).2.2 i0 : Nat) : Int))) ((red m q n).2.1)), (43, .ex (.int .i64 (((red m q n).2.1 : Nat) : Int))), (44, .ex (.int .i64 ((h : Nat) : Int)))], [(0, .one (.var 28 (.agg (.cn (.sl 1 (fun i0 => .sl 3 (fun i1 => .rat (q i0 i1)) n) m) (.cn (.ex (.int .i64 ((n : Nat) : Int))) (.nl)))))), (1, .one (.var 28 (.agg (.cn (.sl 1 (fun i0 => .sl 3 (fun i1 => .rat (((red m q n).1) i0 i1)) n) m) (.cn (.ex (.int .i64 ((n : Nat) : Int))) (.nl)))))), (2, .one (.row 48 1 (fun i0 => .sl 3 (fun i1 => .rat (kerQ (red m q n) ((frL (red m q n).2.1 (red m q n).2.2 g).2 i0) i1)) n) ((frL (red m q n).2.1 (red m q n).2.2 g).1))), (3, .one (.row 36 3 (fun i0 => .rat (kerP (red m q n) g h i0)) n))], 4⟩) [(0, .id 0), (1, .id 1), (2, .id 2), (3, .id 3)] (fun _ => [(0, .id 0), (1, .id 1), (2, .id 2), (3, .id 3)]) (fun h => [.reg 13 [(1, .k h)], .reg 14 [(5, .callS (.rat (((red m q n).1) h g)) []), (6, .callS (.rat (-(((red m q n).1) h g))) []), (7, .k ((red m q n).2.2 h)), (8, .row 0 (fun i0 => .rat (kerP (red m q n) g (h + 1) i0)))], .reg 15 [(0, .z ((h + 1 : Nat) : Int))], .conv 16 [(0, .id 0), (1, .id 1), (2, .id 2)] ⟨[(1, .own 0 0), (3, .own 1 0), (4, .sl 1 (fun i0 => .ex (.int .i64 (((red m q n).2.2 i0 : Nat) : Int))) ((red m q n).2.1)), (17, .ex (.int .i64 ((n : Nat) : Int))), (18, .ex (.int .i64 ((g : Nat) : Int))), (5, .own 2 0), (6, .ex (.int .i64 ((cntL (red m q n).2.1 (red m q n).2.2 g : Nat) : Int))), (8, .sl 3 (fun i0 => .rat (kerQ (red m q n) ((fun _ => g) 0) i0)) n)], [(0, .one (.var 28 (.agg (.cn (.sl 1 (fun i0 => .sl 3 (fun i1 => .rat (q i0 i1)) n) m) (.cn (.ex (.int .i64 ((n : Nat) : Int))) (.nl)))))), (1, .one (.var 28 (.agg (.cn (.sl 1 (fun i0 => .sl 3 (fun i1 => .rat (((red m q n).1) i0 i1)) n) m) (.cn (.ex (.int .i64 ((n : Nat) : Int))) (.nl)))))), (2, .one (.row 48 1 (fun i0 => .sl 3 (fun i1 => .rat (kerQ (red m q n) ((frL (red m q n).2.1 (red m q n).2.2 g).2 i0) i1)) n) ((frL (red m q n).2.1 (red m q n).2.2 g).1)))], 3⟩, .reg 16 [(3, .row 0 (fun i0 => .sl 3 (fun i1 => .rat (kerQ (red m q n) ((frL (red m q n).2.1 (red m q n).2.2 (g + 1)).2 i0) i1)) n))], .reg 17 [(0, .z ((g + 1 : Nat) : Int))]])])]) hMix Try.func57 rfl (by kernel_rfl) (by kernel_rfl) ((∀ j0, j0 < m → (∀ j1, j1 < n → True)) ∧ _ ∧ _ ∧ (((fun X1 X2 X3 X4 X5 X6 X7 X8 X9 X10 X11 X12 : Prop => ∃ g0 : Nat, X1 ∧ X2 ∧ X3 ∧ X4 ∧ X5 ∧ ((0 : Int) = ((g0 : Nat) : Int)) ∧ X6 ∧ ((0 : Int) = ((cntL (red m q n).2.1 (red m q n).2.2 g0 : Nat) : Int)) ∧ X7 ∧ X8 ∧ X9 ∧ X10 ∧ X11 ∧ X12 ∧ (((frL (red m q n).2.1 (red m q n).2.2 g0).1 : Nat) = 0) ∧ (g0 ≤ n)) _ _ _ _ _ _ _ _ _ _ _ _) ∧ ∀ g : Nat, (g ≤ n) → (((decide (((g : Nat) : Int) < ((n : Nat) : Int))) = true → (((decide (((cntL (red m q n).2.1 (red m q n).2.2 g : Nat) : Int) < (((red m q n).2.1 : Nat) : Int))) == true) = true → ((decide (((cntL (red m q n).2.1 (red m q n).2.2 g : Nat) : Int) < (((red m q n).2.1 : Nat) : Int))) == true) = true) ∧ (((decide (((cntL (red m q n).2.1 (red m q n).2.2 g : Nat) : Int) < (((red m q n).2.1 : Nat) : Int))) == true) = true → ((decide (((cntL (red m q n).2.1 (red m q n).2.2 g : Nat) : Int) < (((red m q n).2.1 : Nat) : Int))) == true) = true) ∧ (((decide (((cntL (red m q n).2.1 (red m q n).2.2 g : Nat) : Int) < (((red m q n).2.1 : Nat) : Int))) == true) = true → _) ∧ (((decide (((cntL (red m q n).2.1 (red m q n).2.2 g : Nat) : Int) < (((red m q n).2.1 : Nat) : Int))) == true) = true → (cntL (red m q n).2.1 (red m q n).2.2 g) < ((red m q n).2.1)) ∧ (((decide (((cntL (red m q n).2.1 (red m q n).2.2 g : Nat) : Int) < (((red m q n).2.1 : Nat) : Int))) == true) = true → ((decide (((cntL (red m q n).2.1 (red m q n).2.2 g : Nat) : Int) < (((red m q n).2.1 : Nat) : Int))) == true) = true) ∧ (((decide (((cntL (red m q n).2.1 (red m q n).2.2 g : Nat) : Int) < (((red m q n).2.1 : Nat) : Int))) == true) = true → ((decide (((cntL (red m q n).2.1 (red m q n).2.2 g : Nat) : Int) < (((red m q n).2.1 : Nat) : Int))) == true) = true) ∧ (((decide (((cntL (red m q n).2.1 (red m q n).2.2 g : Nat) : Int) < (((red m q n).2.1 : Nat) : Int))) == true) = true → ((decide (((cntL (red m q n).2.1 (red m q n).2.2 g : Nat) : Int) < (((red m q n).2.1 : Nat) : Int))) == true) = true) ∧ ((decide (((cntL (red m q n).2.1 (red m q n).2.2 g : Nat) : Int) < (((red m q n).2.1 : Nat) : Int))) = true → ((decide (((cntL (red m q n).2.1 (red m q n).2.2 g : Nat) : Int) < (((red m q n).2.1 : Nat) : Int))) == true) = true) ∧ (((bif (decide (((cntL (red m q n).2.1 (red m q n).2.2 g : Nat) : Int) < (((red m q n).2.1 : Nat) : Int))) then (decide ((((red m q n).2.2 (cntL (red m q n).2.1 (red m q n).2.2 g) : Nat) : Int) = ((g : Nat) : Int))) else false) = true → (IntKind.wrap .i64 (((cntL (red m q n).2.1 (red m q n).2.2 g : Nat) : Int) + 1) = (((cntL (red m q n).2.1 (red m q n).2.2 g + 1 : Nat) : Int))) ∧ _ ∧ ((fun X1 X2 X3 X4 X5 X6 X7 X8 X9 X10 X11 X12 : Prop => ∃ g1 : Nat, X1 ∧ X2 ∧ X3 ∧ X4 ∧ X5 ∧ (((g + 1 : Nat) : Int) = ((g1 : Nat) : Int)) ∧ X6 ∧ (((cntL (red m q n).2.1 (red m q n).2.2 g + 1 : Nat) : Int) = ((cntL (red m q n).2.1 (red m q n).2.2 g1 : Nat) : Int)) ∧ X7 ∧ X8 ∧ X9 ∧ X10 ∧ X11 ∧ X12 ∧ (((frL (red m q n).2.1 (red m q n).2.2 g).1 : Nat) = ((frL (red m q n).2.1 (red m q n).2.2 g1).1)) ∧ (∀ j0, j0 < ((frL (red m q n).2.1 (red m q n).2.2 g).1) → ((n : Nat) = n) ∧ (∀ j1, j1 < n → ((kerQ (red m q n) ((frL (red m q n).2.1 (red m q n).2.2 g).2 j0) j1 : Rat) = (kerQ (red m q n) ((frL (red m q n).2.1 (red m q n).2.2 g1).2 j0) j1)))) ∧ (g1 ≤ n) ∧ (n - g1 < n - g)) _ _ _ _ _ _ _ _ _ _ _ _)) ∧ ((bif (decide (((cntL (red m q n).2.1 (red m q n).2.2 g : Nat) : Int) < (((red m q n).2.1 : Nat) : Int))) then (decide ((((red m q n).2.2 (cntL (red m q n).2.1 (red m q n).2.2 g) : Nat) : Int) = ((g : Nat) : Int))) else false) = false → _ ∧ _ ∧ _ ∧ _ ∧ _ ∧ _ ∧ _ ∧ _ ∧ _ ∧ _ ∧ _ ∧ _ ∧ _ ∧ _ ∧ _ ∧ _ ∧ _ ∧ _ ∧ _ ∧ _ ∧ (n ≤ 68719476736) ∧ (∀ j0, j0 < n → ((0 : Rat) = 0)) ∧ _ ∧ _ ∧ (g < n) ∧ (g < n) ∧ (((((1 : Int) : Rat) : Rat) = (if g = g then 1 else 0))) ∧ (∀ t, t < n → t ≠ g → (.rat (if t = g then 1 else 0) : SV) = .rat 0) ∧ (((fun X1 X2 X3 X4 X5 X6 X7 X8 X9 X10 X11 X12 X13 X14 X15 X16 X17 X18 X19 X20 X21 X22 : Prop => ∃ h0 : Nat, X1 ∧ X2 ∧ X3 ∧ X4 ∧ X5 ∧ X6 ∧ X7 ∧ X8 ∧ X9 ∧ X10 ∧ X11 ∧ X12 ∧ X13 ∧ ((0 : Int) = ((h0 : Nat) : Int)) ∧ X14 ∧ X15 ∧ X16 ∧ X17 ∧ X18 ∧ X19 ∧ X20 ∧ X21 ∧ X22 ∧ (∀ j0, j0 < n → ((if j0 = g then 1 else 0 : Rat) = (kerP (red m q n) g h0 j0))) ∧ (h0 ≤ (red m q n).2.1)) _ _ _ _ _ _ _ _ _ _ _ _ _ _ _ _ _ _ _ _ _ _) ∧ ∀ h : Nat, (h ≤ (red m q n).2.1) → (((decide (((h : Nat) : Int) < (((red m q n).2.1 : Nat) : Int))) = true → _ ∧ (h < ((red m q n).2.1)) ∧ _ ∧ _ ∧ _ ∧ (((red m q n).2.2 h) < n) ∧ (((red m q n).2.2 h) < n) ∧ (((-(((red m q n).1) h g) : Rat) = (kerP (red m q n) g (h + 1) ((red m q n).2.2 h)))) ∧ (∀ t, t < n → t ≠ ((red m q n).2.2 h) → (.rat (kerP (red m q n) g (h + 1) t) : SV) = .rat (kerP (red m q n) g h t)) ∧ _ ∧ ((fun X1 X2 X3 X4 X5 X6 X7 X8 X9 X10 X11 X12 X13 X14 X15 X16 X17 X18 X19 X20 X21 X22 : Prop => ∃ h1 : Nat, X1 ∧ X2 ∧ X3 ∧ X4 ∧ X5 ∧ X6 ∧ X7 ∧ X8 ∧ X9 ∧ X10 ∧ X11 ∧ X12 ∧ X13 ∧ (((h + 1 : Nat) : Int) = ((h1 : Nat) : Int)) ∧ X14 ∧ X15 ∧ X16 ∧ X17 ∧ X18 ∧ X19 ∧ X20 ∧ X21 ∧ X22 ∧ (∀ j0, j0 < n → ((kerP (red m q n) g (h + 1) j0 : Rat) = (kerP (red m q n) g h1 j0))) ∧ (h1 ≤ (red m q n).2.1) ∧ ((red m q n).2.1 - h1 < (red m q n).2.1 - h)) _ _ _ _ _ _ _ _ _ _ _ _ _ _ _ _ _ _ _ _ _ _)) ∧ ((decide (((h : Nat) : Int) < (((red m q n).2.1 : Nat) : Int))) = false → _ ∧ _ ∧ _ ∧ _ ∧ _ ∧ _ ∧ _ ∧ _ ∧ _ ∧ (∀ j0, j0 < n → ((kerP (red m q n) g h j0 : Rat) = (kerQ (red m q n) ((fun _ => g) 0) j0))) ∧ _ ∧ _ ∧ _ ∧ _ ∧ _ ∧ _ ∧ _ ∧ _ ∧ (((frL (red m q n).2.1 (red m q n).2.2 g).1) + 1 ≤ 68719476736) ∧ (∀ j0, j0 < ((frL (red m q n).2.1 (red m q n).2.2 g).1) → (.sl 3 (fun i1 => .rat (kerQ (red m q n) ((frL (red m q n).2.1 (red m q n).2.2 (g + 1)).2 j0) i1)) n : SV) = .sl 3 (fun i1 => .rat (kerQ (red m q n) ((frL (red m q n).2.1 (red m q n).2.2 g).2 j0) i1)) n) ∧ (∀ j0, j0 < 1 → ((n : Nat) = n) ∧ (∀ j1, j1 < n → ((kerQ (red m q n) ((fun _ => g) 0) j1 : Rat) = (kerQ (red m q n) ((frL (red m q n).2.1 (red m q n).2.2 (g + 1)).2 (((frL (red m q n).2.1 (red m q n).2.2 g).1) + j0)) j1)))) ∧ _ ∧ ((fun X1 X2 X3 X4 X5 X6 X7 X8 X9 X10 X11 X12 : Prop => ∃ g1 : Nat, X1 ∧ X2 ∧ X3 ∧ X4 ∧ X5 ∧ (((g + 1 : Nat) : Int) = ((g1 : Nat) : Int)) ∧ X6 ∧ (((cntL (red m q n).2.1 (red m q n).2.2 g : Nat) : Int) = ((cntL (red m q n).2.1 (red m q n).2.2 g1 : Nat) : Int)) ∧ X7 ∧ X8 ∧ X9 ∧ X10 ∧ X11 ∧ X12 ∧ ((((frL (red m q n).2.1 (red m q n).2.2 g).1) + 1 : Nat) = ((frL (red m q n).2.1 (red m q n).2.2 g1).1)) ∧ (∀ j0, j0 < (((frL (red m q n).2.1 (red m q n).2.2 g).1) + 1) → ((n : Nat) = n) ∧ (∀ j1, j1 < n → ((kerQ (red m q n) ((frL (red m q n).2.1 (red m q n).2.2 (g + 1)).2 j0) j1 : Rat) = (kerQ (red m q n) ((frL (red m q n).2.1 (red m q n).2.2 g1).2 j0) j1)))) ∧ (g1 ≤ n) ∧ (n - g1 < n - g)) _ _ _ _ _ _ _ _ _ _ _ _))))))) ∧ ((decide (((g : Nat) : Int) < ((n : Nat) : Int))) = false → ((((frL (red m q n).2.1 (red m q n).2.2 g).1 : Nat) = ((frL (red m q n).2.1 (red m q n).2.2 n).1)) ∧ (∀ j0, j0 < ((frL (red m q n).2.1 (red m q n).2.2 g).1) → ((n : Nat) = n) ∧ (∀ j1, j1 < n → ((kerQ (red m q n) ((frL (red m q n).2.1 (red m q n).2.2 g).2 j0) j1 : Rat) = (kerQ (red m q n) ((frL (red m q n).2.1 (red m q n).2.2 n).2 j0) j1))))))))) (by kernel_rfl)
    ⟨(fun _ _ => (fun _ _ => trivial)), ⟨sReduced (m := m) (n := n) (q := q) (by omega) (by omega) (by assumption), ⟨sMatCols (m := m) (n := n) (q := q), ⟨⟨0, (rf 0), (rf 0), (rf ((red m q n).2.1 : Nat)), (leS (fun i0 => .ex (.int .i64 (((red m q n).2.2 i0 : Nat) : Int))) ((red m q n).2.1)), (rf ((n : Nat) : Int)), (by omega), (rf 0), (by rw [cntL_zero]; rfl), (rf m), (leS (fun i0 => .sl 3 (fun i1 => .rat (q i0 i1)) n) m), (rf ((n : Nat) : Int)), (rf m), (leS (fun i0 => .sl 3 (fun i1 => .rat (((red m q n).1) i0 i1)) n) m), (rf ((n : Nat) : Int)), rfl, (by omega)⟩, fun g hg => have hca := cntL_le (L := (red m q n).2.2) (c := g) (red m q n).2.1; have hfi := (fr_inv hl g hg).1; ⟨fun hc19 => have hc19 := of_decide_eq_true hc19; ⟨id, ⟨id, ⟨(fun hg => (rf ((cntL (red m q n).2.1 (red m q n).2.2 g : Nat) : Int))), ⟨(fun hg => (by have hg2 := of_guard hg; omega)), ⟨id, ⟨id, ⟨id, ⟨(by simp), ⟨fun hc32 => have hz := ker_yes hc32; ⟨(by rw [IntKind.wrap_i64]; omega), ⟨(wI (g := g) (by omega)), ⟨g + 1, (rf 0), (rf 0), (rf ((red m q n).2.1 : Nat)), (leS (fun i0 => .ex (.int .i64 (((red m q n).2.2 i0 : Nat) : Int))) ((red m q n).2.1)), (rf ((n : Nat) : Int)), (by omega), (rf 0), (by first | rw [cnt_hit hl hz] | rw [cnt_miss hl hz]), (rf m), (leS (fun i0 => .sl 3 (fun i1 => .rat (q i0 i1)) n) m), (rf ((n : Nat) : Int)), (rf m), (leS (fun i0 => .sl 3 (fun i1 => .rat (((red m q n).1) i0 i1)) n) m), (rf ((n : Nat) : Int)), (by first | rw [fr_hit hz] | rw [fr_miss hz]), (fun j0 hj0 => ⟨rfl, (fun j1 hj1 => (by first | rw [fr_hit hz] | rfl))⟩), (by omega), (by omega)⟩⟩⟩, fun hc32 => have hz := ker_no hc32; have hne0 := miss_ne hl hz; ⟨(rf 0), ⟨(rf 0), ⟨(rf ((red m q n).2.1 : Nat)), ⟨(leS (fun i0 => .ex (.int .i64 (((red m q n).2.2 i0 : Nat) : Int))) ((red m q n).2.1)), ⟨(rf ((n : Nat) : Int)), ⟨(rf ((g : Nat) : Int)), ⟨(rf 0), ⟨(rf ((cntL (red m q n).2.1 (red m q n).2.2 g : Nat) : Int)), ⟨(rf ((g : Nat) : Int)), ⟨(rf m), ⟨(leS (fun i0 => .sl 3 (fun i1 => .rat (q i0 i1)) n) m), ⟨(rf ((n : Nat) : Int)), ⟨(rf m), ⟨(leS (fun i0 => .sl 3 (fun i1 => .rat (((red m q n).1) i0 i1)) n) m), ⟨(rf ((n : Nat) : Int)), ⟨(rf ((frL (red m q n).2.1 (red m q n).2.2 g).1 : Nat)), ⟨(leS (fun i0 => .sl 3 (fun i1 => .rat (kerQ (red m q n) ((frL (red m q n).2.1 (red m q n).2.2 g).2 i0) i1)) n) ((frL (red m q n).2.1 (red m q n).2.2 g).1)), ⟨sMatCols (m := m) (n := n) (q := q), ⟨(rf ((n : Nat) : Int)), ⟨(rf ((n : Nat) : Int)), ⟨(by omega), ⟨(fun j0 hj0 => rfl), ⟨sRatInt (x := 1) (by omega) (by omega), ⟨(rf ((g : Nat) : Int)), ⟨(by omega), ⟨(by omega), ⟨(if_pos rfl).symm, ⟨(fun t ht hne => by rw [if_neg hne]), ⟨⟨0, (rf 0), (rf 0), (rf ((red m q n).2.1 : Nat)), (leS (fun i0 => .ex (.int .i64 (((red m q n).2.2 i0 : Nat) : Int))) ((red m q n).2.1)), (rf ((n : Nat) : Int)), (rf ((g : Nat) : Int)), (rf 0), (rf ((cntL (red m q n).2.1 (red m q n).2.2 g : Nat) : Int)), (rf ((g : Nat) : Int)), (rf 0), (rf ((red m q n).2.1 : Nat)), (leS (fun i0 => .ex (.int .i64 (((red m q n).2.2 i0 : Nat) : Int))) ((red m q n).2.1)), (rf (((red m q n).2.1 : Nat) : Int)), (by omega), (rf m), (leS (fun i0 => .sl 3 (fun i1 => .rat (q i0 i1)) n) m), (rf ((n : Nat) : Int)), (rf m), (leS (fun i0 => .sl 3 (fun i1 => .rat (((red m q n).1) i0 i1)) n) m), (rf ((n : Nat) : Int)), (rf ((frL (red m q n).2.1 (red m q n).2.2 g).1 : Nat)), (leS (fun i0 => .sl 3 (fun i1 => .rat (kerQ (red m q n) ((frL (red m q n).2.1 (red m q n).2.2 g).2 i0) i1)) n) ((frL (red m q n).2.1 (red m q n).2.2 g).1)), (rf n), (fun j0 hj0 => kerP_zero), (by omega)⟩, fun h hh => ⟨fun hc45 => have hc45 := of_decide_eq_true hc45; have hl2 := hlt h (by omega); ⟨(rf ((h : Nat) : Int)), ⟨(by omega), ⟨sMatAt (m := m) (n := n) (r := h) (c := g) (q := ((red m q n).1)) (by omega) (by omega), ⟨sRatNeg (q := ((red m q n).1) h g), ⟨(rf (((red m q n).2.2 h : Nat) : Int)), ⟨(by omega), ⟨(by omega), ⟨(kerP_at H (by omega) hne0), ⟨(fun t ht hne => by rw [kerP_ne hne]), ⟨(wI (g := h) (by omega)), ⟨h + 1, (rf 0), (rf 0), (rf ((red m q n).2.1 : Nat)), (leS (fun i0 => .ex (.int .i64 (((red m q n).2.2 i0 : Nat) : Int))) ((red m q n).2.1)), (rf ((n : Nat) : Int)), (rf ((g : Nat) : Int)), (rf 0), (rf ((cntL (red m q n).2.1 (red m q n).2.2 g : Nat) : Int)), (rf ((g : Nat) : Int)), (rf 0), (rf ((red m q n).2.1 : Nat)), (leS (fun i0 => .ex (.int .i64 (((red m q n).2.2 i0 : Nat) : Int))) ((red m q n).2.1)), (rf (((red m q n).2.1 : Nat) : Int)), (by omega), (rf m), (leS (fun i0 => .sl 3 (fun i1 => .rat (q i0 i1)) n) m), (rf ((n : Nat) : Int)), (rf m), (leS (fun i0 => .sl 3 (fun i1 => .rat (((red m q n).1) i0 i1)) n) m), (rf ((n : Nat) : Int)), (rf ((frL (red m q n).2.1 (red m q n).2.2 g).1 : Nat)), (leS (fun i0 => .sl 3 (fun i1 => .rat (kerQ (red m q n) ((frL (red m q n).2.1 (red m q n).2.2 g).2 i0) i1)) n) ((frL (red m q n).2.1 (red m q n).2.2 g).1)), (rf n), (fun j0 hj0 => rfl), (by omega), (by omega)⟩⟩⟩⟩⟩⟩⟩⟩⟩⟩⟩, fun hc45 => have hc45 := of_decide_eq_false hc45; have hi3 : h = (red m q n).2.1 := (by omega); ⟨(rf 0), ⟨(rf 0), ⟨(rf ((red m q n).2.1 : Nat)), ⟨(leS (fun i0 => .ex (.int .i64 (((red m q n).2.2 i0 : Nat) : Int))) ((red m q n).2.1)), ⟨(rf ((n : Nat) : Int)), ⟨(rf ((g : Nat) : Int)), ⟨(rf 0), ⟨(rf ((cntL (red m q n).2.1 (red m q n).2.2 g : Nat) : Int)), ⟨(rf n), ⟨(fun j0 hj0 => (by rw [hi3]; rfl)), ⟨(rf m), ⟨(leS (fun i0 => .sl 3 (fun i1 => .rat (q i0 i1)) n) m), ⟨(rf ((n : Nat) : Int)), ⟨(rf m), ⟨(leS (fun i0 => .sl 3 (fun i1 => .rat (((red m q n).1) i0 i1)) n) m), ⟨(rf ((n : Nat) : Int)), ⟨(rf ((frL (red m q n).2.1 (red m q n).2.2 g).1 : Nat)), ⟨(leS (fun i0 => .sl 3 (fun i1 => .rat (kerQ (red m q n) ((frL (red m q n).2.1 (red m q n).2.2 g).2 i0) i1)) n) ((frL (red m q n).2.1 (red m q n).2.2 g).1)), ⟨(by omega), ⟨(ker_old hz), ⟨(ker_new hz), ⟨(wI (g := g) (by omega)), ⟨g + 1, (rf 0), (rf 0), (rf ((red m q n).2.1 : Nat)), (leS (fun i0 => .ex (.int .i64 (((red m q n).2.2 i0 : Nat) : Int))) ((red m q n).2.1)), (rf ((n : Nat) : Int)), (by omega), (rf 0), (by first | rw [cnt_hit hl hz] | rw [cnt_miss hl hz]), (rf m), (leS (fun i0 => .sl 3 (fun i1 => .rat (q i0 i1)) n) m), (rf ((n : Nat) : Int)), (rf m), (leS (fun i0 => .sl 3 (fun i1 => .rat (((red m q n).1) i0 i1)) n) m), (rf ((n : Nat) : Int)), (by first | rw [fr_hit hz] | rw [fr_miss hz]), (fun j0 hj0 => ⟨rfl, (fun j1 hj1 => (by first | rw [fr_hit hz] | rfl))⟩), (by omega), (by omega)⟩⟩⟩⟩⟩⟩⟩⟩⟩⟩⟩⟩⟩⟩⟩⟩⟩⟩⟩⟩⟩⟩⟩⟩⟩⟩⟩⟩⟩⟩⟩⟩⟩⟩⟩⟩⟩⟩⟩⟩⟩⟩⟩⟩⟩⟩⟩⟩⟩⟩⟩⟩⟩⟩⟩⟩⟩⟩⟩⟩⟩⟩, fun hc19 => have hc19 := of_decide_eq_false hc19; have hi2 : g = n := (by omega); ⟨(by rw [hi2]), (fun j0 hj0 => ⟨rfl, (fun j1 hj1 => (by rw [hi2]))⟩)⟩⟩⟩⟩⟩⟩
open Go.RowKit
def gQ (k : Nat → Nat) (p d : Nat → Nat → Int) (r c : Nat) : Rat := oneQ (padZ (k r) (p r) c) (padZ (k r) (d r) c)
theorem gQ_sz {l : Nat} {k : Nat → Nat} {p d : Nat → Nat → Int} (h : ∀ r, r < l → ∀ c, c < k r → Wd64 (p r c) ∧ Wd64 (d r c)) {r c : Nat} (hr : r < min l 6) : szq (gQ k p d r c) ≤ 2 :=
  szq_one (padZ_wd fun hc => (h r (by omega) c hc).1) (padZ_wd fun hc => (h r (by omega) c hc).2)
end Go.Proofs.Ytlgbhpdblpekfaa
