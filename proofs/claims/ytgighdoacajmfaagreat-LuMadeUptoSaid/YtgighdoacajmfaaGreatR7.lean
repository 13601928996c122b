/- The parts SX, SIR, Ker, SE2, SIM, Row, SO, SO2. -/
import Derived.Test.YtgighdoacajmfaaGreatR6
set_option maxRecDepth 100000
namespace Go.Proofs.YtgighdoacajmfaaGreat
open Go.RowKit
theorem sgn_par : ∀ n, sgn n = if n % 2 = 1 then -1 else 1
 | 0 => rfl
 | n + 1 => by
  show - sgn n = _
  rw [sgn_par n]
  by_cases h : n % 2 = 1
  ·rw [if_pos h, if_neg zo]; rfl
  ·rw [if_neg h, if_pos zo]
def dB (E : Nat) : Nat → Nat
 | 0 => 1
 | n + 1 => (n + 1) * (E + dB E n + 2) + 1
theorem ht_sgnm (n : Nat) (x : Rat) : htq (sgn n * x) = htq x := by
 rw [sgn_par]
 split
 ·rw [show (-1 : Rat) * x = -x by grind, ht_neg]
 ·rw [show (1 : Rat) * x = x by grind]
theorem det_ht {E : Nat} : ∀ n {q : Nat → Nat → Rat}, (∀ i, i < n → ∀ j, j < n → htq (q i j) ≤ E) → htq (det n q) ≤ dB E n ∧ ∀ g, g ≤ n → htq (sumQ (fun c => sgn c * q 0 c * det (n - 1) (minor q 0 c)) g) ≤ dB E n
 | 0, q, _ => ⟨by show htq 1 ≤ 1; rw [ht_one]; omega, fun g hg => (by cases Nat.le_zero.1 hg; show htq 0 ≤ 1; rw [ht_zero]; omega)⟩
 | n + 1, q, h => by
  have hs : ∀ g, g ≤ n + 1 → htq (sumQ (fun c => sgn c * q 0 c * det n (minor q 0 c)) g) ≤ g * (E + dB E n + 2) + 1 := by
   intro g
   induction g with
   | zero => intro _; show htq 0 ≤ _; rw [ht_zero]; omega
   | succ g ih =>
    intro hg
    have h1 := ih zo
    have h2 := (det_ht n (q := minor q 0 g) fun i hi j hj => h _ (skp_lt hi) _ (skp_lt hj)).1
    have h3 := ht_add (sumQ (fun c => sgn c * q 0 c * det n (minor q 0 c)) g) (sgn g * q 0 g * det n (minor q 0 g))
    have h4 := ht_mul (sgn g * q 0 g) (det n (minor q 0 g))
    have h5 := ht_sgnm g (q 0 g)
    have h6 := h 0 zo g zo
    have h7 : (g + 1) * (E + dB E n + 2) = g * (E + dB E n + 2) + (E + dB E n + 2) := Nat.succ_mul _ _
    show htq (sumQ (fun c => sgn c * q 0 c * det n (minor q 0 c)) g + sgn g * q 0 g * det n (minor q 0 g)) ≤ _
    omega
  have hm : ∀ g, g ≤ n + 1 → g * (E + dB E n + 2) + 1 ≤ dB E (n + 1) := fun g hg => Nat.succ_le_succ (Nat.mul_le_mul_right _ hg)
  exact ⟨Nat.le_trans (hs (n + 1) (Nat.le_refl _)) (hm _ (Nat.le_refl _)), fun g hg => Nat.le_trans (hs g hg) (hm g hg)⟩
theorem dB_le {E : Nat} (hE : E ≤ 1000) : ∀ n, n ≤ 6 → dB E n ≤ 3000000
 | 0, _ => by show 1 ≤ 3000000; decide
 | 1, _ | 2, _ | 3, _ | 4, _ | 5, _ | 6, _ => by simp only [dB]; omega
 | n + 7, h => by omega
open Go.RowKit
def sgB (b : Bool) : Rat := if b = true then -1 else 1
theorem sgB_if (b : Bool) (x : Rat) : sgB b * x = if b = true then -x else x := by
 unfold sgB
 split <;> grind
theorem prodD_congr {U V : Nat → Nat → Rat} : ∀ c, (∀ k, k < c → U k k = V k k) → prodD U c = prodD V c
 | 0, _ => rfl
 | c + 1, h => by show prodD U c * U c c = prodD V c * V c c; rw [prodD_congr c fun k hk => h k zo, h c (Nat.lt_succ_self c)]
theorem prodD_ne {U : Nat → Nat → Rat} : ∀ c, (∀ k, k < c → U k k ≠ 0) → prodD U c ≠ 0
 | 0, _ => by show (1 : Rat) ≠ 0; decide
 | c + 1, h => fun e => by
  have := Rat.mul_eq_zero.1 (show prodD U c * U c c = 0 from e)
  exact this.elim (prodD_ne c fun k hk => h k zo) (h c (Nat.lt_succ_self c))
section
variable {s n : Nat} {q : Nat → Nat → Rat}
theorem lu_detI (hs : ∀ i, i < n → ∀ j, j < n → szq (q i j) ≤ s) : ∀ c, c ≤ n → luOK n q c → DetI s n q (c, (luS n q c).1, sgB (luS n q c).2.2.2.2 * prodD (luS n q c).1 c)
 | 0, _, _ => by
  show DetI s n q (0, q, sgB false * 1)
  rw [show sgB false * 1 = 1 by unfold sgB; rw [if_neg (by decide)]; grind]
  exact DetI.start hs
 | c + 1, hc, hok => by
  have H := lu_detI hs c zo fun k hk => hok k zo
  have hK := hok c (Nat.lt_succ_self c)
  have hge := luK_ge (n := n) (s := luS n q c) (c := c)
  have hpv : (luS n q c).1 (luK n (luS n q c) c) c ≠ 0 := leadK_at _ _ (show leadK _ c c (n - c) < _ by have : luK n (luS n q c) c < n := hK; unfold luK at this; omega)
  have N := H.next (K := luK n (luS n q c) c) (show c < n by omega) hge hK hpv
  show DetI s n q (c + 1, (luStep n (luS n q c) c).1, sgB (luStep n (luS n q c) c).2.2.2.2 * prodD (luStep n (luS n q c) c).1 (c + 1))
  unfold luStep
  generalize luK n (luS n q c) c = K at N hge hK
  generalize luS n q c = S at N
  obtain ⟨U, L, P, R, b⟩ := S
  have e : sgB (if K = c then b else !b) * prodD (elimQ (swapR U c K) c n) (c + 1) = (if K = c then sgB b * prodD U c else -(sgB b * prodD U c)) * swapR U c K c c := by
   show sgB _ * (prodD (elimQ (swapR U c K) c n) c * elimQ (swapR U c K) c n c c) = _
   rw [prodD_congr (V := U) c fun k hk => by
    rw [elimQ_top zo]
    show U (if k = c then K else if k = K then c else k) k = U k k
    rw [if_neg zo, if_neg zo], elimQ_top (Nat.le_refl c)]
   by_cases z : K = c
   ·rw [if_pos z, if_pos z, Rat.mul_assoc]
   ·rw [if_neg z, if_neg z]
    cases b <;> simp only [sgB, Bool.not_true, Bool.not_false, if_true, Bool.false_eq_true, if_false] <;> grind
  show DetI s n q (c + 1, elimQ (swapR U c K) c n, sgB (if K = c then b else !b) * prodD (elimQ (swapR U c K) c n) (c + 1))
  rw [e]
  exact N
theorem lu_det (hs : ∀ i, i < n → ∀ j, j < n → szq (q i j) ≤ s) (h : luOK n q n) : det n q = if (luS n q n).2.2.2.2 = true then -(prodD (luS n q n).1 n) else prodD (luS n q n).1 n := by
 rw [det_cdet, ← (lu_detI hs n (Nat.le_refl n) h).done rfl]
 exact sgB_if _ _
theorem lu_det_ne (hs : ∀ i, i < n → ∀ j, j < n → szq (q i j) ≤ s) (h : luOK n q n) : det n q ≠ 0 := by
 have hp := prodD_ne n (lu_inv (A := q) n (Nat.le_refl n) h).piv
 rw [lu_det hs h]
 split
 ·intro e; exact hp (by grind)
 ·exact hp
theorem lu_or (hs : ∀ i, i < n → ∀ j, j < n → szq (q i j) ≤ s) : ∀ c, c ≤ n → luOK n q c ∨ cdet n q = 0
 | 0, _ => .inl fun k hk => absurd hk (Nat.not_lt_zero k)
 | c + 1, hc => by
  rcases lu_or hs c zo with h | h
  ·by_cases k : luK n (luS n q c) c < n
   ·exact .inl (ok_next h k)
   ·refine .inr ((lu_detI hs c zo h).none (show c < n by omega) ?_)
    have := (leadK_le (B := (luS n q c).1) (c := c) (n - c) c).2
    show leadK (luS n q c).1 c c (n - c) = n
    have : luK n (luS n q c) c = leadK (luS n q c).1 c c (n - c) := rfl
    omega
  ·exact .inr h
theorem lu_none (hs : ∀ i, i < n → ∀ j, j < n → szq (q i j) ≤ s) (h : ¬ luOK n q n) : det n q = 0 := by
 rw [det_cdet]
 exact (lu_or hs n (Nat.le_refl n)).resolve_left h
theorem cram_div {b x : Nat → Rat} (hd : det n q ≠ 0) (h : ∀ r, r < n → sumQ (fun j => q r j * x j) n = b r) {c : Nat} (hc : c < n) : det n (putC q c b) / det n q = x c := by
 rw [det_cdet, det_cdet] at *
 rw [cramer h hc, Rat.div_def, Rat.mul_assoc, Rat.mul_inv_cancel _ hd, Rat.mul_one]
end
def solP (s : RedS) (n k j : Nat) : Rat := sumQ (fun r => if s.2.2 r = j then s.1 r n else 0) k
theorem solP_zero {s : RedS} {n j : Nat} : (0 : Rat) = solP s n 0 j := rfl
theorem solP_at {m c n : Nat} {A : Nat → Nat → Rat} {s : RedS} (H : RedInv m A c s) {k : Nat} (hk : k < s.2.1) : s.1 k n = solP s n (k + 1) (s.2.2 k) := by
 show _ = sumQ _ k + (if s.2.2 k = s.2.2 k then _ else _)
 rw [if_pos rfl, sumQ_congr k (g := fun _ => 0) fun i hi => if_neg fun e => absurd (H.inj zo hk e) zo, sumQ_zero]; grind
theorem solP_ne {s : RedS} {n k j : Nat} (h : j ≠ s.2.2 k) : solP s n (k + 1) j = solP s n k j := by
 show solP s n k j + (if s.2.2 k = j then _ else _) = _
 rw [if_neg (Ne.symm h)]; grind
open Go.RowKit
theorem ne_of_bool {z : Int} {k g : Nat} (e : z = (k : Int)) (h : (!decide (z = (g : Int))) = true) : k ≠ g := by rintro rfl; simp [e] at h
theorem eq_of_bool {z : Int} {k g : Nat} (e : z = (k : Int)) (h : (!decide (z = (g : Int))) = false) : k = g := by
 have h2 : z = (g : Int) := by simpa using h
 omega
theorem DetI.room {s n K : Nat} {q : Nat → Nat → Rat} {g : Nat × (Nat → Nat → Rat) × Rat} (H : DetI s n q g) (hn : n ≤ 6) (hs : s ≤ 1000) (hc : g.1 < n) (hK : K < n) :
  szq (if K = g.1 then g.2.2 else -g.2.2) + szq (swapR g.2.1 g.1 K g.1 g.1) ≤ 17179869184 ∧
  (∀ h, g.1 < h → h < n → szq (elimQ (swapR g.2.1 g.1 K) g.1 h h g.1) + szq (elimQ (swapR g.2.1 g.1 K) g.1 h g.1 g.1) + 1 ≤ 17179869184) ∧
  ∀ h, g.1 < h → h < n → ∀ j, j < n → szq (-(elimQ (swapR g.2.1 g.1 K) g.1 h h g.1 / elimQ (swapR g.2.1 g.1 K) g.1 h g.1 g.1)) + szq (elimQ (swapR g.2.1 g.1 K) g.1 h g.1 j) ≤ 17179869184 ∧ szq (elimQ (swapR g.2.1 g.1 K) g.1 h h j) + szq (-(elimQ (swapR g.2.1 g.1 K) g.1 h h g.1 / elimQ (swapR g.2.1 g.1 K) g.1 h g.1 g.1) * elimQ (swapR g.2.1 g.1 K) g.1 h g.1 j) ≤ 17179869184 := by
 have hsw := swap_sz hc hK H.sz
 have ht := szE_top (c := g.1) hs zo
 have h0 : 3 ≤ szE s g.1 := by have := szE_ge s g.1; omega
 have ho := H.so
 have hm : g.1 * szE s g.1 ≤ 6 * 533035323 := Nat.mul_le_mul zo ht
 refine ⟨?_, fun h h1 h2 => ?_, fun h h1 h2 j hj => ?_⟩
 ·have h4 : szq (if K = g.1 then g.2.2 else -g.2.2) = szq g.2.2 := by split; rfl; exact szq_neg _
  have := hsw g.1 hc g.1 hc
  omega
 ·rw [elimQ_end (Nat.le_refl h), elimQ_top (Nat.le_refl g.1)]
  have := hsw h h2 g.1 hc
  have := hsw g.1 hc g.1 hc
  omega
 ·rw [elimQ_end (Nat.le_refl h), elimQ_top (Nat.le_refl g.1)]
  have e := elim_sz1 h0 (hsw h h2 j hj) (hsw h h2 g.1 hc) (hsw g.1 hc g.1 hc) (hsw g.1 hc j hj)
  have := hsw g.1 hc j hj
  have := hsw h h2 j hj
  rw [szq_neg]
  omega
theorem sol_lt {m n : Nat} {q : Nat → Nat → Rat} {b : Nat → Rat} (h : ¬ noSol m n q b) : ∀ i, i < (red m (wideQ n q b) (n + 1)).2.1 → (red m (wideQ n q b) (n + 1)).2.2 i < n := fun i hi => by
 rw [red_some h] at hi ⊢
 exact (red_inv m (wideQ n q b) n).lt i hi
theorem sol_test {a n : Nat} {L : Nat → Nat} (h : ∀ i, i < a → L i < n) : (bif decide ((0 : Int) < (a : Int)) then decide (((L (a - 1) : Nat) : Int) = (n : Int)) else false) = false := by
 by_cases e : a = 0
 ·subst e; rfl
 ·have := h (a - 1) zo
  have h2 : ¬ (((L (a - 1) : Nat) : Int) = (n : Int)) := by omega
  simp [h2]
theorem sDet {q : Nat → Nat → Rat} {n s : Nat} (hn : n ≤ 6) (h1 : s ≤ 1000) (hs : ∀ i, i < n → ∀ j, j < n → szq (q i j) ≤ s) : CallOK Tryz.prog 21 [.agg (.cn (.sl 1 (mE q n) n) (.cn (.ex (.int .i64 (n : Int))) (.nl)))] (.cn (.rat (cdet n q)) (.cn (.ex (.bool true)) (.nl))) [] := by
 exact kP (ch := [.reg 1 [(1, .callS (.ex (.int .i64 (n : Int))) []), (3, .callS (.ex (.int .i64 (n : Int))) [])], .dec 15 false, .reg 3 [(1, .callS (.own 0 0) [.one (.row 69 1 (mE q n) n)])], .reg 4 [(0, .callS (.rat ((1 : Int) : Rat)) [])], .loop 6 (Nat × (Nat → Nat → Rat) × Rat) (fun g => DetI s n q g) (fun g => n - g.1) (fun g => ⟨[(2, .own 1 0), (4, .own 2 0), (5, .own 3 0), (21, .ex (.int .i64 (n : Int))), (22, .ex (.int .i64 ((g.1 : Nat) : Int)))], [(0, .one (.var 32 (.agg (.cn (.sl 1 (mE q n) n) (.cn (.ex (.int .i64 (n : Int))) (.nl)))))), (1, .one (.var 55 (.ex (.agg #[.bool false, .slice none 0 0, .slice none 0 0])))), (2, .one (.row 69 1 (mE g.2.1 n) n)), (3, .one (.var 55 (.rat g.2.2)))], 4⟩) [(0, .id 0), (1, .id 1), (2, .id 2), (3, .id 3)] (fun _ => [(0, .id 0), (1, .id 1), (2, .id 2), (3, .id 3)]) (fun g => [.reg 8 [(3, .callS (.ex (.int .i64 (leadZ g.2.1 n g.1 g.1))) [])], .reg 12 [(6, .k (leadK g.2.1 g.1 g.1 (n - g.1))), (10, .k g.1), (12, .k g.1), (13, .row 0 (mE (setR g.2.1 g.1 (g.2.1 (leadK g.2.1 g.1 g.1 (n - g.1)))) n)), (14, .k (leadK g.2.1 g.1 g.1 (n - g.1))), (15, .row 0 (mE (swapR g.2.1 g.1 (leadK g.2.1 g.1 g.1 (n - g.1))) n))], .reg 13 [(1, .callS (.rat (-g.2.2)) [])], .conv 14 [(0, .id 0), (1, .id 1), (2, .id 2), (3, .id 3)] ⟨[(2, .own 1 0), (4, .own 2 0), (5, .own 3 0), (21, .ex (.int .i64 (n : Int))), (22, .ex (.int .i64 ((g.1 : Nat) : Int))), (6, .ex (.int .i64 ((g.1 : Nat) : Int)))], [(0, .one (.var 32 (.agg (.cn (.sl 1 (mE q n) n) (.cn (.ex (.int .i64 (n : Int))) (.nl)))))), (1, .one (.var 55 (.ex (.agg #[.bool false, .slice none 0 0, .slice none 0 0])))), (2, .one (.row 69 1 (mE (swapR g.2.1 g.1 (leadK g.2.1 g.1 g.1 (n - g.1))) n) n)), (3, .one (.var 55 (.rat (if leadK g.2.1 g.1 g.1 (n - g.1) = g.1 then g.2.2 else -g.2.2))))], 4⟩, .reg 14 [(3, .k g.1), (6, .k g.1), (8, .callS (.rat ((if leadK g.2.1 g.1 g.1 (n - g.1) = g.1 then g.2.2 else -g.2.2) * ((swapR g.2.1 g.1 (leadK g.2.1 g.1 g.1 (n - g.1))) g.1 g.1))) [])], .reg 15 [(1, .z ((g.1 + 1 : Nat) : Int))], .loop 16 (Nat) (fun h => g.1 + 1 ≤ h ∧ h ≤ n) (fun h => n - h) (fun h => ⟨[(2, .own 1 0), (4, .own 2 0), (5, .own 3 0), (21, .ex (.int .i64 (n : Int))), (22, .ex (.int .i64 ((g.1 : Nat) : Int))), (6, .ex (.int .i64 ((g.1 : Nat) : Int))), (8, .ex (.int .i64 (h : Int)))], [(0, .one (.var 32 (.agg (.cn (.sl 1 (mE q n) n) (.cn (.ex (.int .i64 (n : Int))) (.nl)))))), (1, .one (.var 55 (.ex (.agg #[.bool false, .slice none 0 0, .slice none 0 0])))), (2, .one (.row 69 1 (mE (elimQ (swapR g.2.1 g.1 (leadK g.2.1 g.1 g.1 (n - g.1))) g.1 h) n) n)), (3, .one (.var 55 (.rat ((if leadK g.2.1 g.1 g.1 (n - g.1) = g.1 then g.2.2 else -g.2.2) * (swapR g.2.1 g.1 (leadK g.2.1 g.1 g.1 (n - g.1))) g.1 g.1))))], 4⟩) [(0, .id 0), (1, .id 1), (2, .id 2), (3, .id 3)] (fun _ => [(0, .id 0), (1, .id 1), (2, .id 2), (3, .id 3)]) (fun h => [.reg 18 [(2, .k h), (5, .k g.1), (9, .k g.1), (12, .k g.1), (14, .callS (.cn (.rat (((elimQ (swapR g.2.1 g.1 (leadK g.2.1 g.1 g.1 (n - g.1))) g.1 h) h g.1) / ((elimQ (swapR g.2.1 g.1 (leadK g.2.1 g.1 g.1 (n - g.1))) g.1 h) g.1 g.1))) (.cn (.ex (.bool (!decide (((elimQ (swapR g.2.1 g.1 (leadK g.2.1 g.1 g.1 (n - g.1))) g.1 h) g.1 g.1) = 0)))) (.nl))) [])], .reg 19 [(4, .k h), (7, .callS (.rat (-(((elimQ (swapR g.2.1 g.1 (leadK g.2.1 g.1 g.1 (n - g.1))) g.1 h) h g.1) / ((elimQ (swapR g.2.1 g.1 (leadK g.2.1 g.1 g.1 (n - g.1))) g.1 h) g.1 g.1)))) []), (10, .k g.1), (12, .callS (.cn (.sl 3 (fun i0 => .rat (((elimQ (swapR g.2.1 g.1 (leadK g.2.1 g.1 g.1 (n - g.1))) g.1 h) h i0) + (-(((elimQ (swapR g.2.1 g.1 (leadK g.2.1 g.1 g.1 (n - g.1))) g.1 h) h g.1) / ((elimQ (swapR g.2.1 g.1 (leadK g.2.1 g.1 g.1 (n - g.1))) g.1 h) g.1 g.1))) * ((elimQ (swapR g.2.1 g.1 (leadK g.2.1 g.1 g.1 (n - g.1))) g.1 h) g.1 i0))) n) (.cn (.ex (.bool true)) (.nl))) []), (16, .k h), (17, .row 0 (mE (elimQ (swapR g.2.1 g.1 (leadK g.2.1 g.1 g.1 (n - g.1))) g.1 (h + 1)) n))], .reg 17 [(1, .z ((h + 1 : Nat) : Int))], .reg 20 [(0, .z ((g.1 + 1 : Nat) : Int))]]), .conv 14 [(0, .id 0), (1, .id 1), (2, .id 2), (3, .id 3)] ⟨[(2, .own 1 0), (4, .own 2 0), (5, .own 3 0), (21, .ex (.int .i64 (n : Int))), (22, .ex (.int .i64 ((g.1 : Nat) : Int))), (6, .ex (.int .i64 ((g.1 : Nat) : Int)))], [(0, .one (.var 32 (.agg (.cn (.sl 1 (mE q n) n) (.cn (.ex (.int .i64 (n : Int))) (.nl)))))), (1, .one (.var 55 (.ex (.agg #[.bool false, .slice none 0 0, .slice none 0 0])))), (2, .one (.row 69 1 (mE (swapR g.2.1 g.1 (leadK g.2.1 g.1 g.1 (n - g.1))) n) n)), (3, .one (.var 55 (.rat (if leadK g.2.1 g.1 g.1 (n - g.1) = g.1 then g.2.2 else -g.2.2))))], 4⟩, .reg 14 [(3, .k g.1), (6, .k g.1), (8, .callS (.rat ((if leadK g.2.1 g.1 g.1 (n - g.1) = g.1 then g.2.2 else -g.2.2) * ((swapR g.2.1 g.1 (leadK g.2.1 g.1 g.1 (n - g.1))) g.1 g.1))) [])], .reg 15 [(1, .z ((g.1 + 1 : Nat) : Int))], .loop 16 (Nat) (fun h => g.1 + 1 ≤ h ∧ h ≤ n) (fun h => n - h) (fun h => ⟨[(2, .own 1 0), (4, .own 2 0), (5, .own 3 0), (21, .ex (.int .i64 (n : Int))), (22, .ex (.int .i64 ((g.1 : Nat) : Int))), (6, .ex (.int .i64 ((g.1 : Nat) : Int))), (8, .ex (.int .i64 (h : Int)))], [(0, .one (.var 32 (.agg (.cn (.sl 1 (mE q n) n) (.cn (.ex (.int .i64 (n : Int))) (.nl)))))), (1, .one (.var 55 (.ex (.agg #[.bool false, .slice none 0 0, .slice none 0 0])))), (2, .one (.row 69 1 (mE (elimQ (swapR g.2.1 g.1 (leadK g.2.1 g.1 g.1 (n - g.1))) g.1 h) n) n)), (3, .one (.var 55 (.rat ((if leadK g.2.1 g.1 g.1 (n - g.1) = g.1 then g.2.2 else -g.2.2) * (swapR g.2.1 g.1 (leadK g.2.1 g.1 g.1 (n - g.1))) g.1 g.1))))], 4⟩) [(0, .id 0), (1, .id 1), (2, .id 2), (3, .id 3)] (fun _ => [(0, .id 0), (1, .id 1), (2, .id 2), (3, .id 3)]) (fun h => [.reg 18 [(2, .k h), (5, .k g.1), (9, .k g.1), (12, .k g.1), (14, .callS (.cn (.rat (((elimQ (swapR g.2.1 g.1 (leadK g.2.1 g.1 g.1 (n - g.1))) g.1 h) h g.1) / ((elimQ (swapR g.2.1 g.1 (leadK g.2.1 g.1 g.1 (n - g.1))) g.1 h) g.1 g.1))) (.cn (.ex (.bool (!decide (((elimQ (swapR g.2.1 g.1 (leadK g.2.1 g.1 g.1 (n - g.1))) g.1 h) g.1 g.1) = 0)))) (.nl))) [])], .reg 19 [(4, .k h), (7, .callS (.rat (-(((elimQ (swapR g.2.1 g.1 (leadK g.2.1 g.1 g.1 (n - g.1))) g.1 h) h g.1) / ((elimQ (swapR g.2.1 g.1 (leadK g.2.1 g.1 g.1 (n - g.1))) g.1 h) g.1 g.1)))) []), (10, .k g.1), (12, .callS (.cn (.sl 3 (fun i0 => .rat (((elimQ (swapR g.2.1 g.1 (leadK g.2.1 g.1 g.1 (n - g.1))) g.1 h) h i0) + (-(((elimQ (swapR g.2.1 g.1 (leadK g.2.1 g.1 g.1 (n - g.1))) g.1 h) h g.1) / ((elimQ (swapR g.2.1 g.1 (leadK g.2.1 g.1 g.1 (n - g.1))) g.1 h) g.1 g.1))) * ((elimQ (swapR g.2.1 g.1 (leadK g.2.1 g.1 g.1 (n - g.1))) g.1 h) g.1 i0))) n) (.cn (.ex (.bool true)) (.nl))) []), (16, .k h), (17, .row 0 (mE (elimQ (swapR g.2.1 g.1 (leadK g.2.1 g.1 g.1 (n - g.1))) g.1 (h + 1)) n))], .reg 17 [(1, .z ((h + 1 : Nat) : Int))], .reg 20 [(0, .z ((g.1 + 1 : Nat) : Int))]])])]) Tryz.func21 ((∀ j0, j0 < n → (∀ j1, j1 < n → True)) ∧ _ ∧ _ ∧ ((!decide ((n : Int) = (n : Int))) = false) ∧ _ ∧ _ ∧ (((fun X1 X2 X3 X4 X5 X6 X7 X8 : Prop => ∃ g0 : Nat × (Nat → Nat → Rat) × Rat, X1 ∧ X2 ∧ X3 ∧ X4 ∧ ((0 : Int) = ((g0.1 : Nat) : Int)) ∧ X5 ∧ X6 ∧ X7 ∧ ((.agg #[.bool false, .slice none 0 0, .slice none 0 0] : Value) = .agg #[.bool false, .slice none 0 0, .slice none 0 0]) ∧ X8 ∧ (∀ j0, j0 < n → ((n : Nat) = n) ∧ (∀ j1, j1 < n → ((q j0 j1 : Rat) = (g0.2.1 j0 j1)))) ∧ ((((1 : Int) : Rat) : Rat) = g0.2.2) ∧ (DetI s n q g0)) _ _ _ _ _ _ _ _) ∧ ∀ g : Nat × (Nat → Nat → Rat) × Rat, (DetI s n q g) → (((decide (((g.1 : Nat) : Int) < (n : Int))) = true → _ ∧ (((decide ((leadZ g.2.1 n g.1 g.1 : Int) < 0)) = true → (((cdet n q : Rat) = 0) ∧ _)) ∧ ((decide ((leadZ g.2.1 n g.1 g.1 : Int) < 0)) = false → (((!decide ((leadZ g.2.1 n g.1 g.1 : Int) = ((g.1 : Nat) : Int))) = true → ((leadZ g.2.1 n g.1 g.1 : Int) = (leadK g.2.1 g.1 g.1 (n - g.1) : Int)) ∧ ((leadK g.2.1 g.1 g.1 (n - g.1)) < n) ∧ ((leadK g.2.1 g.1 g.1 (n - g.1)) < n) ∧ _ ∧ (g.1 < n) ∧ (g.1 < n) ∧ _ ∧ (g.1 < n) ∧ (g.1 < n) ∧ (((n : Nat) = n) ∧ (∀ j0, j0 < n → ((g.2.1 (leadK g.2.1 g.1 g.1 (n - g.1)) j0 : Rat) = ((setR g.2.1 g.1 (g.2.1 (leadK g.2.1 g.1 g.1 (n - g.1)))) g.1 j0)))) ∧ (∀ t, t < n → t ≠ g.1 → (.sl 3 (fun i0 => .rat ((setR g.2.1 g.1 (g.2.1 (leadK g.2.1 g.1 g.1 (n - g.1)))) t i0)) n : SV) = .sl 3 (fun i0 => .rat (g.2.1 t i0)) n) ∧ ((leadZ g.2.1 n g.1 g.1 : Int) = (leadK g.2.1 g.1 g.1 (n - g.1) : Int)) ∧ ((leadK g.2.1 g.1 g.1 (n - g.1)) < n) ∧ ((leadK g.2.1 g.1 g.1 (n - g.1)) < n) ∧ (((n : Nat) = n) ∧ (∀ j0, j0 < n → ((g.2.1 g.1 j0 : Rat) = ((swapR g.2.1 g.1 (leadK g.2.1 g.1 g.1 (n - g.1))) (leadK g.2.1 g.1 g.1 (n - g.1)) j0)))) ∧ (∀ t, t < n → t ≠ (leadK g.2.1 g.1 g.1 (n - g.1)) → (.sl 3 (fun i0 => .rat ((swapR g.2.1 g.1 (leadK g.2.1 g.1 g.1 (n - g.1))) t i0)) n : SV) = .sl 3 (fun i0 => .rat ((setR g.2.1 g.1 (g.2.1 (leadK g.2.1 g.1 g.1 (n - g.1)))) t i0)) n) ∧ _ ∧ _ ∧ _ ∧ _ ∧ _ ∧ _ ∧ _ ∧ _ ∧ _ ∧ _ ∧ ((.agg #[.bool false, .slice none 0 0, .slice none 0 0] : Value) = .agg #[.bool false, .slice none 0 0, .slice none 0 0]) ∧ _ ∧ _ ∧ ((-g.2.2 : Rat) = (if leadK g.2.1 g.1 g.1 (n - g.1) = g.1 then g.2.2 else -g.2.2)) ∧ _ ∧ (g.1 < n) ∧ (g.1 < n) ∧ _ ∧ (g.1 < n) ∧ _ ∧ _ ∧ (((fun X1 X2 X3 X4 X5 X6 X7 X8 X9 X10 : Prop => ∃ h0 : Nat, X1 ∧ X2 ∧ X3 ∧ X4 ∧ X5 ∧ X6 ∧ (((g.1 + 1 : Nat) : Int) = (h0 : Int)) ∧ X7 ∧ X8 ∧ X9 ∧ ((.agg #[.bool false, .slice none 0 0, .slice none 0 0] : Value) = .agg #[.bool false, .slice none 0 0, .slice none 0 0]) ∧ X10 ∧ (∀ j0, j0 < n → ((n : Nat) = n) ∧ (∀ j1, j1 < n → (((swapR g.2.1 g.1 (leadK g.2.1 g.1 g.1 (n - g.1))) j0 j1 : Rat) = ((elimQ (swapR g.2.1 g.1 (leadK g.2.1 g.1 g.1 (n - g.1))) g.1 h0) j0 j1)))) ∧ (((if leadK g.2.1 g.1 g.1 (n - g.1) = g.1 then g.2.2 else -g.2.2) * ((swapR g.2.1 g.1 (leadK g.2.1 g.1 g.1 (n - g.1))) g.1 g.1) : Rat) = ((if leadK g.2.1 g.1 g.1 (n - g.1) = g.1 then g.2.2 else -g.2.2) * (swapR g.2.1 g.1 (leadK g.2.1 g.1 g.1 (n - g.1))) g.1 g.1)) ∧ (g.1 + 1 ≤ h0 ∧ h0 ≤ n)) _ _ _ _ _ _ _ _ _ _) ∧ ∀ h : Nat, (g.1 + 1 ≤ h ∧ h ≤ n) → (((decide ((h : Int) < (n : Int))) = true → _ ∧ (h < n) ∧ (h < n) ∧ _ ∧ (g.1 < n) ∧ _ ∧ (g.1 < n) ∧ (g.1 < n) ∧ _ ∧ (g.1 < n) ∧ _ ∧ _ ∧ (h < n) ∧ (h < n) ∧ _ ∧ _ ∧ (g.1 < n) ∧ (g.1 < n) ∧ _ ∧ _ ∧ (h < n) ∧ (h < n) ∧ (((n : Nat) = n) ∧ (∀ j0, j0 < n → ((((elimQ (swapR g.2.1 g.1 (leadK g.2.1 g.1 g.1 (n - g.1))) g.1 h) h j0) + (-(((elimQ (swapR g.2.1 g.1 (leadK g.2.1 g.1 g.1 (n - g.1))) g.1 h) h g.1) / ((elimQ (swapR g.2.1 g.1 (leadK g.2.1 g.1 g.1 (n - g.1))) g.1 h) g.1 g.1))) * ((elimQ (swapR g.2.1 g.1 (leadK g.2.1 g.1 g.1 (n - g.1))) g.1 h) g.1 j0) : Rat) = ((elimQ (swapR g.2.1 g.1 (leadK g.2.1 g.1 g.1 (n - g.1))) g.1 (h + 1)) h j0)))) ∧ (∀ t, t < n → t ≠ h → (.sl 3 (fun i0 => .rat ((elimQ (swapR g.2.1 g.1 (leadK g.2.1 g.1 g.1 (n - g.1))) g.1 (h + 1)) t i0)) n : SV) = .sl 3 (fun i0 => .rat ((elimQ (swapR g.2.1 g.1 (leadK g.2.1 g.1 g.1 (n - g.1))) g.1 h) t i0)) n) ∧ _ ∧ ((fun X1 X2 X3 X4 X5 X6 X7 X8 X9 X10 X11 : Prop => ∃ h1 : Nat, X1 ∧ X2 ∧ X3 ∧ X4 ∧ X5 ∧ X6 ∧ (((h + 1 : Nat) : Int) = (h1 : Int)) ∧ X7 ∧ X8 ∧ X9 ∧ ((.agg #[.bool false, .slice none 0 0, .slice none 0 0] : Value) = .agg #[.bool false, .slice none 0 0, .slice none 0 0]) ∧ X10 ∧ (∀ j0, j0 < n → ((n : Nat) = n) ∧ (∀ j1, j1 < n → (((elimQ (swapR g.2.1 g.1 (leadK g.2.1 g.1 g.1 (n - g.1))) g.1 (h + 1)) j0 j1 : Rat) = ((elimQ (swapR g.2.1 g.1 (leadK g.2.1 g.1 g.1 (n - g.1))) g.1 h1) j0 j1)))) ∧ X11 ∧ (g.1 + 1 ≤ h1 ∧ h1 ≤ n) ∧ (n - h1 < n - h)) _ _ _ _ _ _ _ _ _ _ _)) ∧ ((decide ((h : Int) < (n : Int))) = false → _ ∧ ((fun X1 X2 X3 X4 X5 X6 X7 X8 : Prop => ∃ g1 : Nat × (Nat → Nat → Rat) × Rat, X1 ∧ X2 ∧ X3 ∧ X4 ∧ (((g.1 + 1 : Nat) : Int) = ((g1.1 : Nat) : Int)) ∧ X5 ∧ X6 ∧ X7 ∧ ((.agg #[.bool false, .slice none 0 0, .slice none 0 0] : Value) = .agg #[.bool false, .slice none 0 0, .slice none 0 0]) ∧ X8 ∧ (∀ j0, j0 < n → ((n : Nat) = n) ∧ (∀ j1, j1 < n → (((elimQ (swapR g.2.1 g.1 (leadK g.2.1 g.1 g.1 (n - g.1))) g.1 h) j0 j1 : Rat) = (g1.2.1 j0 j1)))) ∧ ((((if leadK g.2.1 g.1 g.1 (n - g.1) = g.1 then g.2.2 else -g.2.2) * (swapR g.2.1 g.1 (leadK g.2.1 g.1 g.1 (n - g.1))) g.1 g.1) : Rat) = g1.2.2) ∧ (DetI s n q g1) ∧ (n - g1.1 < n - g.1)) _ _ _ _ _ _ _ _))))) ∧ ((!decide ((leadZ g.2.1 n g.1 g.1 : Int) = ((g.1 : Nat) : Int))) = false → _ ∧ _ ∧ _ ∧ _ ∧ _ ∧ _ ∧ _ ∧ _ ∧ _ ∧ ((.agg #[.bool false, .slice none 0 0, .slice none 0 0] : Value) = .agg #[.bool false, .slice none 0 0, .slice none 0 0]) ∧ _ ∧ (∀ j0, j0 < n → ((n : Nat) = n) ∧ (∀ j1, j1 < n → ((g.2.1 j0 j1 : Rat) = ((swapR g.2.1 g.1 (leadK g.2.1 g.1 g.1 (n - g.1))) j0 j1)))) ∧ ((g.2.2 : Rat) = (if leadK g.2.1 g.1 g.1 (n - g.1) = g.1 then g.2.2 else -g.2.2)) ∧ _ ∧ (g.1 < n) ∧ (g.1 < n) ∧ _ ∧ (g.1 < n) ∧ _ ∧ _ ∧ (((fun X1 X2 X3 X4 X5 X6 X7 X8 X9 X10 : Prop => ∃ h0 : Nat, X1 ∧ X2 ∧ X3 ∧ X4 ∧ X5 ∧ X6 ∧ (((g.1 + 1 : Nat) : Int) = (h0 : Int)) ∧ X7 ∧ X8 ∧ X9 ∧ ((.agg #[.bool false, .slice none 0 0, .slice none 0 0] : Value) = .agg #[.bool false, .slice none 0 0, .slice none 0 0]) ∧ X10 ∧ (∀ j0, j0 < n → ((n : Nat) = n) ∧ (∀ j1, j1 < n → (((swapR g.2.1 g.1 (leadK g.2.1 g.1 g.1 (n - g.1))) j0 j1 : Rat) = ((elimQ (swapR g.2.1 g.1 (leadK g.2.1 g.1 g.1 (n - g.1))) g.1 h0) j0 j1)))) ∧ (((if leadK g.2.1 g.1 g.1 (n - g.1) = g.1 then g.2.2 else -g.2.2) * ((swapR g.2.1 g.1 (leadK g.2.1 g.1 g.1 (n - g.1))) g.1 g.1) : Rat) = ((if leadK g.2.1 g.1 g.1 (n - g.1) = g.1 then g.2.2 else -g.2.2) * (swapR g.2.1 g.1 (leadK g.2.1 g.1 g.1 (n - g.1))) g.1 g.1)) ∧ (g.1 + 1 ≤ h0 ∧ h0 ≤ n)) _ _ _ _ _ _ _ _ _ _) ∧ ∀ h : Nat, (g.1 + 1 ≤ h ∧ h ≤ n) → (((decide ((h : Int) < (n : Int))) = true → _ ∧ (h < n) ∧ (h < n) ∧ _ ∧ (g.1 < n) ∧ _ ∧ (g.1 < n) ∧ (g.1 < n) ∧ _ ∧ (g.1 < n) ∧ _ ∧ _ ∧ (h < n) ∧ (h < n) ∧ _ ∧ _ ∧ (g.1 < n) ∧ (g.1 < n) ∧ _ ∧ _ ∧ (h < n) ∧ (h < n) ∧ (((n : Nat) = n) ∧ (∀ j0, j0 < n → ((((elimQ (swapR g.2.1 g.1 (leadK g.2.1 g.1 g.1 (n - g.1))) g.1 h) h j0) + (-(((elimQ (swapR g.2.1 g.1 (leadK g.2.1 g.1 g.1 (n - g.1))) g.1 h) h g.1) / ((elimQ (swapR g.2.1 g.1 (leadK g.2.1 g.1 g.1 (n - g.1))) g.1 h) g.1 g.1))) * ((elimQ (swapR g.2.1 g.1 (leadK g.2.1 g.1 g.1 (n - g.1))) g.1 h) g.1 j0) : Rat) = ((elimQ (swapR g.2.1 g.1 (leadK g.2.1 g.1 g.1 (n - g.1))) g.1 (h + 1)) h j0)))) ∧ (∀ t, t < n → t ≠ h → (.sl 3 (fun i0 => .rat ((elimQ (swapR g.2.1 g.1 (leadK g.2.1 g.1 g.1 (n - g.1))) g.1 (h + 1)) t i0)) n : SV) = .sl 3 (fun i0 => .rat ((elimQ (swapR g.2.1 g.1 (leadK g.2.1 g.1 g.1 (n - g.1))) g.1 h) t i0)) n) ∧ _ ∧ ((fun X1 X2 X3 X4 X5 X6 X7 X8 X9 X10 X11 : Prop => ∃ h1 : Nat, X1 ∧ X2 ∧ X3 ∧ X4 ∧ X5 ∧ X6 ∧ (((h + 1 : Nat) : Int) = (h1 : Int)) ∧ X7 ∧ X8 ∧ X9 ∧ ((.agg #[.bool false, .slice none 0 0, .slice none 0 0] : Value) = .agg #[.bool false, .slice none 0 0, .slice none 0 0]) ∧ X10 ∧ (∀ j0, j0 < n → ((n : Nat) = n) ∧ (∀ j1, j1 < n → (((elimQ (swapR g.2.1 g.1 (leadK g.2.1 g.1 g.1 (n - g.1))) g.1 (h + 1)) j0 j1 : Rat) = ((elimQ (swapR g.2.1 g.1 (leadK g.2.1 g.1 g.1 (n - g.1))) g.1 h1) j0 j1)))) ∧ X11 ∧ (g.1 + 1 ≤ h1 ∧ h1 ≤ n) ∧ (n - h1 < n - h)) _ _ _ _ _ _ _ _ _ _ _)) ∧ ((decide ((h : Int) < (n : Int))) = false → _ ∧ ((fun X1 X2 X3 X4 X5 X6 X7 X8 : Prop => ∃ g1 : Nat × (Nat → Nat → Rat) × Rat, X1 ∧ X2 ∧ X3 ∧ X4 ∧ (((g.1 + 1 : Nat) : Int) = ((g1.1 : Nat) : Int)) ∧ X5 ∧ X6 ∧ X7 ∧ ((.agg #[.bool false, .slice none 0 0, .slice none 0 0] : Value) = .agg #[.bool false, .slice none 0 0, .slice none 0 0]) ∧ X8 ∧ (∀ j0, j0 < n → ((n : Nat) = n) ∧ (∀ j1, j1 < n → (((elimQ (swapR g.2.1 g.1 (leadK g.2.1 g.1 g.1 (n - g.1))) g.1 h) j0 j1 : Rat) = (g1.2.1 j0 j1)))) ∧ ((((if leadK g.2.1 g.1 g.1 (n - g.1) = g.1 then g.2.2 else -g.2.2) * (swapR g.2.1 g.1 (leadK g.2.1 g.1 g.1 (n - g.1))) g.1 g.1) : Rat) = g1.2.2) ∧ (DetI s n q g1) ∧ (n - g1.1 < n - g.1)) _ _ _ _ _ _ _ _))))))))) ∧ ((decide (((g.1 : Nat) : Int) < (n : Int))) = false → (((g.2.2 : Rat) = (cdet n q)) ∧ _)))))
  ⟨(fun _ _ => (fun _ _ => trivial)), sMatRows (m := n) (n := n) (q := q), sMatCols (m := n) (n := n) (q := q), (by simp), sRowsOf (m := n) (n := n) (q := q) zo zo, sRatInt (x := 1) zo zo, ⟨(0, q, 1), (rf 0), (rf 0), (rf 0), (rf (n : Int)), rfl, (rf n), (leS (mE q n) n), (rf (n : Int)), rfl, (rf n), (fun j0 hj0 => ⟨rfl, (fun j1 hj1 => rfl)⟩), rfl, (DetI.start hs)⟩, fun g hg => have hg1 := hg.le; ⟨fun hc23 => have hc23 := dT hc23; ⟨sLead (m := n) (n := n) (a := g.1) (c := g.1) (q := g.2.1) zo zo zo, fun hc30 => have hc30 := dT hc30; have hk2 := lead_no hc30; have hk1 := leadK_le (B := g.2.1) (c := g.1) (n - g.1) g.1; ⟨(hg.none zo zo), (rf (true : Bool))⟩, fun hc30 => have hc30 := dF hc30; have hk2 := lead_yes hc30; have hk1 := leadK_le (B := g.2.1) (c := g.1) (n - g.1) g.1; have hp := leadK_at (B := g.2.1) (c := g.1) (n - g.1) g.1 zo; have hR := hg.room hn h1 zo hk2; have hd := hg.next zo hk1.1 hk2 hp; ⟨fun hc34 => have hk3 := ne_of_bool (leadZ_pos hk2) hc34; ⟨(leadZ_pos hk2), zo, zo, (rf ((g.1 : Nat) : Int)), zo, zo, (rf ((g.1 : Nat) : Int)), zo, zo, ⟨rfl, (fun j0 hj0 => (if_pos rfl).symm)⟩, (fun t ht hne => by simp only [setR_ne hne]), (leadZ_pos hk2), zo, zo, ⟨rfl, (fun j0 hj0 => (swap_at))⟩, (fun t ht hne => by simp only [swap_other hne]), sRatNeg (q := g.2.2), (rf 0), (rf 0), (rf 0), (rf (n : Int)), (rf ((g.1 : Nat) : Int)), (rf ((g.1 : Nat) : Int)), (rf n), (leS (mE q n) n), (rf (n : Int)), rfl, (rf n), (leS (mE (swapR g.2.1 g.1 (leadK g.2.1 g.1 g.1 (n - g.1))) n) n), (by first | exact (if_neg hk3).symm | exact (if_pos hk3).symm), (rf ((g.1 : Nat) : Int)), zo, zo, (rf ((g.1 : Nat) : Int)), zo, sRatMul (p := if leadK g.2.1 g.1 g.1 (n - g.1) = g.1 then g.2.2 else -g.2.2) (q := (swapR g.2.1 g.1 (leadK g.2.1 g.1 g.1 (n - g.1))) g.1 g.1) hR.1, (wI (g := g.1) zo), ⟨g.1 + 1, (rf 0), (rf 0), (rf 0), (rf (n : Int)), (rf ((g.1 : Nat) : Int)), (rf ((g.1 : Nat) : Int)), zo, (rf n), (leS (mE q n) n), (rf (n : Int)), rfl, (rf n), (fun j0 hj0 => ⟨rfl, (fun j1 hj1 => elimQ_zero)⟩), rfl, Nat.le_refl _, by omega⟩, fun h hh0 => have hh1 := hh0.1; have hh2 := hh0.2; ⟨fun hc65 => have hc65 := dT hc65; have hh : g.1 < h ∧ h < n := ⟨by omega, by omega⟩; ⟨(rf (h : Int)), zo, zo, (rf ((g.1 : Nat) : Int)), zo, (rf ((g.1 : Nat) : Int)), zo, zo, (rf ((g.1 : Nat) : Int)), zo, sRatDiv (p := (elimQ (swapR g.2.1 g.1 (leadK g.2.1 g.1 g.1 (n - g.1))) g.1 h) h g.1) (q := (elimQ (swapR g.2.1 g.1 (leadK g.2.1 g.1 g.1 (n - g.1))) g.1 h) g.1 g.1) (hR.2.1 h hh.1 hh.2), (rf (h : Int)), zo, zo, sRatNeg (q := ((elimQ (swapR g.2.1 g.1 (leadK g.2.1 g.1 g.1 (n - g.1))) g.1 h) h g.1) / ((elimQ (swapR g.2.1 g.1 (leadK g.2.1 g.1 g.1 (n - g.1))) g.1 h) g.1 g.1)), (rf ((g.1 : Nat) : Int)), zo, zo, (sVecAddTimes (a := (elimQ (swapR g.2.1 g.1 (leadK g.2.1 g.1 g.1 (n - g.1))) g.1 h) h) (b := (elimQ (swapR g.2.1 g.1 (leadK g.2.1 g.1 g.1 (n - g.1))) g.1 h) g.1) (n := n) (r := - (((elimQ (swapR g.2.1 g.1 (leadK g.2.1 g.1 g.1 (n - g.1))) g.1 h) h g.1) / ((elimQ (swapR g.2.1 g.1 (leadK g.2.1 g.1 g.1 (n - g.1))) g.1 h) g.1 g.1))) zo (hR.2.2 h hh.1 hh.2)).frzV2, (rf (h : Int)), zo, zo, ⟨rfl, (fun j0 hj0 => (elim_now zo))⟩, (fun t ht hne => by simp only [elimQ_ne hne]), (wI (g := h) zo), h + 1, (rf 0), (rf 0), (rf 0), (rf (n : Int)), (rf ((g.1 : Nat) : Int)), (rf ((g.1 : Nat) : Int)), zo, (rf n), (leS (mE q n) n), (rf (n : Int)), rfl, (rf n), (fun j0 hj0 => ⟨rfl, (fun j1 hj1 => rfl)⟩), (rf (((if leadK g.2.1 g.1 g.1 (n - g.1) = g.1 then g.2.2 else -g.2.2) * (swapR g.2.1 g.1 (leadK g.2.1 g.1 g.1 (n - g.1))) g.1 g.1) : Rat)), ⟨by omega, by omega⟩, zo⟩, fun hc65 => have hc65 := dF hc65; have hi3 : h = n := zo; ⟨(wI (g := g.1) zo), (g.1 + 1, elimQ (swapR g.2.1 g.1 (leadK g.2.1 g.1 g.1 (n - g.1))) g.1 n, ((if leadK g.2.1 g.1 g.1 (n - g.1) = g.1 then g.2.2 else -g.2.2) * (swapR g.2.1 g.1 (leadK g.2.1 g.1 g.1 (n - g.1))) g.1 g.1)), (rf 0), (rf 0), (rf 0), (rf (n : Int)), rfl, (rf n), (leS (mE q n) n), (rf (n : Int)), rfl, (rf n), (fun j0 hj0 => ⟨rfl, (fun j1 hj1 => (by simp only [hi3]))⟩), rfl, hd, (by show n - (g.1 + 1) < n - g.1; omega)⟩⟩⟩, fun hc34 => have hk3 := eq_of_bool (leadZ_pos hk2) hc34; ⟨(rf 0), (rf 0), (rf 0), (rf (n : Int)), (rf ((g.1 : Nat) : Int)), (rf ((g.1 : Nat) : Int)), (rf n), (leS (mE q n) n), (rf (n : Int)), rfl, (rf n), (fun j0 hj0 => ⟨rfl, (fun j1 hj1 => (by first | rfl | exact (swap_same hk3).symm))⟩), (by first | exact (if_neg hk3).symm | exact (if_pos hk3).symm), (rf ((g.1 : Nat) : Int)), zo, zo, (rf ((g.1 : Nat) : Int)), zo, sRatMul (p := if leadK g.2.1 g.1 g.1 (n - g.1) = g.1 then g.2.2 else -g.2.2) (q := (swapR g.2.1 g.1 (leadK g.2.1 g.1 g.1 (n - g.1))) g.1 g.1) hR.1, (wI (g := g.1) zo), ⟨g.1 + 1, (rf 0), (rf 0), (rf 0), (rf (n : Int)), (rf ((g.1 : Nat) : Int)), (rf ((g.1 : Nat) : Int)), zo, (rf n), (leS (mE q n) n), (rf (n : Int)), rfl, (rf n), (fun j0 hj0 => ⟨rfl, (fun j1 hj1 => elimQ_zero)⟩), rfl, Nat.le_refl _, by omega⟩, fun h hh0 => have hh1 := hh0.1; have hh2 := hh0.2; ⟨fun hc65 => have hc65 := dT hc65; have hh : g.1 < h ∧ h < n := ⟨by omega, by omega⟩; ⟨(rf (h : Int)), zo, zo, (rf ((g.1 : Nat) : Int)), zo, (rf ((g.1 : Nat) : Int)), zo, zo, (rf ((g.1 : Nat) : Int)), zo, sRatDiv (p := (elimQ (swapR g.2.1 g.1 (leadK g.2.1 g.1 g.1 (n - g.1))) g.1 h) h g.1) (q := (elimQ (swapR g.2.1 g.1 (leadK g.2.1 g.1 g.1 (n - g.1))) g.1 h) g.1 g.1) (hR.2.1 h hh.1 hh.2), (rf (h : Int)), zo, zo, sRatNeg (q := ((elimQ (swapR g.2.1 g.1 (leadK g.2.1 g.1 g.1 (n - g.1))) g.1 h) h g.1) / ((elimQ (swapR g.2.1 g.1 (leadK g.2.1 g.1 g.1 (n - g.1))) g.1 h) g.1 g.1)), (rf ((g.1 : Nat) : Int)), zo, zo, (sVecAddTimes (a := (elimQ (swapR g.2.1 g.1 (leadK g.2.1 g.1 g.1 (n - g.1))) g.1 h) h) (b := (elimQ (swapR g.2.1 g.1 (leadK g.2.1 g.1 g.1 (n - g.1))) g.1 h) g.1) (n := n) (r := - (((elimQ (swapR g.2.1 g.1 (leadK g.2.1 g.1 g.1 (n - g.1))) g.1 h) h g.1) / ((elimQ (swapR g.2.1 g.1 (leadK g.2.1 g.1 g.1 (n - g.1))) g.1 h) g.1 g.1))) zo (hR.2.2 h hh.1 hh.2)).frzV2, (rf (h : Int)), zo, zo, ⟨rfl, (fun j0 hj0 => (elim_now zo))⟩, (fun t ht hne => by simp only [elimQ_ne hne]), (wI (g := h) zo), h + 1, (rf 0), (rf 0), (rf 0), (rf (n : Int)), (rf ((g.1 : Nat) : Int)), (rf ((g.1 : Nat) : Int)), zo, (rf n), (leS (mE q n) n), (rf (n : Int)), rfl, (rf n), (fun j0 hj0 => ⟨rfl, (fun j1 hj1 => rfl)⟩), (rf (((if leadK g.2.1 g.1 g.1 (n - g.1) = g.1 then g.2.2 else -g.2.2) * (swapR g.2.1 g.1 (leadK g.2.1 g.1 g.1 (n - g.1))) g.1 g.1) : Rat)), ⟨by omega, by omega⟩, zo⟩, fun hc65 => have hc65 := dF hc65; have hi3 : h = n := zo; ⟨(wI (g := g.1) zo), (g.1 + 1, elimQ (swapR g.2.1 g.1 (leadK g.2.1 g.1 g.1 (n - g.1))) g.1 n, ((if leadK g.2.1 g.1 g.1 (n - g.1) = g.1 then g.2.2 else -g.2.2) * (swapR g.2.1 g.1 (leadK g.2.1 g.1 g.1 (n - g.1))) g.1 g.1)), (rf 0), (rf 0), (rf 0), (rf (n : Int)), rfl, (rf n), (leS (mE q n) n), (rf (n : Int)), rfl, (rf n), (fun j0 hj0 => ⟨rfl, (fun j1 hj1 => (by simp only [hi3]))⟩), rfl, hd, (by show n - (g.1 + 1) < n - g.1; omega)⟩⟩⟩⟩⟩, fun hc23 => have hc23 := dF hc23; have hi2 : g.1 = n := zo; ⟨(hg.done hi2), (rf (true : Bool))⟩⟩⟩
theorem sDet_no {q : Nat → Nat → Rat} {m n : Nat} (h : m ≠ n) : CallOK Tryz.prog 21 [.agg (.cn (.sl 1 (mE q n) m) (.cn (.ex (.int .i64 (n : Int))) (.nl)))] (.cn (.rat 0) (.cn (.ex (.bool false)) (.nl))) [] := by
 exact kP (ch := [.reg 1 [(1, .callS (.ex (.int .i64 (m : Int))) []), (3, .callS (.ex (.int .i64 (n : Int))) [])], .dec 15 true]) Tryz.func21 ((∀ j0, j0 < m → (∀ j1, j1 < n → True)) ∧ _ ∧ _ ∧ ((!decide ((m : Int) = (n : Int))) = true) ∧ (_ ∧ _))
  ⟨(fun _ _ => (fun _ _ => trivial)), sMatRows (m := m) (n := n) (q := q), sMatCols (m := m) (n := n) (q := q), (by simp; omega), (rf (0 : Rat)), (rf (false : Bool))⟩
theorem sSolveY {q : Nat → Nat → Rat} {b : Nat → Rat} {m n : Nat} (hm : m ≤ 64) (hn : n < 64) (hs : ∀ c, c ≤ n + 1 → HtB m (n + 1) 100000000 (red m (wideQ n q b) c).1) (h : ¬ noSol m n q b) : CallOK Tryz.prog 35 [.agg (.cn (.sl 1 (mE q n) m) (.cn (.ex (.int .i64 (n : Int))) (.nl))), .sl 3 (fun i0 => .rat (b i0)) m] (.cn (.sl 3 (fun i0 => .rat (solQ (red m (wideQ n q b) (n + 1)) n i0)) n) (.cn (.ex (.int .i64 (if (red m (wideQ n q b) (n + 1)).2.1 < n then 3 else 2))) (.cn (.ex (.bool true)) (.nl)))) [] := by
 have H := red_inv m (wideQ n q b) (n + 1)
 have hw := H.am
 have hl : ∀ i, i < (red m (wideQ n q b) (n + 1)).2.1 → (red m (wideQ n q b) (n + 1)).2.2 i < n := sol_lt h
 exact kP (ch := [.reg 1 [(2, .callS (.cn (.agg (.cn (.sl 1 (fun i0 => .sl 3 (fun i1 => .rat (wideQ n q b i0 i1)) (n + 1)) m) (.cn (.ex (.int .i64 ((n + 1 : Nat) : Int))) (.nl)))) (.cn (.ex (.bool true)) (.nl))) [])], .dec 22 false, .reg 4 [(1, .callS (.cn (.agg (.cn (.sl 1 (mE ((red m (wideQ n q b) (n + 1)).1) (n + 1)) m) (.cn (.ex (.int .i64 ((n + 1 : Nat) : Int))) (.nl)))) (.cn (.sl 1 (fun i0 => .ex (.int .i64 (((red m (wideQ n q b) (n + 1)).2.2 i0 : Nat) : Int))) ((red m (wideQ n q b) (n + 1)).2.1)) (.nl))) [])], .reg 6 [(5, .z (((red m (wideQ n q b) (n + 1)).2.1 - 1 : Nat) : Int)), (6, .k ((red m (wideQ n q b) (n + 1)).2.1 - 1)), (9, .callS (.ex (.int .i64 (n : Int))) [])], .dec 41 false, .reg 8 [(1, .callS (.ex (.int .i64 (n : Int))) []), (2, .row n (fun _ => .rat 0))], .loop 10 (Nat) (fun g => g ≤ (red m (wideQ n q b) (n + 1)).2.1) (fun g => (red m (wideQ n q b) (n + 1)).2.1 - g) (fun g => ⟨[(2, .own 0 0), (9, .own 2 0), (10, .sl 1 (fun i0 => .ex (.int .i64 (((red m (wideQ n q b) (n + 1)).2.2 i0 : Nat) : Int))) ((red m (wideQ n q b) (n + 1)).2.1)), (11, .ex (.int .i64 (((red m (wideQ n q b) (n + 1)).2.1 : Nat) : Int))), (12, .own 3 0), (45, .sl 1 (fun i0 => .ex (.int .i64 (((red m (wideQ n q b) (n + 1)).2.2 i0 : Nat) : Int))) ((red m (wideQ n q b) (n + 1)).2.1)), (46, .ex (.int .i64 (((red m (wideQ n q b) (n + 1)).2.1 : Nat) : Int))), (47, .ex (.int .i64 (g : Int)))], [(0, .one (.var 32 (.agg (.cn (.sl 1 (mE q n) m) (.cn (.ex (.int .i64 (n : Int))) (.nl)))))), (2, .one (.var 32 (.agg (.cn (.sl 1 (mE ((red m (wideQ n q b) (n + 1)).1) (n + 1)) m) (.cn (.ex (.int .i64 ((n + 1 : Nat) : Int))) (.nl)))))), (3, .one (.row 55 3 (fun i0 => .rat (solP (red m (wideQ n q b) (n + 1)) n g i0)) n))], 4⟩) [(0, .id 0), (2, .id 2), (3, .id 3)] (fun _ => [(0, .id 0), (2, .id 2), (3, .id 3)]) (fun g => [.reg 11 [(1, .k g)], .reg 12 [(5, .callS (.ex (.int .i64 (n : Int))) []), (6, .callS (.rat (((red m (wideQ n q b) (n + 1)).1) g n)) []), (7, .k ((red m (wideQ n q b) (n + 1)).2.2 g)), (8, .row 0 (fun i0 => .rat (solP (red m (wideQ n q b) (n + 1)) n (g + 1) i0)))], .reg 13 [(0, .z ((g + 1 : Nat) : Int))], .reg 14 [(2, .callS (.ex (.int .i64 (n : Int))) [])]])]) Tryz.func35 (let y1 := (decide ((0 : Int) < (((red m (wideQ n q b) (n + 1)).2.1 : Nat) : Int))); let y0 := (y1 == true); let y2 := (decide ((((red m (wideQ n q b) (n + 1)).2.1 : Nat) : Int) < (n : Int))); (∀ j0, j0 < m → (∀ j1, j1 < n → True)) ∧ (∀ j0, j0 < m → True) ∧ _ ∧ ((!true) = false) ∧ _ ∧ (y0 = true → y0 = true) ∧ (y0 = true → IntKind.wrap .i64 ((((red m (wideQ n q b) (n + 1)).2.1 : Nat) : Int) - 1) = ((((red m (wideQ n q b) (n + 1)).2.1 - 1 : Nat) : Int))) ∧ (y0 = true → y0 = true) ∧ (y0 = true → y0 = true) ∧ (y0 = true → _) ∧ (y0 = true → ((red m (wideQ n q b) (n + 1)).2.1 - 1) < ((red m (wideQ n q b) (n + 1)).2.1)) ∧ (y0 = true → y0 = true) ∧ (y0 = true → y0 = true) ∧ (y0 = true → _) ∧ (y0 = true → y0 = true) ∧ (y0 = true → y0 = true) ∧ (y1 = true → y0 = true) ∧ ((bif y1 then (decide ((((red m (wideQ n q b) (n + 1)).2.2 ((red m (wideQ n q b) (n + 1)).2.1 - 1) : Nat) : Int) = (n : Int))) else false) = false) ∧ _ ∧ _ ∧ _ ∧ (n ≤ 68719476736) ∧ (∀ j0, j0 < n → ((0 : Rat) = 0)) ∧ (((fun X1 X2 X3 X4 X5 X6 X7 X8 X9 X10 X11 X12 X13 X14 X15 X16 : Prop => ∃ g0 : Nat, X1 ∧ X2 ∧ X3 ∧ X4 ∧ X5 ∧ X6 ∧ X7 ∧ X8 ∧ X9 ∧ ((0 : Int) = (g0 : Int)) ∧ X10 ∧ X11 ∧ X12 ∧ X13 ∧ X14 ∧ X15 ∧ X16 ∧ (∀ j0, j0 < n → ((0 : Rat) = (solP (red m (wideQ n q b) (n + 1)) n g0 j0))) ∧ (g0 ≤ (red m (wideQ n q b) (n + 1)).2.1)) _ _ _ _ _ _ _ _ _ _ _ _ _ _ _ _) ∧ ∀ g : Nat, (g ≤ (red m (wideQ n q b) (n + 1)).2.1) → (((decide ((g : Int) < (((red m (wideQ n q b) (n + 1)).2.1 : Nat) : Int))) = true → _ ∧ (g < ((red m (wideQ n q b) (n + 1)).2.1)) ∧ _ ∧ _ ∧ _ ∧ (((red m (wideQ n q b) (n + 1)).2.2 g) < n) ∧ (((red m (wideQ n q b) (n + 1)).2.2 g) < n) ∧ (((((red m (wideQ n q b) (n + 1)).1) g n : Rat) = (solP (red m (wideQ n q b) (n + 1)) n (g + 1) ((red m (wideQ n q b) (n + 1)).2.2 g)))) ∧ (∀ t, t < n → t ≠ ((red m (wideQ n q b) (n + 1)).2.2 g) → (.rat (solP (red m (wideQ n q b) (n + 1)) n (g + 1) t) : SV) = .rat (solP (red m (wideQ n q b) (n + 1)) n g t)) ∧ _ ∧ ((fun X1 X2 X3 X4 X5 X6 X7 X8 X9 X10 X11 X12 X13 X14 X15 X16 : Prop => ∃ g1 : Nat, X1 ∧ X2 ∧ X3 ∧ X4 ∧ X5 ∧ X6 ∧ X7 ∧ X8 ∧ X9 ∧ (((g + 1 : Nat) : Int) = (g1 : Int)) ∧ X10 ∧ X11 ∧ X12 ∧ X13 ∧ X14 ∧ X15 ∧ X16 ∧ (∀ j0, j0 < n → ((solP (red m (wideQ n q b) (n + 1)) n (g + 1) j0 : Rat) = (solP (red m (wideQ n q b) (n + 1)) n g1 j0))) ∧ (g1 ≤ (red m (wideQ n q b) (n + 1)).2.1) ∧ ((red m (wideQ n q b) (n + 1)).2.1 - g1 < (red m (wideQ n q b) (n + 1)).2.1 - g)) _ _ _ _ _ _ _ _ _ _ _ _ _ _ _ _)) ∧ ((decide ((g : Int) < (((red m (wideQ n q b) (n + 1)).2.1 : Nat) : Int))) = false → _ ∧ ((y2 = true → (_ ∧ (∀ j0, j0 < n → ((solP (red m (wideQ n q b) (n + 1)) n g j0 : Rat) = (solQ (red m (wideQ n q b) (n + 1)) n j0))) ∧ ((3 : Int) = (if (red m (wideQ n q b) (n + 1)).2.1 < n then 3 else 2)) ∧ _)) ∧ (y2 = false → (_ ∧ (∀ j0, j0 < n → ((solP (red m (wideQ n q b) (n + 1)) n g j0 : Rat) = (solQ (red m (wideQ n q b) (n + 1)) n j0))) ∧ ((2 : Int) = (if (red m (wideQ n q b) (n + 1)).2.1 < n then 3 else 2)) ∧ _)))))))
  ⟨(fun _ _ => (fun _ _ => trivial)), (fun _ _ => trivial), (sMatWithCol (m := m) (n := n) (q := q) (v := b) zo zo), (by simp), sReduced (m := m) (n := n + 1) (q := (wideQ n q b)) zo zo (by assumption), id, (fun hg => (by have hg2 := of_guard hg; rw [IntKind.wrap_i64]; omega)), id, id, (fun hg => (rf (((red m (wideQ n q b) (n + 1)).2.1 - 1 : Nat) : Int))), (fun hg => (by have hg2 := of_guard hg; omega)), id, id, (fun hg => sMatCols (m := m) (n := n) (q := q)), id, id, (by simp), (sol_test hl), sMatCols (m := m) (n := n) (q := q), (rf (n : Int)), (rf (n : Int)), zo, (fun j0 hj0 => rfl), ⟨0, (rf 0), (rf 0), (rf ((red m (wideQ n q b) (n + 1)).2.1 : Nat)), (leS (fun i0 => .ex (.int .i64 (((red m (wideQ n q b) (n + 1)).2.2 i0 : Nat) : Int))) ((red m (wideQ n q b) (n + 1)).2.1)), (rf (((red m (wideQ n q b) (n + 1)).2.1 : Nat) : Int)), (rf 0), (rf ((red m (wideQ n q b) (n + 1)).2.1 : Nat)), (leS (fun i0 => .ex (.int .i64 (((red m (wideQ n q b) (n + 1)).2.2 i0 : Nat) : Int))) ((red m (wideQ n q b) (n + 1)).2.1)), (rf (((red m (wideQ n q b) (n + 1)).2.1 : Nat) : Int)), zo, (rf m), (leS (mE q n) m), (rf (n : Int)), (rf m), (leS (mE ((red m (wideQ n q b) (n + 1)).1) (n + 1)) m), (rf ((n + 1 : Nat) : Int)), (rf n), (fun j0 hj0 => solP_zero), zo⟩, fun g hg => ⟨fun hc48 => have hc48 := dT hc48; have hl2 := hl g zo; ⟨(rf (g : Int)), zo, sMatCols (m := m) (n := n) (q := q), sMatAt (m := m) (n := n + 1) (r := g) (c := n) (q := (fun r c => ((red m (wideQ n q b) (n + 1)).1) r c)) zo zo, (rf (((red m (wideQ n q b) (n + 1)).2.2 g : Nat) : Int)), zo, zo, (solP_at H zo), (fun t ht hne => by rw [solP_ne hne]), (wI (g := g) zo), g + 1, (rf 0), (rf 0), (rf ((red m (wideQ n q b) (n + 1)).2.1 : Nat)), (leS (fun i0 => .ex (.int .i64 (((red m (wideQ n q b) (n + 1)).2.2 i0 : Nat) : Int))) ((red m (wideQ n q b) (n + 1)).2.1)), (rf (((red m (wideQ n q b) (n + 1)).2.1 : Nat) : Int)), (rf 0), (rf ((red m (wideQ n q b) (n + 1)).2.1 : Nat)), (leS (fun i0 => .ex (.int .i64 (((red m (wideQ n q b) (n + 1)).2.2 i0 : Nat) : Int))) ((red m (wideQ n q b) (n + 1)).2.1)), (rf (((red m (wideQ n q b) (n + 1)).2.1 : Nat) : Int)), zo, (rf m), (leS (mE q n) m), (rf (n : Int)), (rf m), (leS (mE ((red m (wideQ n q b) (n + 1)).1) (n + 1)) m), (rf ((n + 1 : Nat) : Int)), (rf n), (fun j0 hj0 => rfl), zo, zo⟩, fun hc48 => have hc48 := dF hc48; have hi2 : g = (red m (wideQ n q b) (n + 1)).2.1 := zo; ⟨sMatCols (m := m) (n := n) (q := q), fun hc64 => have hc64 := dT hc64; ⟨(rf n), (fun j0 hj0 => (by rw [hi2]; rfl)), (if_pos zo).symm, (rf (true : Bool))⟩, fun hc64 => have hc64 := dF hc64; ⟨(rf n), (fun j0 hj0 => (by rw [hi2]; rfl)), (if_neg zo).symm, (rf (true : Bool))⟩⟩⟩⟩
open Go.RowKit
theorem ok_simp3 {n m : Nat} {P : Prop} [Decidable P] (h : m ≠ n ∨ P) : (bif true then (bif (!decide ((m : Int) = (n : Int))) then true else decide P) else false) = true := by
 rcases h with h | h
 ·have : ¬ ((m : Int) = (n : Int)) := by omega
  simp [this]
 ·simp [h]
theorem made_test {P Q R : Prop} [Decidable P] [Decidable Q] [Decidable R] {z : Int} (p : P) (hz : z = 2) (q : Q) (r : R) : (bif (bif (bif (bif (bif true then decide P else false) then true else false) then decide (z = 2) else false) then decide Q else false) then decide R else false) = true := by simp [p, q, r, hz]
theorem wide_htM {m n s : Nat} {q : Nat → Nat → Rat} {b : Nat → Rat} (hq : ∀ i, i < m → ∀ j, htq (q i j) ≤ 2) (hb : ∀ i, i < m → htq (b i) ≤ s) (hs : 2 ≤ s) (hm : m ≤ 6) (t : Nat) (ht : (s + 1) * 4 ^ 6 ≤ t) : ∀ c, c ≤ n + 1 → HtB m (n + 1) t (red m (wideQ n q b) c).1 :=
 red_htT (fun i hi j _ => by
  unfold wideQ
  split
  ·have := hq i hi j; omega
  ·have := hb i hi; omega) (.inl hm) t ht
theorem sol_all {n : Nat} {q : Nat → Nat → Rat} {b : Nat → Rat} (h : ¬ noSol n n q b) (hd : cdet n q ≠ 0) : (if (red n (wideQ n q b) (n + 1)).2.1 < n then 3 else 2 : Int) = 2 := by
 rw [red_some h, (red_wide (Nat.le_refl n)).1]
 exact if_neg fun k => hd (det_lead.2 k)
theorem sLuMadeN {z0 l0 : Nat} {k0 : Nat → Nat} {p0 d0 : Nat → Nat → Int} {n m : Nat} {n1 : Nat} {p1 d1 : Nat → Int} (h0 : ∀ r, r < l0 → ∀ c, c < k0 r → Wd64 (p0 r c) ∧ Wd64 (d0 r c)) (hn0 : z0 % 7 = n) (hm : min l0 n = m) (hne : m ≠ n) : CallOK Tryz.prog 5 [.agg (.cn (.ex (.int .u8 (z0 : Int))) (.cn (.sl 1 (gE k0 p0 d0) l0) (.nl))), .sl 2 (fun i0 => .agg (.cn (.ex (.int .i64 (p1 i0))) (.cn (.ex (.int .i64 (d1 i0))) (.nl)))) n1] (.ex (.bool true)) [] := by
 have hn : n ≤ 6 := by omega
 exact kP (ch := [.reg 1 [(0, .callS (.ex (.bool true)) [])], .dec 19 false, .reg 3 [(1, .call [.agg (.cn (.ex (.int .u8 (z0 : Int))) (.cn (.sl 1 (gE k0 p0 d0) l0) (.nl))), .ex (.int .i64 ((6 : Nat) : Int))] (.agg (.cn (.ex (.int .u8 (n : Int))) (.cn (.sl 1 (gE k0 p0 d0) m) (.nl)))) []), (2, .callS (.agg (.cn (.sl 1 (fun i0 => .sl 3 (fun i1 => .rat (gQ k0 p0 d0 i0 i1)) n) m) (.cn (.ex (.int .i64 (n : Int))) (.nl)))) [])], .reg 4 [(1, .callS (.cn (.ex (.pointer none)) (.cn (.ex (.bool false)) (.nl))) [])], .reg 5 [(1, .callS (.cn (.rat 0) (.cn (.ex (.bool false)) (.nl))) [])], .dec 38 true, .reg 7 [(4, .callS (.ex (.int .i64 (m : Int))) []), (6, .callS (.ex (.int .i64 (n : Int))) []), (10, .callS (.ex (.bool (decide (0 = 0)))) [])]]) Tryz.func5 ((∀ j0, j0 < l0 → (∀ j1, j1 < (k0 j0) → True)) ∧ (∀ j0, j0 < n1 → True) ∧ _ ∧ ((!true) = false) ∧ (CallOK Tryz.prog 29 [.agg (.cn (.ex (.int .u8 (z0 : Int))) (.cn (.sl 1 (gE k0 p0 d0) l0) (.nl))), .ex (.int .i64 ((6 : Nat) : Int))] (.agg (.cn (.ex (.int .u8 (n : Int))) (.cn (.sl 1 (gE k0 p0 d0) m) (.nl)))) []) ∧ _ ∧ _ ∧ _ ∧ ((6 : Int) = ((6 : Nat) : Int)) ∧ (CallOK Tryz.prog 7 [.agg (.cn (.ex (.int .u8 (n : Int))) (.cn (.sl 1 (gE k0 p0 d0) m) (.nl)))] (.agg (.cn (.sl 1 (fun i0 => .sl 3 (fun i1 => .rat (gQ k0 p0 d0 i0 i1)) n) m) (.cn (.ex (.int .i64 (n : Int))) (.nl)))) []) ∧ _ ∧ _ ∧ (((!false) == false) = true → ((!false) == false) = true) ∧ ((!(!false)) = true → ((!false) == false) = true) ∧ ((bif (!false) then true else (true && true)) = true) ∧ (((true && true) == true) = true → ((true && true) == true) = true) ∧ (((true && true) == true) = true → _) ∧ (((true && true) == true) = true → ((true && true) == true) = true) ∧ (((true && true) == true) = true → _) ∧ (((true && true) == true) = true → ((true && true) == true) = true) ∧ (((true && true) == true) = true → ((true && true) == true) = true) ∧ (((true && true) == true) = true → ((true && true) == true) = true) ∧ (((((true && true) == true) && true) && ((!decide ((m : Int) = (n : Int))) == false)) = true → ((((true && true) == true) && true) && ((!decide ((m : Int) = (n : Int))) == false)) = true) ∧ (((((true && true) == true) && true) && ((!decide ((m : Int) = (n : Int))) == false)) = true → _) ∧ (((true && true) == true) = true → ((true && true) == true) = true) ∧ (((true && true) == true) = true → (!(!decide ((m : Int) = (n : Int)))) = true → ((((true && true) == true) && true) && ((!decide ((m : Int) = (n : Int))) == false)) = true) ∧ ((true && true) = true → ((true && true) == true) = true) ∧ (((bif (true && true) then (bif (!decide ((m : Int) = (n : Int))) then true else (decide (0 = 0))) else false : Bool) = true)))
  ⟨(fun _ _ => (fun _ _ => trivial)), (fun _ _ => trivial), sAwake13, rfl, (sCut6 hn0 hm), (rf (z0 : Int)), (rf l0), (leS (gE k0 p0 d0) l0), zo, (sMakeCut h0 hn hm), (sLuFactorNo (m := m) (n := n) (q := (gQ k0 p0 d0)) hne), sDet_no (m := m) (n := n) (q := (gQ k0 p0 d0)) hne, id, (by simp), rfl, id, (fun hg => sMatRows (m := m) (n := n) (q := (gQ k0 p0 d0))), id, (fun hg => sMatCols (m := m) (n := n) (q := (gQ k0 p0 d0))), id, id, id, id, (fun hg => sRatZero (q := 0)), id, (fun hg => (by simp)), (by simp), (ok_simp3 (.inl hne))⟩
theorem sLuMadeS {z0 l0 : Nat} {k0 : Nat → Nat} {p0 d0 : Nat → Nat → Int} {n : Nat} {n1 : Nat} {p1 d1 : Nat → Int} (h0 : ∀ r, r < l0 → ∀ c, c < k0 r → Wd64 (p0 r c) ∧ Wd64 (d0 r c)) (hn0 : z0 % 7 = n) (hm : min l0 n = n) (hno : ¬ luOK n (gQ k0 p0 d0) n) : CallOK Tryz.prog 5 [.agg (.cn (.ex (.int .u8 (z0 : Int))) (.cn (.sl 1 (gE k0 p0 d0) l0) (.nl))), .sl 2 (fun i0 => .agg (.cn (.ex (.int .i64 (p1 i0))) (.cn (.ex (.int .i64 (d1 i0))) (.nl)))) n1] (.ex (.bool true)) [] := by
 have hn : n ≤ 6 := by omega
 have hs : ∀ i, i < n → ∀ j, j < n → szq (gQ k0 p0 d0 i j) ≤ 2 := fun i hi j _ => gQ_sz h0 zo
 have hd0 : cdet n (gQ k0 p0 d0) = 0 := (det_cdet _ _).symm.trans (lu_none hs hno)
 exact kP (ch := [.reg 1 [(0, .callS (.ex (.bool true)) [])], .dec 19 false, .reg 3 [(1, .call [.agg (.cn (.ex (.int .u8 (z0 : Int))) (.cn (.sl 1 (gE k0 p0 d0) l0) (.nl))), .ex (.int .i64 ((6 : Nat) : Int))] (.agg (.cn (.ex (.int .u8 (n : Int))) (.cn (.sl 1 (gE k0 p0 d0) n) (.nl)))) []), (2, .callS (.agg (.cn (.sl 1 (fun i0 => .sl 3 (fun i1 => .rat (gQ k0 p0 d0 i0 i1)) n) n) (.cn (.ex (.int .i64 (n : Int))) (.nl)))) [])], .reg 4 [(1, .callS (.cn (.ex (.pointer none)) (.cn (.ex (.bool false)) (.nl))) [])], .reg 5 [(1, .callS (.cn (.rat (cdet n (gQ k0 p0 d0))) (.cn (.ex (.bool true)) (.nl))) [])], .dec 38 true, .reg 7 [(4, .callS (.ex (.int .i64 (n : Int))) []), (6, .callS (.ex (.int .i64 (n : Int))) []), (10, .callS (.ex (.bool (decide (cdet n (gQ k0 p0 d0) = 0)))) [])]]) Tryz.func5 ((∀ j0, j0 < l0 → (∀ j1, j1 < (k0 j0) → True)) ∧ (∀ j0, j0 < n1 → True) ∧ _ ∧ ((!true) = false) ∧ (CallOK Tryz.prog 29 [.agg (.cn (.ex (.int .u8 (z0 : Int))) (.cn (.sl 1 (gE k0 p0 d0) l0) (.nl))), .ex (.int .i64 ((6 : Nat) : Int))] (.agg (.cn (.ex (.int .u8 (n : Int))) (.cn (.sl 1 (gE k0 p0 d0) n) (.nl)))) []) ∧ _ ∧ _ ∧ _ ∧ ((6 : Int) = ((6 : Nat) : Int)) ∧ (CallOK Tryz.prog 7 [.agg (.cn (.ex (.int .u8 (n : Int))) (.cn (.sl 1 (gE k0 p0 d0) n) (.nl)))] (.agg (.cn (.sl 1 (fun i0 => .sl 3 (fun i1 => .rat (gQ k0 p0 d0 i0 i1)) n) n) (.cn (.ex (.int .i64 (n : Int))) (.nl)))) []) ∧ _ ∧ _ ∧ (((!false) == false) = true → ((!false) == false) = true) ∧ ((!(!false)) = true → ((!false) == false) = true) ∧ ((bif (!false) then true else (true && true)) = true) ∧ (((true && true) == true) = true → ((true && true) == true) = true) ∧ (((true && true) == true) = true → _) ∧ (((true && true) == true) = true → ((true && true) == true) = true) ∧ (((true && true) == true) = true → _) ∧ (((true && true) == true) = true → ((true && true) == true) = true) ∧ (((true && true) == true) = true → ((true && true) == true) = true) ∧ (((true && true) == true) = true → ((true && true) == true) = true) ∧ (((((true && true) == true) && true) && ((!decide ((n : Int) = (n : Int))) == false)) = true → ((((true && true) == true) && true) && ((!decide ((n : Int) = (n : Int))) == false)) = true) ∧ (((((true && true) == true) && true) && ((!decide ((n : Int) = (n : Int))) == false)) = true → _) ∧ (((true && true) == true) = true → ((true && true) == true) = true) ∧ (((true && true) == true) = true → (!(!decide ((n : Int) = (n : Int)))) = true → ((((true && true) == true) && true) && ((!decide ((n : Int) = (n : Int))) == false)) = true) ∧ ((true && true) = true → ((true && true) == true) = true) ∧ (((bif (true && true) then (bif (!decide ((n : Int) = (n : Int))) then true else (decide (cdet n (gQ k0 p0 d0) = 0))) else false : Bool) = true)))
  ⟨(fun _ _ => (fun _ _ => trivial)), (fun _ _ => trivial), sAwake13, rfl, (sCut6 hn0 hm), (rf (z0 : Int)), (rf l0), (leS (gE k0 p0 d0) l0), zo, (sMakeCut h0 hn hm), (sLuFactorSing (n := n) (q := (gQ k0 p0 d0)) zo (lu_hH (gQ_ht h0 hn hm) hn) hno), (sDet (n := n) (q := (gQ k0 p0 d0)) (s := 2) hn (by decide) (fun i hi j _ => gQ_sz h0 zo)), id, (by simp), rfl, id, (fun hg => sMatRows (m := n) (n := n) (q := (gQ k0 p0 d0))), id, (fun hg => sMatCols (m := n) (n := n) (q := (gQ k0 p0 d0))), id, id, id, id, (fun hg => sRatZero (q := cdet n (gQ k0 p0 d0))), id, (fun hg => (by simp)), (by simp), (ok_simp3 (.inr hd0))⟩
theorem sLuMadeY {z0 l0 : Nat} {k0 : Nat → Nat} {p0 d0 : Nat → Nat → Int} {n : Nat} {n1 : Nat} {p1 d1 : Nat → Int} (h0 : ∀ r, r < l0 → ∀ c, c < k0 r → Wd64 (p0 r c) ∧ Wd64 (d0 r c)) (hn0 : z0 % 7 = n) (hm : min l0 n = n) (hok : luOK n (gQ k0 p0 d0) n) (hn1 : n1 ≤ 68719476736) (w1 : ∀ i, i < n1 → Wd64 (p1 i) ∧ Wd64 (d1 i)) : CallOK Tryz.prog 5 [.agg (.cn (.ex (.int .u8 (z0 : Int))) (.cn (.sl 1 (gE k0 p0 d0) l0) (.nl))), .sl 2 (fun i0 => .agg (.cn (.ex (.int .i64 (p1 i0))) (.cn (.ex (.int .i64 (d1 i0))) (.nl)))) n1] (.ex (.bool true)) [] := by
 have hn : n ≤ 6 := by omega
 have hG : HtB n n 3 (gQ k0 p0 d0) := gQ_ht h0 hn hm
 have hq : ∀ i, i < n → ∀ j, szq (gQ k0 p0 d0 i j) ≤ 2 := fun i hi j => gQ_sz h0 zo
 have hB := lu_bij n (Nat.le_refl n) hok
 have hP := hB.lt
 have hU := lu_hU hG hn hok
 have hL := lu_hL hG hn hok
 have hI := lu_inv n (Nat.le_refl n) hok
 have hs : ∀ i, i < n → ∀ j, j < n → szq (gQ k0 p0 d0 i j) ≤ 2 := fun i hi j _ => hq i hi j
 have hw : ∀ i, i < n → szq (fillQ n1 p1 d1 i) ≤ 2 := fun i hi => fillQ_sz w1 zo
 have hwh : ∀ i, i < n → htq (fillQ n1 p1 d1 i) ≤ 2 := fun i hi => Nat.le_trans (ht_sz _) (hw i hi)
 have hqh : ∀ i, i < n → ∀ j, htq (gQ k0 p0 d0 i j) ≤ 2 := fun i hi j => Nat.le_trans (ht_sz _) (hq i hi j)
 have hb31 : ∀ i, i < n → htq ((fun r => dotQ ((gQ k0 p0 d0) r) (fillQ n1 p1 d1) n) i) ≤ 31 := fun i hi => Nat.le_trans (ht_dot _ (fun j hj => hqh i hi j) hwh) zo
 have hb : ∀ i, i < n → htq ((fun r => dotQ ((gQ k0 p0 d0) r) (fillQ n1 p1 d1) n) i) ≤ 100 := fun i hi => Nat.le_trans (hb31 i hi) (by decide)
 have hN : ¬ noSol n n (gQ k0 p0 d0) (fun r => dotQ ((gQ k0 p0 d0) r) (fillQ n1 p1 d1) n) := made_ok fun r _ => dotSum _ _ _
 have hd := lu_det_ne hs hok
 have hdc : cdet n (gQ k0 p0 d0) ≠ 0 := fun e => hd ((det_cdet _ _).trans e)
 have hWc : ∀ c, c < n → det n (putC (gQ k0 p0 d0) c (fun r => dotQ ((gQ k0 p0 d0) r) (fillQ n1 p1 d1) n)) / det n (gQ k0 p0 d0) = fillQ n1 p1 d1 c := fun c hc => cram_div hd (x := (fillQ n1 p1 d1)) (fun r hr => (dotSum _ _ _).symm) hc
 have hXW : ∀ c, c < n → (luX n (luS n (gQ k0 p0 d0) n).1 (luS n (gQ k0 p0 d0) n).2.1 (fun i => (fun r => dotQ ((gQ k0 p0 d0) r) (fillQ n1 p1 d1) n) ((luS n (gQ k0 p0 d0) n).2.2.1 i))) c = fillQ n1 p1 d1 c := fun c hc => (cram_div hd (fun r hr => lu_solves (b := (fun r => dotQ ((gQ k0 p0 d0) r) (fillQ n1 p1 d1) n)) hok hr) hc).symm.trans (hWc c hc)
 have hYW : ∀ c, c < n → solQ (red n (wideQ n (gQ k0 p0 d0) (fun r => dotQ ((gQ k0 p0 d0) r) (fillQ n1 p1 d1) n)) (n + 1)) n c = fillQ n1 p1 d1 c := fun c hc => (cram_div hd (x := fun c => solQ (red n (wideQ n (gQ k0 p0 d0) (fun r => dotQ ((gQ k0 p0 d0) r) (fillQ n1 p1 d1) n)) (n + 1)) n c) (fun r hr => sol_ok hN hr) hc).symm.trans (hWc c hc)
 have hW2 : ∀ c, c ≤ n + 1 → HtB n (n + 1) 100000000 (red n (wideQ n (gQ k0 p0 d0) (fun r => dotQ ((gQ k0 p0 d0) r) (fillQ n1 p1 d1) n)) c).1 := wide_htM hqh hb31 (by decide) hn _ (by decide)
 have hT : ∀ r, r < n → ∀ i, i < n → szq ((gQ k0 p0 d0) r i) + szq (fillQ n1 p1 d1 i) ≤ 17179869184 ∧ szq (dotQ ((gQ k0 p0 d0) r) (fillQ n1 p1 d1) i) + szq ((gQ k0 p0 d0) r i * fillQ n1 p1 d1 i) ≤ 17179869184 := fun r hr => big_room hn (fun i _ => Nat.le_trans (hq r hr i) (by decide)) (fun i hi => Nat.le_trans (hw i hi) (by decide)) (fun i _ => .inl (hq r hr i))
 have hD9 : szq (if (luS n (gQ k0 p0 d0) n).2.2.2.2 = true then -(prodD (luS n (gQ k0 p0 d0) n).1 n) else prodD (luS n (gQ k0 p0 d0) n).1 n) + szq (cdet n (gQ k0 p0 d0)) ≤ 17179869184 := by
  rw [← lu_det hs hok, ← det_cdet]
  have h1 := (det_ht n (E := 3) (q := gQ k0 p0 d0) (fun i hi j hj => Nat.le_trans (Nat.le_of_lt (hG i hi j hj)) (by decide))).1
  have h2 := dB_le (E := 3) (by decide) n hn
  have h3 := sz_ht (det n (gQ k0 p0 d0))
  omega
 exact kP (ch := [.reg 1 [(0, .callS (.ex (.bool true)) [])], .dec 19 false, .reg 3 [(1, .call [.agg (.cn (.ex (.int .u8 (z0 : Int))) (.cn (.sl 1 (gE k0 p0 d0) l0) (.nl))), .ex (.int .i64 ((6 : Nat) : Int))] (.agg (.cn (.ex (.int .u8 (n : Int))) (.cn (.sl 1 (gE k0 p0 d0) n) (.nl)))) []), (2, .callS (.agg (.cn (.sl 1 (fun i0 => .sl 3 (fun i1 => .rat (gQ k0 p0 d0 i0 i1)) n) n) (.cn (.ex (.int .i64 (n : Int))) (.nl)))) [])], .reg 4 [(1, .callS (.cn (.ep (.agg (.cn (.sl 1 (mE (luS n (gQ k0 p0 d0) n).2.1 n) n) (.cn (.sl 1 (mE ((luS n (gQ k0 p0 d0) n).1) n) n) (.cn (.sl 1 (fun i0 => .ex (.int .i64 (((luS n (gQ k0 p0 d0) n).2.2.1 i0 : Nat) : Int))) n) (.cn (.ex (.bool ((luS n (gQ k0 p0 d0) n).2.2.2.2))) (.nl))))))) (.cn (.ex (.bool true)) (.nl))) [])], .reg 5 [(1, .callS (.cn (.rat (cdet n (gQ k0 p0 d0))) (.cn (.ex (.bool true)) (.nl))) [])], .dec 38 false, .reg 8 [(1, .callS (.own 0 0) [.one (.row 55 3 (fun i0 => .rat (oneQ (p1 i0) (d1 i0))) n1)])], .loop 9 (Nat) (fun g => n1 ≤ g ∧ (g ≤ n ∨ g = n1)) (fun g => n - g) (fun g => ⟨[(5, .own 1 0), (6, .ep (.agg (.cn (.sl 1 (mE (luS n (gQ k0 p0 d0) n).2.1 n) n) (.cn (.sl 1 (mE ((luS n (gQ k0 p0 d0) n).1) n) n) (.cn (.sl 1 (fun i0 => .ex (.int .i64 (((luS n (gQ k0 p0 d0) n).2.2.1 i0 : Nat) : Int))) n) (.cn (.ex (.bool ((luS n (gQ k0 p0 d0) n).2.2.2.2))) (.nl))))))), (8, .own 2 0), (10, .own 3 0)], [(0, .one (.var 24 (.agg (.cn (.ex (.int .u8 (z0 : Int))) (.cn (.sl 1 (gE k0 p0 d0) l0) (.nl)))))), (1, .one (.var 32 (.agg (.cn (.sl 1 (mE (gQ k0 p0 d0) n) n) (.cn (.ex (.int .i64 (n : Int))) (.nl)))))), (2, .one (.var 55 (.rat (cdet n (gQ k0 p0 d0))))), (3, .one (.row 55 3 (fun i0 => .rat (fillQ n1 p1 d1 i0)) g))], 4⟩) [(0, .id 0), (1, .id 1), (2, .id 2), (3, .id 3)] (fun _ => [(0, .id 0), (1, .id 1), (2, .id 2), (3, .id 4)]) (fun g => [.reg 9 [(3, .callS (.ex (.int .i64 (n : Int))) [])], .reg 10 [(3, .callS (.rat (((g : Int) : Int) : Rat)) []), (5, .row 0 (fun i0 => .rat (fillQ n1 p1 d1 i0)))], .conv 11 [(0, .id 0), (1, .id 1), (2, .id 2)] ⟨[(5, .own 1 0), (6, .ep (.agg (.cn (.sl 1 (mE (luS n (gQ k0 p0 d0) n).2.1 n) n) (.cn (.sl 1 (mE ((luS n (gQ k0 p0 d0) n).1) n) n) (.cn (.sl 1 (fun i0 => .ex (.int .i64 (((luS n (gQ k0 p0 d0) n).2.2.1 i0 : Nat) : Int))) n) (.cn (.ex (.bool ((luS n (gQ k0 p0 d0) n).2.2.2.2))) (.nl))))))), (8, .own 2 0), (10, .sl 3 (fun i0 => .rat (fillQ n1 p1 d1 i0)) g)], [(0, .one (.var 24 (.agg (.cn (.ex (.int .u8 (z0 : Int))) (.cn (.sl 1 (gE k0 p0 d0) l0) (.nl)))))), (1, .one (.var 32 (.agg (.cn (.sl 1 (mE (gQ k0 p0 d0) n) n) (.cn (.ex (.int .i64 (n : Int))) (.nl)))))), (2, .one (.var 55 (.rat (cdet n (gQ k0 p0 d0)))))], 3⟩, .reg 11 [(2, .callS (.ex (.int .i64 (n : Int))) []), (3, .kk 0 n)], .reg 12 [(2, .callS (.cn (.sl 3 (fun i0 => .rat (dotQ ((gQ k0 p0 d0) i0) (fun i => fillQ n1 p1 d1 i) n)) n) (.cn (.ex (.bool true)) (.nl))) [])], .reg 13 [(2, .callS (.cn (.sl 3 (fun i0 => .rat (luX n (luS n (gQ k0 p0 d0) n).1 (luS n (gQ k0 p0 d0) n).2.1 (fun i => (fun i => dotQ ((gQ k0 p0 d0) i) (fun i => fillQ n1 p1 d1 i) n) ((luS n (gQ k0 p0 d0) n).2.2.1 i)) i0)) n) (.cn (.ex (.bool true)) (.nl))) [])], .reg 14 [(2, .callS (.cn (.sl 3 (fun i0 => .rat (solQ (red n (wideQ n (gQ k0 p0 d0) (fun i => dotQ ((gQ k0 p0 d0) i) (fun i => fillQ n1 p1 d1 i) n)) (n + 1)) n i0)) n) (.cn (.ex (.int .i64 (if (red n (wideQ n (gQ k0 p0 d0) (fun i => dotQ ((gQ k0 p0 d0) i) (fun i => fillQ n1 p1 d1 i) n)) (n + 1)).2.1 < n then 3 else 2))) (.cn (.ex (.bool true)) (.nl)))) [])], .reg 15 [(4, .callS (.ex (.bool (decide (n = n ∧ ∀ j : Nat, j < n → (luX n (luS n (gQ k0 p0 d0) n).1 (luS n (gQ k0 p0 d0) n).2.1 (fun i => (fun i => dotQ ((gQ k0 p0 d0) i) (fun i => fillQ n1 p1 d1 i) n) ((luS n (gQ k0 p0 d0) n).2.2.1 i)) j : Rat) = (fillQ n1 p1 d1 j))))) []), (16, .callS (.ex (.bool (decide (n = n ∧ ∀ j : Nat, j < n → (solQ (red n (wideQ n (gQ k0 p0 d0) (fun i => dotQ ((gQ k0 p0 d0) i) (fun i => fillQ n1 p1 d1 i) n)) (n + 1)) n j : Rat) = (fillQ n1 p1 d1 j))))) []), (20, .callS (.rat (if (luS n (gQ k0 p0 d0) n).2.2.2.2 = true then -(prodD (luS n (gQ k0 p0 d0) n).1 n) else prodD (luS n (gQ k0 p0 d0) n).1 n)) []), (22, .callS (.ex (.bool (decide ((if (luS n (gQ k0 p0 d0) n).2.2.2.2 = true then -(prodD (luS n (gQ k0 p0 d0) n).1 n) else prodD (luS n (gQ k0 p0 d0) n).1 n) = (cdet n (gQ k0 p0 d0)))))) [])]])]) Tryz.func5 (let y2 := (bif true then (decide (n = n ∧ ∀ j : Nat, j < n → (luX n (luS n (gQ k0 p0 d0) n).1 (luS n (gQ k0 p0 d0) n).2.1 (fun i => (fun i => dotQ ((gQ k0 p0 d0) i) (fun i => fillQ n1 p1 d1 i) n) ((luS n (gQ k0 p0 d0) n).2.2.1 i)) j : Rat) = (fillQ n1 p1 d1 j))) else false); let y3 := (bif y2 then true else false); let y0 := (bif y3 then (decide ((if (red n (wideQ n (gQ k0 p0 d0) (fun i => dotQ ((gQ k0 p0 d0) i) (fun i => fillQ n1 p1 d1 i) n)) (n + 1)).2.1 < n then 3 else 2 : Int) = 2)) else false); let y1 := (bif y0 then (decide (n = n ∧ ∀ j : Nat, j < n → (solQ (red n (wideQ n (gQ k0 p0 d0) (fun i => dotQ ((gQ k0 p0 d0) i) (fun i => fillQ n1 p1 d1 i) n)) (n + 1)) n j : Rat) = (fillQ n1 p1 d1 j))) else false); let y4 := (true == true); (∀ j0, j0 < l0 → (∀ j1, j1 < (k0 j0) → True)) ∧ (∀ j0, j0 < n1 → True) ∧ _ ∧ ((!true) = false) ∧ (CallOK Tryz.prog 29 [.agg (.cn (.ex (.int .u8 (z0 : Int))) (.cn (.sl 1 (gE k0 p0 d0) l0) (.nl))), .ex (.int .i64 ((6 : Nat) : Int))] (.agg (.cn (.ex (.int .u8 (n : Int))) (.cn (.sl 1 (gE k0 p0 d0) n) (.nl)))) []) ∧ _ ∧ _ ∧ _ ∧ ((6 : Int) = ((6 : Nat) : Int)) ∧ (CallOK Tryz.prog 7 [.agg (.cn (.ex (.int .u8 (n : Int))) (.cn (.sl 1 (gE k0 p0 d0) n) (.nl)))] (.agg (.cn (.sl 1 (fun i0 => .sl 3 (fun i1 => .rat (gQ k0 p0 d0 i0 i1)) n) n) (.cn (.ex (.int .i64 (n : Int))) (.nl)))) []) ∧ _ ∧ _ ∧ (((!true) == false) = true → ((!true) == false) = true) ∧ ((!(!true)) = true → ((!true) == false) = true) ∧ ((bif (!true) then true else (false && true)) = false) ∧ _ ∧ (((fun X1 X2 X3 X4 X5 X6 X7 X8 X9 X10 X11 X12 X13 X14 X15 X16 : Prop => ∃ g0 : Nat, X1 ∧ X2 ∧ X3 ∧ X4 ∧ X5 ∧ X6 ∧ X7 ∧ X8 ∧ X9 ∧ X10 ∧ X11 ∧ X12 ∧ X13 ∧ X14 ∧ (∀ j0, j0 < n → ((n : Nat) = n) ∧ (∀ j1, j1 < n → ((gQ k0 p0 d0 j0 j1 : Rat) = ((gQ k0 p0 d0) j0 j1)))) ∧ X15 ∧ X16 ∧ ((n1 : Nat) = g0) ∧ (∀ j0, j0 < n1 → ((oneQ (p1 j0) (d1 j0) : Rat) = (fillQ n1 p1 d1 j0))) ∧ (n1 ≤ g0 ∧ (g0 ≤ n ∨ g0 = n1))) _ _ _ _ _ _ _ _ _ _ _ _ _ _ _ _) ∧ ∀ g : Nat, (n1 ≤ g ∧ (g ≤ n ∨ g = n1)) → _ ∧ (((decide ((g : Int) < (n : Int))) = true → _ ∧ (g + 1 ≤ 68719476736) ∧ _ ∧ (∀ j0, j0 < 1 → (((((g : Int) : Int) : Rat) : Rat) = (fillQ n1 p1 d1 (g + j0)))) ∧ ((fun X1 X2 X3 X4 X5 X6 X7 X8 X9 X10 X11 X12 X13 X14 X15 X16 X17 X18 : Prop => ∃ g1 : Nat, X1 ∧ X2 ∧ X3 ∧ X4 ∧ X5 ∧ X6 ∧ X7 ∧ X8 ∧ X9 ∧ X10 ∧ X11 ∧ X12 ∧ X13 ∧ X14 ∧ X15 ∧ X16 ∧ X17 ∧ ((g + 1 : Nat) = g1) ∧ X18 ∧ (n1 ≤ g1 ∧ (g1 ≤ n ∨ g1 = n1)) ∧ (n - g1 < n - g)) _ _ _ _ _ _ _ _ _ _ _ _ _ _ _ _ _ _)) ∧ ((decide ((g : Int) < (n : Int))) = false → _ ∧ _ ∧ _ ∧ _ ∧ _ ∧ _ ∧ _ ∧ _ ∧ _ ∧ _ ∧ _ ∧ _ ∧ _ ∧ _ ∧ _ ∧ _ ∧ _ ∧ _ ∧ _ ∧ _ ∧ (n ≤ g) ∧ _ ∧ _ ∧ _ ∧ (y4 = true → y4 = true) ∧ (y4 = true → y4 = true) ∧ (y4 = true → _) ∧ (true = true → y4 = true) ∧ (y2 = true → (y2 == true) = true) ∧ ((y3 == true) = true → (y3 == true) = true) ∧ (y3 = true → (y3 == true) = true) ∧ ((y0 == true) = true → (y0 == true) = true) ∧ ((y0 == true) = true → (y0 == true) = true) ∧ ((y0 == true) = true → _) ∧ (y0 = true → (y0 == true) = true) ∧ ((y1 == true) = true → (y1 == true) = true) ∧ ((y1 == true) = true → _) ∧ ((y1 == true) = true → (y1 == true) = true) ∧ ((y1 == true) = true → (y1 == true) = true) ∧ ((y1 == true) = true → _) ∧ (y1 = true → (y1 == true) = true) ∧ (((bif y1 then (decide ((if (luS n (gQ k0 p0 d0) n).2.2.2.2 = true then -(prodD (luS n (gQ k0 p0 d0) n).1 n) else prodD (luS n (gQ k0 p0 d0) n).1 n) = (cdet n (gQ k0 p0 d0)))) else false : Bool) = true))))))
  ⟨(fun _ _ => (fun _ _ => trivial)), (fun _ _ => trivial), sAwake13, rfl, (sCut6 hn0 hm), (rf (z0 : Int)), (rf l0), (leS (gE k0 p0 d0) l0), zo, (sMakeCut h0 hn hm), (sLuFactor (n := n) (q := (gQ k0 p0 d0)) zo (lu_hH hG hn) hok), (sDet (n := n) (q := (gQ k0 p0 d0)) (s := 2) hn (by decide) (fun i hi j _ => gQ_sz h0 zo)), id, (by simp), rfl, sMake (n := n1) (p := fun i => p1 i) (d := fun i => d1 i) zo w1, ⟨n1, (rf 0), (rf n), (leS (mE (luS n (gQ k0 p0 d0) n).2.1 n) n), (rf n), (leS (mE ((luS n (gQ k0 p0 d0) n).1) n) n), (rf n), (leS (fun i0 => .ex (.int .i64 (((luS n (gQ k0 p0 d0) n).2.2.1 i0 : Nat) : Int))) n), (rf ((luS n (gQ k0 p0 d0) n).2.2.2.2 : Bool)), (rf 0), (rf 0), (rf (z0 : Int)), (rf l0), (leS (gE k0 p0 d0) l0), (rf n), (fun j0 hj0 => ⟨rfl, (fun j1 hj1 => rfl)⟩), (rf (n : Int)), (rf (cdet n (gQ k0 p0 d0) : Rat)), zo, (fun j0 hj0 => (fillQ_lt (by assumption))), Nat.le_refl _, .inr rfl⟩, fun g hg => have hg1 := hg.1; have hg2 := hg.2; ⟨sMatCols (m := n) (n := n) (q := (gQ k0 p0 d0)), fun hc58 => have hc58 := dT hc58; ⟨sRatInt (x := (g : Int)) zo zo, zo, (oldS (fun i0 => .rat (fillQ n1 p1 d1 i0)) g), (fun j0 hj0 => (by rw [show j0 = 0 by omega]; exact fillQ_ge hg1)), g + 1, (rf 0), (rf n), (leS (mE (luS n (gQ k0 p0 d0) n).2.1 n) n), (rf n), (leS (mE ((luS n (gQ k0 p0 d0) n).1) n) n), (rf n), (leS (fun i0 => .ex (.int .i64 (((luS n (gQ k0 p0 d0) n).2.2.1 i0 : Nat) : Int))) n), (rf ((luS n (gQ k0 p0 d0) n).2.2.2.2 : Bool)), (rf 0), (rf 0), (rf (z0 : Int)), (rf l0), (leS (gE k0 p0 d0) l0), (rf n), (leS (mE (gQ k0 p0 d0) n) n), (rf (n : Int)), (rf (cdet n (gQ k0 p0 d0) : Rat)), zo, (leS (fun i0 => .rat (fillQ n1 p1 d1 i0)) (g + 1)), ⟨by omega, .inl zo⟩, zo⟩, fun hc58 => have hc58 := dF hc58; have hng : n ≤ g := zo; ⟨(rf 0), (rf n), (leS (mE (luS n (gQ k0 p0 d0) n).2.1 n) n), (rf n), (leS (mE ((luS n (gQ k0 p0 d0) n).1) n) n), (rf n), (leS (fun i0 => .ex (.int .i64 (((luS n (gQ k0 p0 d0) n).2.2.1 i0 : Nat) : Int))) n), (rf ((luS n (gQ k0 p0 d0) n).2.2.2.2 : Bool)), (rf 0), (rf g), (leS (fun i0 => .rat (fillQ n1 p1 d1 i0)) g), (rf (z0 : Int)), (rf l0), (leS (gE k0 p0 d0) l0), (rf n), (leS (mE (gQ k0 p0 d0) n) n), (rf (n : Int)), (rf (cdet n (gQ k0 p0 d0) : Rat)), sMatCols (m := n) (n := n) (q := (gQ k0 p0 d0)), (rf (n : Int)), hng, (sMatTimes (m := n) (n := n) (q := (gQ k0 p0 d0)) (v := (fun i => fillQ n1 p1 d1 i)) zo zo hT).frzV2, (sLuSolve (U := (luS n (gQ k0 p0 d0) n).1) (L := (luS n (gQ k0 p0 d0) n).2.1) (o := (luS n (gQ k0 p0 d0) n).2.2.2.2) (n := n) (b := (fun i => dotQ ((gQ k0 p0 d0) i) (fun i => fillQ n1 p1 d1 i) n)) (P := (luS n (gQ k0 p0 d0) n).2.2.1) hn hP hL hU hb).frzV2, (sSolveY (m := n) (n := n) (q := (gQ k0 p0 d0)) (b := (fun i => dotQ ((gQ k0 p0 d0) i) (fun i => fillQ n1 p1 d1 i) n)) zo zo hW2 hN), id, id, (fun hg => (sVecSame (n := n) (m := n) (a := (fun i => luX n (luS n (gQ k0 p0 d0) n).1 (luS n (gQ k0 p0 d0) n).2.1 (fun i => (fun i => dotQ ((gQ k0 p0 d0) i) (fun i => fillQ n1 p1 d1 i) n) ((luS n (gQ k0 p0 d0) n).2.2.1 i)) i)) (b := (fun i => fillQ n1 p1 d1 i)) zo (fun i hi _ => by rw [hXW i hi]; have := hw i hi; omega))), (by simp), (by simp), id, (by simp), id, id, (fun hg => (sVecSame (n := n) (m := n) (a := (fun i => solQ (red n (wideQ n (gQ k0 p0 d0) (fun i => dotQ ((gQ k0 p0 d0) i) (fun i => fillQ n1 p1 d1 i) n)) (n + 1)) n i)) (b := (fun i => fillQ n1 p1 d1 i)) zo (fun i hi _ => by rw [hYW i hi]; have := hw i hi; omega))), (by simp), id, (fun hg => (sLuDet (U := (luS n (gQ k0 p0 d0) n).1) (L := (luS n (gQ k0 p0 d0) n).2.1) (P := (luS n (gQ k0 p0 d0) n).2.2.1) (o := (luS n (gQ k0 p0 d0) n).2.2.2.2) (n := n) zo (fun k hk => hU k hk k hk))), id, id, (fun hg => sRatSame (p := if (luS n (gQ k0 p0 d0) n).2.2.2.2 = true then - (prodD (luS n (gQ k0 p0 d0) n).1 n) else prodD (luS n (gQ k0 p0 d0) n).1 n) (q := cdet n (gQ k0 p0 d0)) hD9), (by simp), (made_test ⟨rfl, hXW⟩ (sol_all hN hdc) ⟨rfl, hYW⟩ ((lu_det hs hok).symm.trans (det_cdet _ _)))⟩⟩⟩
theorem sLuMade {z0 l0 : Nat} {k0 : Nat → Nat} {p0 d0 : Nat → Nat → Int} {n1 : Nat} {p1 d1 : Nat → Int} (h0 : ∀ r, r < l0 → ∀ c, c < k0 r → Wd64 (p0 r c) ∧ Wd64 (d0 r c)) (hn1 : n1 ≤ 68719476736) (w1 : ∀ i, i < n1 → Wd64 (p1 i) ∧ Wd64 (d1 i)) : CallOK Tryz.prog 5 [.agg (.cn (.ex (.int .u8 (z0 : Int))) (.cn (.sl 1 (gE k0 p0 d0) l0) (.nl))), .sl 2 (fun i0 => .agg (.cn (.ex (.int .i64 (p1 i0))) (.cn (.ex (.int .i64 (d1 i0))) (.nl)))) n1] (.ex (.bool true)) [] := by
 by_cases e : min l0 (z0 % 7) = z0 % 7
 ·by_cases k : luOK (z0 % 7) (gQ k0 p0 d0) (z0 % 7)
  ·exact sLuMadeY h0 rfl e k hn1 w1
  ·exact sLuMadeS h0 rfl e k
 ·exact sLuMadeN h0 rfl rfl e
open Go.ChangeShapes Go.WideShapes Go.ChangeAt Go.RowKit
section
variable {H : Type} {enc : TypeId × Value → H} {P : Program}
theorem trodAll_below (hl : laidOutB P = true) {W W' : World} (hb : Below W.heap.size W W') : ∀ {ts : List TypeId} {vs : List Value} {ds : List (DataW H)} {ps : List MemPlace},
  (∀ t ∈ ts, P.readableRec t = true ∧ t < P.types.size) → DataW.TrodAll enc P W 0 (fun _ => true) true ts vs ds ps → (∀ x ∈ ps, x.block < W.heap.size) →
  DataW.TrodAll enc P W' 0 (fun b => decide (b < W.heap.size)) true ts vs ds ps
 | [], _, _, _, _, h, _ => by
  obtain ⟨rfl, rfl, rfl⟩ := trodAll_nil h
  exact trodAll_mk0
 | t :: ts, _, _, _, ht, h, hlt => by
  obtain ⟨v, vs1, d, ds1, a, b, rfl, rfl, rfl, h1, h2⟩ := trodAll_cons h
  have ht0 := ht t (List.mem_cons_self ..)
  exact trodAll_cons_mk (Below.trod hl ht0.1 ht0.2 h1 hb (fun x hx => hlt x (List.mem_append.2 (.inl hx))))
   (trodAll_below hl hb (fun t' h' => ht t' (List.mem_cons_of_mem _ h')) h2 (fun x hx => hlt x (List.mem_append.2 (.inr hx))))
theorem law_post {f : Func} {s : ChangeSpec} {W W' : World} {args : Array Value} {ds gs : List (DataW H)} {before : List MemPlace} {tb : TypeId} (hl : laidOutB P = true)
  (hts : ∀ t ∈ f.params.toList, P.readableRec t = true ∧ t < P.types.size) (hvars : s.vars = []) (hrt : f.resultTypes = #[tb]) (htb : P.underlying tb = some .bool)
  (hW : DataW.Whole enc P f.params.toList s.vars false W args.toList ds gs before) (hfr : (s.fn H (ds ++ gs)).results = [.lit (.bool true)]) (hfa : (s.fn H (ds ++ gs)).args = ds) (hfv : (s.fn H (ds ++ gs)).vars = [])
  (hb : Below W.heap.size W W') : s.post enc P f false true false false W args (.bool true) W' := by
 have hW0 := hW
 obtain ⟨p, q, hA, hV, rfl, hz, hn⟩ := hW
 rw [hvars] at hV
 obtain ⟨rfl, rfl⟩ := trodVars_none hV
 have hlt : ∀ x ∈ p ++ [], x.block < W.heap.size := fun x hx => hW0.lt x hx
 refine ⟨ds, [], p ++ [], [], p, [], hW0, ?_, ?_, ?_, hb.frame _, fun h => by cases h⟩
 ·rw [hfr, hrt]
  exact trodAll_mk1 (shut_bool htb true)
 ·rw [hfa]
  exact trodAll_below hl hb hts hA (fun x hx => hlt x (by simpa using hx))
 ·rw [hvars, hfv]
  rfl
end
theorem TryzlaidOut : laidOutB Tryz.prog = true := by kernel_rfl
theorem Tryzown : ownKnob Tryz.prog.godebug = none := by kernel_rfl
open Go.ChangeShapes Go.WideShapes Go.ChangeAt Go.RowKit Go.Deep
def R0 (a : SV) (W : World) (v : Value) : Prop := a.R (fun _ _ => none) (fun _ => False) W v
section
variable {H : Type} {enc : TypeId × Value → H} {W : World} {fuel base : Nat} {cs : List Value} {x : DataW H × List MemPlace}
def LongC (n : Nat) (d : DataW H) (C : Nat → DataW H → Prop) : Prop := (n = 0 ∧ d = .nil) ∨ ∃ (D : Nat → DataW H) (sp : List (DataW H)), d = .slice ((List.range n).map D) sp ∧ ∀ i, i < n → C i (D i)
def Opens (enc : TypeId × Value → H) (W : World) (T : TypeId) (s : Nat) {α : Type} (E : α → SV) (C : α → DataW H → Prop) : Prop := ∀ fuel cs x, DataW.trod enc Tryz.prog W 0 (fun _ => true) true fuel T cs = some x → ∃ (t : α) (ev : Value), cs = ev.cells.toList ∧ ev.cells.size = s ∧ One ev ∧ R0 (E t) W ev ∧ C t x.1
theorem choose_nat {α : Type} (d : α) {p : Nat → α → Prop} {n : Nat} (h : ∀ i, i < n → ∃ t, p i t) : ∃ t : Nat → α, ∀ i, i < n → p i (t i) := by
 classical
 exact ⟨fun i => if hi : i < n then (h i hi).choose else d, fun i hi => by simpa [hi] using (h i hi).choose_spec⟩
theorem cellLt {a : Addr} {v : Value} (h : W.cell? a = some v) : a.block < W.heap.size := by
 unfold World.cell? at h
 split at h
 ·rename_i hh
  exact (Array.getElem?_eq_some_iff.1 hh).1
 all_goals cases h
theorem opens_sl {T e : TypeId} {s : Nat} {α : Type} {E : α → SV} {C : α → DataW H → Prop} (d : α) (hT : Tryz.prog.underlying T = some (.slice e)) (hs : Tryz.prog.cellsOf e = s) (h0 : 0 < s) (h : Opens enc W e s E C) :
  Opens enc W T 1 (fun t : Nat × (Nat → α) => .sl s (fun i => E (t.2 i)) t.1) (fun t d => LongC t.1 d fun i d' => C (t.2 i) d') := by
 intro fuel cs x hr
 rcases open_slice hT hr with ⟨rfl, rfl⟩ | ⟨a, len, cap, m, k, D, Pl, rfl, _, hl, hm, hmm, rfl, hx⟩
 ·exact ⟨(0, fun _ => d), .slice none 0 0, rfl, rfl, by simp [One, Value.cells, Value.oneCell'], ⟨none, 0, rfl, fun _ => ⟨rfl, rfl⟩, Nat.le_refl _, Nat.zero_le _, fun i hi => by omega⟩, .inl ⟨rfl, rfl⟩⟩
 ·have hm' : m = cap := by rw [hmm]; rfl
  subst hs
  rcases Nat.eq_zero_or_pos len with rfl | hpos
  ·exact ⟨(0, fun _ => d), .slice (some a) 0 cap, rfl, rfl, by simp [One, Value.cells, Value.oneCell'], ⟨some a, cap, rfl, (fun e => by cases e), Nat.zero_le _, hm, fun i hi => by omega⟩, .inr ⟨D, _, rfl, fun i hi => by omega⟩⟩
  have hspot : a.spot = none := by
   obtain ⟨cs', hc, _⟩ := hx 0 zo
   obtain ⟨_, hlen, hcell⟩ := World.cells?_some hc
   have h1 := hcell 0 h0
   rw [List.getElem?_eq_getElem (by rw [hlen]; exact h0)] at h1
   have := World.cell?_spot h1
   simpa [Addr.add] using this
  obtain ⟨g, o, sp⟩ := a
  simp only at hspot
  subst hspot
  have hone : ∀ i, i < len → ∃ t : α, (∃ g' o', some (⟨g, o, none⟩ : Addr) = some ⟨g', o', none⟩ ∧ g' < W.heap.size ∧ ∃ ev : Value, (ev.cells.size = Tryz.prog.cellsOf e ∧ One ev) ∧ R0 (E t) W ev ∧ ∀ j u, ev.cells[j]? = some u → W.cell? ⟨g', (o' + Tryz.prog.cellsOf e * i) + j, none⟩ = some u) ∧ C t (D i) := fun i hi => by
   obtain ⟨cs', hc, ht⟩ := hx i zo
   obtain ⟨t, ev, rfl, k1, k2, k3, k4⟩ := h _ _ _ ht
   obtain ⟨_, hlen, hcell⟩ := World.cells?_some hc
   have hcell : ∀ j, j < Tryz.prog.cellsOf e → W.cell? ⟨g, o + Tryz.prog.cellsOf e * i + j, none⟩ = ev.cells.toList[j]? := fun j hj => by
    have := hcell j hj
    rw [add_plain, add_plain] at this
    rw [← this, Nat.mul_comm i]
   have hg : g < W.heap.size := by
    have h1 := hcell 0 h0
    rw [List.getElem?_eq_getElem (by rw [hlen]; exact h0)] at h1
    exact cellLt h1
   refine ⟨t, ⟨g, o, rfl, hg, ev, ⟨k1, k2⟩, k3, fun j u hj => ?_⟩, k4⟩
   have hj3 : j < ev.cells.size := (Array.getElem?_eq_some_iff.1 hj).1
   rw [hcell j zo]
   simpa using hj
  obtain ⟨t, ht⟩ := choose_nat d hone
  refine ⟨(len, t), .slice (some ⟨g, o, none⟩) len cap, rfl, rfl, by simp [One, Value.cells, Value.oneCell'], ⟨some ⟨g, o, none⟩, cap, rfl, (fun e => by cases e), hl, hm, fun i hi => ?_⟩, .inr ⟨_, _, rfl, fun i hi => (ht i hi).2⟩⟩
  obtain ⟨g, o, e1, e2, ev, e3, e4, e5⟩ := (ht i hi).1
  exact ⟨g, o, e1, id, e2, ev, e3, e4, e5⟩
theorem opens_int {T : TypeId} (hT : Tryz.prog.underlying T = some (.int .i64)) : Opens enc W T 1 (fun z : Int => .ex (.int .i64 z)) (fun z _ => Wd64 z) := by
 intro fuel cs x hx
 obtain ⟨p, hp, _, wp⟩ := DataW.trod_int hT hx
 have : -9223372036854775808 ≤ p ∧ p ≤ 9223372036854775807 := by simpa [Lit.wf, IntKind.min, IntKind.max, IntKind.signed, IntKind.bits] using wp
 exact ⟨p, .int .i64 p, hp, rfl, by simp [One, Value.cells, Value.oneCell'], rfl, this.1, by omega⟩
theorem flat_agg {vs : List Value} (h : ∀ v ∈ vs, One v) : One (.agg (flat vs).toArray) := by
 intro u hu
 rw [agg_cells] at hu
 obtain ⟨v, hv, hu⟩ := List.mem_flatMap.1 hu
 exact h v hv u hu
theorem opens_pair {T : TypeId} {f0 f1 : Field} {s0 s1 : Nat} {α β : Type} {E0 : α → SV} {E1 : β → SV} {C0 : α → DataW H → Prop} {C1 : β → DataW H → Prop} (hT : Tryz.prog.underlying T = some (.struct #[f0, f1])) (h0 : f0.offset = 0) (h1 : f1.offset = s0) (c0 : Tryz.prog.cellsOf f0.type = s0) (c1 : Tryz.prog.cellsOf f1.type = s1) (c : Tryz.prog.cellsOf T = s0 + s1)
  (k0 : Opens enc W f0.type s0 E0 C0) (k1 : Opens enc W f1.type s1 E1 C1) : Opens enc W T (s0 + s1) (fun t : α × β => .agg (.cn (E0 t.1) (.cn (E1 t.2) .nl))) (fun t d => ∃ d0 d1, d = .agg [d0, d1] ∧ C0 t.1 d0 ∧ C1 t.2 d1) := by
 intro fuel cs x hr
 obtain ⟨y0, y1, n, rfl, hl, r0, r1⟩ := trod_struct2 hT hr
 obtain ⟨t0, e0, z0, a0, o0, b0, g0⟩ := k0 _ _ _ r0
 obtain ⟨t1, e1, z1, a1, o1, b1, g1⟩ := k1 _ _ _ r1
 rw [h0, c0, List.drop_zero] at z0
 rw [h1, c1] at z1
 have hcs : cs = flat [e0, e1] := by
  show cs = e0.cells.toList ++ (e1.cells.toList ++ [])
  rw [← z0, ← z1, List.append_nil, List.take_of_length_le (l := List.drop s0 cs) (by rw [List.length_drop]; omega), List.take_append_drop]
 refine ⟨(t0, t1), .agg (flat [e0, e1]).toArray, by rw [agg_cells, hcs], ?_, flat_agg fun v hv => ?_, ⟨[e0, e1], rfl, e0, [e1], rfl, b0, e1, [], rfl, b1, rfl⟩, _, _, rfl, g0, g1⟩
 ·show (flat [e0, e1]).toArray.size = _
  rw [← hcs]
  simp only [List.size_toArray]
  omega
 ·simp only [List.mem_cons, List.not_mem_nil, or_false] at hv
  rcases hv with rfl | rfl
  ·exact o0
  ·exact o1
theorem opens_slV {T e : TypeId} {s : Nat} {α : Type} {E : α → SV} {C : α → DataW H → Prop} {v : Value} {d : DataW H} {ps : List MemPlace} (hT : Tryz.prog.underlying T = some (.slice e)) (hv : Value.okWide Tryz.prog W .any base T v) (h : DataW.Trod enc Tryz.prog W 0 (fun _ => true) true T v d ps)
  (k : Opens enc W T 1 (fun t : Nat × (Nat → α) => .sl s (fun i => E (t.2 i)) t.1) (fun t d => LongC t.1 d fun i d' => C (t.2 i) d')) : ∃ (n : Nat) (t : Nat → α), R0 (.sl s (fun i => E (t i)) n) W v ∧ LongC n d fun i d' => C (t i) d' := by
 obtain ⟨a, len, cap, rfl⟩ := okWide_slice hT hv
 obtain ⟨fuel, hf⟩ := h
 obtain ⟨t, ev, e, _, _, hR, hC⟩ := k _ _ _ hf
 have hev : ev = .slice a len cap := by
  obtain ⟨A0, c, rfl, _⟩ := hR
  have e : [Value.slice a len cap] = [Value.slice A0 t.1 c] := e
  exact (List.cons.inj e).1.symm
 subst hev
 exact ⟨t.1, t.2, hR, hC⟩
theorem opens_aggV {T : TypeId} {fs : Array Field} {s : Nat} {α : Type} {E : α → SV} {C : α → DataW H → Prop} {v : Value} {d : DataW H} {ps : List MemPlace} (hT : Tryz.prog.underlying T = some (.struct fs)) (hv : Value.okWide Tryz.prog W .any base T v) (h : DataW.Trod enc Tryz.prog W 0 (fun _ => true) true T v d ps)
  (k : Opens enc W T s (fun t : α => .agg (E t)) C) : ∃ t : α, R0 (.agg (E t)) W v ∧ C t d := by
 obtain ⟨cs, rfl, _⟩ := okWide_struct hT hv
 obtain ⟨fuel, hf⟩ := h
 obtain ⟨t, ev, e, _, _, hR, hC⟩ := k _ _ _ hf
 have hev : ev = .agg cs := by
  obtain ⟨vs, rfl, _⟩ := hR
  rw [agg_cells] at e
  have e : cs.toList = flat vs := e
  rw [← e]
 subst hev
 exact ⟨t, hR, hC⟩
end
def fracS (t : Int × Int) : SV := .agg (.cn (.ex (.int .i64 t.1)) (.cn (.ex (.int .i64 t.2)) .nl))
theorem opens_frac {H : Type} {enc : TypeId × Value → H} {W : World} : Opens enc W 26 2 fracS (fun t d => ∃ d0 d1, d = .agg [d0, d1] ∧ Wd64 t.1 ∧ Wd64 t.2) :=
 opens_pair (s0 := 1) (s1 := 1) Tryz.underlying26 rfl rfl (by kernel_rfl) (by kernel_rfl) (by kernel_rfl) (opens_int Tryz.underlying3) (opens_int Tryz.underlying3)
def rowS (t : Nat × (Nat → Int × Int)) : SV := .sl 2 (fun i => fracS (t.2 i)) t.1
def RowC {H : Type} (t : Nat × (Nat → Int × Int)) (d : DataW H) : Prop := LongC t.1 d fun i d' => ∃ d0 d1, d' = .agg [d0, d1] ∧ Wd64 (t.2 i).1 ∧ Wd64 (t.2 i).2
theorem opens_fracs {H : Type} {enc : TypeId × Value → H} {W : World} : Opens enc W 27 1 rowS RowC :=
 opens_sl (E := fracS) (C := fun t d => ∃ d0 d1, d = .agg [d0, d1] ∧ Wd64 t.1 ∧ Wd64 t.2) (0, 0) Tryz.underlying27 (by kernel_rfl) (by decide) opens_frac
theorem opens_rows {H : Type} {enc : TypeId × Value → H} {W : World} : Opens enc W 22 1 (fun t : Nat × (Nat → Nat × (Nat → Int × Int)) => .sl 1 (fun i => rowS (t.2 i)) t.1) (fun t d => LongC t.1 d fun i d' => RowC (t.2 i) d') :=
 opens_sl (E := rowS) (C := RowC) (0, fun _ => (0, 0)) Tryz.underlying22 (by kernel_rfl) (by decide) opens_fracs
section
variable {H : Type} {enc : TypeId × Value → H} {W : World} {base : Nat} {v : Value} {d : DataW H} {ps : List MemPlace}
theorem top_fracs (hv : Value.okWide Tryz.prog W .any base 27 v) (h : DataW.Trod enc Tryz.prog W 0 (fun _ => true) true 27 v d ps) : ∃ (n : Nat) (t : Nat → Int × Int), R0 (.sl 2 (fun i => fracS (t i)) n) W v ∧ LongC n d fun i d' => ∃ d0 d1, d' = .agg [d0, d1] ∧ Wd64 (t i).1 ∧ Wd64 (t i).2 :=
 opens_slV (E := fracS) (C := fun t d => ∃ d0 d1, d = .agg [d0, d1] ∧ Wd64 t.1 ∧ Wd64 t.2) Tryz.underlying27 hv h opens_fracs
end
theorem CallOK.law {f : FuncId} {As : List SV} (h : CallOK Tryz.prog f As (.ex (.bool true)) []) {W : World} {vals : List Value} (hA : ArgsR As (fun _ _ => none) (fun _ => False) W vals) : Calls Tryz.prog f vals.toArray W fun e W' => ∃ v, e = .returned v ∧ Below W.heap.size W W' ∧ v = .bool true :=
 (h.run (fun _ _ => none) (fun _ => False) W vals (fun _ h => h.elim) hA).mono fun _ _ ⟨v, _, e1, hp, hR⟩ => ⟨v, e1, hp.mod.grow, hR⟩
open Go.ChangeShapes Go.WideShapes Go.ChangeAt Go.RowKit Go.Deep
section
variable {H : Type} {enc : TypeId × Value → H} {W : World} {base : Nat} {v : Value} {d : DataW H} {ps : List MemPlace}
theorem LongC.at {n : Nat} {d : DataW H} {C : Nat → DataW H → Prop} (h : LongC n d C) : ∀ i, i < n → ∃ d', C i d' := fun i hi => by
 rcases h with ⟨rfl, _⟩ | ⟨D, _, _, k⟩
 ·omega
 ·exact ⟨D i, k i hi⟩
theorem opens_u8 {T : TypeId} (hT : Tryz.prog.underlying T = some (.int .u8)) : Opens enc W T 1 (fun z : Nat => .ex (.int .u8 (z : Int))) (fun z _ => z < 256) := by
 intro fuel cs x hx
 obtain ⟨p, hp, _, wp⟩ := DataW.trod_int hT hx
 have : 0 ≤ p ∧ p ≤ 255 := by simpa [Lit.wf, IntKind.min, IntKind.max, IntKind.signed, IntKind.bits] using wp
 exact ⟨p.toNat, .int .u8 p, hp, rfl, by simp [One, Value.cells, Value.oneCell'], by show Value.int .u8 p = .int .u8 ((p.toNat : Nat) : Int); rw [Int.toNat_of_nonneg this.1], by omega⟩
end
theorem opens_grid {H : Type} {enc : TypeId × Value → H} {W : World} : Opens enc W 24 2 (fun t : Nat × (Nat × (Nat → Nat × (Nat → Int × Int))) => .agg (.cn (.ex (.int .u8 ((t.1 : Nat) : Int))) (.cn (.sl 1 (fun i => rowS (t.2.2 i)) t.2.1) .nl))) (fun t d => ∃ d0 d1, d = .agg [d0, d1] ∧ t.1 < 256 ∧ LongC t.2.1 d1 fun i d' => RowC (t.2.2 i) d') :=
 opens_pair (s0 := 1) (s1 := 1) Tryz.underlying24 rfl rfl (by kernel_rfl) (by kernel_rfl) (by kernel_rfl) (opens_u8 Tryz.underlying5) opens_rows
section
variable {H : Type} {enc : TypeId × Value → H} {W : World} {base : Nat} {v : Value} {d : DataW H} {ps : List MemPlace}
theorem LongC.wf {n : Nat} {d : DataW H} {f : Nat → Nat} (h : LongC n d fun i _ => f i < 18446744073709551616) : Wf f n := fun i hi => by
 obtain ⟨_, k⟩ := h.at i hi
 exact k
theorem top_grid (hv : Value.okWide Tryz.prog W .any base 24 v) (h : DataW.Trod enc Tryz.prog W 0 (fun _ => true) true 24 v d ps) : ∃ (t : Nat × (Nat × (Nat → Nat × (Nat → Int × Int)))), R0 (.agg (.cn (.ex (.int .u8 ((t.1 : Nat) : Int))) (.cn (.sl 1 (fun i => rowS (t.2.2 i)) t.2.1) .nl))) W v ∧ t.1 < 256 ∧ ∀ r, r < t.2.1 → ∀ c, c < (t.2.2 r).1 → Wd64 ((t.2.2 r).2 c).1 ∧ Wd64 ((t.2.2 r).2 c).2 := by
 obtain ⟨t, hR, _, _, _, h8, hL⟩ := opens_aggV (E := fun t : Nat × (Nat × (Nat → Nat × (Nat → Int × Int))) => .cn (.ex (.int .u8 ((t.1 : Nat) : Int))) (.cn (.sl 1 (fun i => rowS (t.2.2 i)) t.2.1) .nl)) Tryz.underlying24 hv h opens_grid
 refine ⟨t, hR, h8, fun r hr c hc => ?_⟩
 obtain ⟨_, k⟩ := hL.at r hr
 obtain ⟨_, _, _, _, k2⟩ := k.at c hc
 exact k2
end
end Go.Proofs.YtgighdoacajmfaaGreat
