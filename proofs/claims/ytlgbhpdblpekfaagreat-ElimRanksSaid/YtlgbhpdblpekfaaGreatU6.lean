/- The parts SR3, VecM, SV, SL, SR4, SR5, SA, SG, SH, SK, Det, Red, Ht, Lin, SX, SW, DetI. -/
import Derived.Test.YtlgbhpdblpekfaaGreatU5
set_option maxRecDepth 100000
namespace Go.Proofs.YtlgbhpdblpekfaaGreat
open Go.RowKit
def SV.zt (z : Int) : SV := .agg (.cn (.ex (.bool (decide (z < 0)))) (.cn (.dgs z.natAbs (nd z.natAbs)) .nl))
def SV.qt (q : Rat) : SV := .agg (.cn (.zt q.num) (.cn (.dgs q.den (nd q.den)) .nl))
theorem sgn_lt {b : Bool} {x : Nat} : (bif b then decide ((0 : Int) < (nd x : Int)) else false) = decide (signed b x < 0) := by
 have := nd_eq_zero x
 cases b
 ·simp [signed]
 ·simp only [signed, if_true, cond_true, decide_eq_decide]; omega
theorem nd_abs_add (a b : Int) : nd (a + b).natAbs ≤ max (nd a.natAbs) (nd b.natAbs) + 1 := Nat.le_trans (nd_mono (Int.natAbs_add_le a b)) (nd_add _ _)
theorem nd_abs_mul (a b : Int) : nd (a * b).natAbs ≤ nd a.natAbs + nd b.natAbs := by rw [Int.natAbs_mul]; exact nd_mul _ _
theorem nd_num (q : Rat) : nd q.num.natAbs ≤ 4 * szq q := Nat.le_trans (nd_nw _) (Nat.mul_le_mul_left 4 (szq_num q))
theorem nd_den (q : Rat) : nd q.den ≤ 4 * szq q := Nat.le_trans (nd_nw _) (Nat.mul_le_mul_left 4 (szq_den q))
theorem like02 {x y : Nat} : (bif decide (x = y) then decide (((nw y : Nat) : Int) = (nw x : Int)) else false) = decide (x = y) := by
 by_cases h : x = y
 ·subst h; simp
 ·simp [h]
theorem like07 {y z s : Int} (hs : s = z.sign) : (bif (bif ((decide (y < 0)) == (decide (z < 0))) then decide (y.sign = s) else false) then decide (z.natAbs = y.natAbs) else false) = decide (z = y) := by
 subst hs
 by_cases h : z = y
 ·subst h; simp
 ·rw [decide_eq_false h]
  by_cases k : y.sign = z.sign
  ·have : ¬ z.natAbs = y.natAbs := fun e => h (by rw [← Int.sign_mul_natAbs z, ← Int.sign_mul_natAbs y, k, e])
   simp [this]
  ·simp [k]
theorem like5 {A B C D E R : Bool} (h1 : R = true → A = true ∧ B = true ∧ C = true ∧ D = true ∧ E = true) (h2 : R = false → A = false ∨ B = false) : (bif (bif (bif (bif A then B else false) then C else false) then D else false) then E else false) = R := by
 cases R
 ·rcases h2 rfl with h | h <;> subst h <;> simp
 ·obtain ⟨rfl, rfl, rfl, rfl, rfl⟩ := h1 rfl; rfl
theorem like08 {p q : Rat} : (bif (bif (bif (bif decide (p.num = q.num) then decide (p.den = q.den) else false) then (decide (q.den = 1)) == (decide (cmpN p.den 1 = 0)) else false) then (decide (q = 0)) == (decide (((nd p.num.natAbs : Nat) : Int) = 0)) else false) then decide (((Wd.blen q.num.natAbs + Wd.blen q.den : Nat) : Int) = ((Wd.blen p.num.natAbs + Wd.blen p.den : Nat) : Int)) else false) = decide (p = q) := by
 refine like5 (fun h => ?_) (fun h => ?_)
 ·have h := of_decide_eq_true h
  subst h
  refine ⟨decide_eq_true rfl, decide_eq_true rfl, beq_iff_eq.2 (decide_eq_decide.2 cmpN_zero.symm), beq_iff_eq.2 (decide_eq_decide.2 ?_), decide_eq_true rfl⟩
  have := nd_eq_zero p.num.natAbs
  rw [← Rat.num_eq_zero]; omega
 ·have h := of_decide_eq_false h
  by_cases k : p.num = q.num
  ·exact .inr (decide_eq_false fun e => h (Rat.ext k e))
  ·exact .inl (decide_eq_false k)
theorem sZNew {b : Bool} {x : Nat}  : CallOK Tryz.prog 100 [.ex (.bool b), .dgs x (nd x)] (.zt (signed b x)) [] := by
 exact kP (ch := []) Tryz.func100 ((∀ j0, j0 < (nd x) → True) ∧ ((b == true) = true → (b == true) = true) ∧ ((b == true) = true → (b == true) = true) ∧ (b = true → (b == true) = true) ∧ (((bif b then (decide ((0 : Int) < (nd x : Int))) else false : Bool) = (decide ((signed b x) < 0))) ∧ ((nd x : Nat) = (nd ((signed b x).natAbs))) ∧ (∀ j0, j0 < (nd x) → (((dg x j0 : Nat) : Int) = (dg ((signed b x).natAbs) j0 : Int)))))
  ⟨(fun _ _ => trivial), id, id, (by first | (simp; done) | (simp; omega)), sgn_lt, (by rw [natAbs_sg]), (fun j0 hj0 => (by rw [natAbs_sg]))⟩
theorem sWhole {x : Nat}  : CallOK Tryz.prog 99 [.dgs x (nd x)] (.zt (x : Int)) [] := by
 exact kP (ch := [.reg 1 [(1, .callS (.zt (signed false x)) [])]]) Tryz.func99 ((∀ j0, j0 < (nd x) → True) ∧ _ ∧ (((decide ((signed false x) < 0) : Bool) = (decide ((x : Int) < 0))) ∧ ((nd ((signed false x).natAbs) : Nat) = (nd ((x : Int).natAbs))) ∧ (∀ j0, j0 < (nd ((signed false x).natAbs)) → (((dg ((signed false x).natAbs) j0 : Nat) : Int) = (dg ((x : Int).natAbs) j0 : Int)))))
  ⟨(fun _ _ => trivial), sZNew (b := false) (x := x), (by rw [signed_false]), (by rw [signed_false]), (fun j0 hj0 => (by rw [signed_false]))⟩
theorem sZNeg {z : Int}  : CallOK Tryz.prog 104 [.zt z] (.zt (-z)) [] := by
 exact kP (ch := [.reg 1 [(5, .callS (.zt (signed (!(decide (z < 0))) z.natAbs)) [])]]) Tryz.func104 ((∀ j0, j0 < (nd z.natAbs) → True) ∧ _ ∧ (((decide ((signed (!(decide (z < 0))) z.natAbs) < 0) : Bool) = (decide ((-z) < 0))) ∧ ((nd ((signed (!(decide (z < 0))) z.natAbs).natAbs) : Nat) = (nd ((-z).natAbs))) ∧ (∀ j0, j0 < (nd ((signed (!(decide (z < 0))) z.natAbs).natAbs)) → (((dg ((signed (!(decide (z < 0))) z.natAbs).natAbs) j0 : Nat) : Int) = (dg ((-z).natAbs) j0 : Int)))))
  ⟨(fun _ _ => trivial), sZNew (b := ! (decide (z < 0))) (x := z.natAbs), (by rw [signed_neg]), (by rw [signed_neg]), (fun j0 hj0 => (by rw [signed_neg]))⟩
theorem sZMul {y z : Int} (hs : nd y.natAbs + nd z.natAbs ≤ 4294967296) : CallOK Tryz.prog 98 [.zt y, .zt z] (.zt (y * z)) [] := by
 exact kP (ch := [.reg 1 [(9, .callS (.dgs (y.natAbs * z.natAbs) (nd (y.natAbs * z.natAbs))) []), (10, .callS (.zt (signed (!((decide (y < 0)) == (decide (z < 0)))) (y.natAbs * z.natAbs))) [])]]) Tryz.func98 ((∀ j0, j0 < (nd y.natAbs) → True) ∧ (∀ j0, j0 < (nd z.natAbs) → True) ∧ _ ∧ _ ∧ (((decide ((signed (!((decide (y < 0)) == (decide (z < 0)))) (y.natAbs * z.natAbs)) < 0) : Bool) = (decide ((y * z) < 0))) ∧ ((nd ((signed (!((decide (y < 0)) == (decide (z < 0)))) (y.natAbs * z.natAbs)).natAbs) : Nat) = (nd ((y * z).natAbs))) ∧ (∀ j0, j0 < (nd ((signed (!((decide (y < 0)) == (decide (z < 0)))) (y.natAbs * z.natAbs)).natAbs)) → (((dg ((signed (!((decide (y < 0)) == (decide (z < 0)))) (y.natAbs * z.natAbs)).natAbs) j0 : Nat) : Int) = (dg ((y * z).natAbs) j0 : Int)))))
  ⟨(fun _ _ => trivial), (fun _ _ => trivial), sRefMul (x := y.natAbs) (y := z.natAbs) zo, sZNew (b := ! ((decide (y < 0)) == (decide (z < 0)))) (x := y.natAbs * z.natAbs), (by rw [signed_mul2]), (by rw [signed_mul2]), (fun j0 hj0 => (by rw [signed_mul2]))⟩
theorem sZAdd {y z : Int} (hy : nd y.natAbs ≤ 4294967296) (hz : nd z.natAbs ≤ 4294967296) : CallOK Tryz.prog 105 [.zt y, .zt z] (.zt (y + z)) [] := by
 exact kP (ch := [.reg 2 [(6, .callS (.dgs (y.natAbs + z.natAbs) (nd (y.natAbs + z.natAbs))) []), (7, .callS (.zt (signed (decide (y < 0)) (y.natAbs + z.natAbs))) [])], .reg 3 [(4, .callS (.ex (.int .i64 (cmpN y.natAbs z.natAbs))) [])], .reg 4 [(6, .callS (.dgs (y.natAbs - z.natAbs) (nd (y.natAbs - z.natAbs))) []), (7, .callS (.zt (signed (decide (y < 0)) (y.natAbs - z.natAbs))) [])], .reg 5 [(6, .callS (.dgs (z.natAbs - y.natAbs) (nd (z.natAbs - y.natAbs))) []), (7, .callS (.zt (signed (decide (z < 0)) (z.natAbs - y.natAbs))) [])]]) Tryz.func105 ((∀ j0, j0 < (nd y.natAbs) → True) ∧ (∀ j0, j0 < (nd z.natAbs) → True) ∧ ((((decide (y < 0)) == (decide (z < 0))) = true → _ ∧ _ ∧ (((decide ((signed (decide (y < 0)) (y.natAbs + z.natAbs)) < 0) : Bool) = (decide ((y + z) < 0))) ∧ ((nd ((signed (decide (y < 0)) (y.natAbs + z.natAbs)).natAbs) : Nat) = (nd ((y + z).natAbs))) ∧ (∀ j0, j0 < (nd ((signed (decide (y < 0)) (y.natAbs + z.natAbs)).natAbs)) → (((dg ((signed (decide (y < 0)) (y.natAbs + z.natAbs)).natAbs) j0 : Nat) : Int) = (dg ((y + z).natAbs) j0 : Int))))) ∧ (((decide (y < 0)) == (decide (z < 0))) = false → _ ∧ (((decide ((0 : Int) ≤ (cmpN y.natAbs z.natAbs))) = true → _ ∧ _ ∧ (((decide ((signed (decide (y < 0)) (y.natAbs - z.natAbs)) < 0) : Bool) = (decide ((y + z) < 0))) ∧ ((nd ((signed (decide (y < 0)) (y.natAbs - z.natAbs)).natAbs) : Nat) = (nd ((y + z).natAbs))) ∧ (∀ j0, j0 < (nd ((signed (decide (y < 0)) (y.natAbs - z.natAbs)).natAbs)) → (((dg ((signed (decide (y < 0)) (y.natAbs - z.natAbs)).natAbs) j0 : Nat) : Int) = (dg ((y + z).natAbs) j0 : Int))))) ∧ ((decide ((0 : Int) ≤ (cmpN y.natAbs z.natAbs))) = false → _ ∧ _ ∧ (((decide ((signed (decide (z < 0)) (z.natAbs - y.natAbs)) < 0) : Bool) = (decide ((y + z) < 0))) ∧ ((nd ((signed (decide (z < 0)) (z.natAbs - y.natAbs)).natAbs) : Nat) = (nd ((y + z).natAbs))) ∧ (∀ j0, j0 < (nd ((signed (decide (z < 0)) (z.natAbs - y.natAbs)).natAbs)) → (((dg ((signed (decide (z < 0)) (z.natAbs - y.natAbs)).natAbs) j0 : Nat) : Int) = (dg ((y + z).natAbs) j0 : Int)))))))))
  ⟨(fun _ _ => trivial), (fun _ _ => trivial), fun hc9 => ⟨sRefAdd (x := y.natAbs) (y := z.natAbs) zo zo, sZNew (b := decide (y < 0)) (x := y.natAbs + z.natAbs), (by rw [signed_add1 hc9]), (by rw [signed_add1 hc9]), (fun j0 hj0 => (by rw [signed_add1 hc9]))⟩, fun hc9 => ⟨sRefCmp (x := y.natAbs) (y := z.natAbs) zo, fun hc23 => have hc23 := dT hc23; have hge := cmpN_ge.1 hc23; ⟨sRefSub (x := y.natAbs) (y := z.natAbs) zo hge, sZNew (b := decide (y < 0)) (x := y.natAbs - z.natAbs), (by rw [signed_add2 hc9 hge]), (by rw [signed_add2 hc9 hge]), (fun j0 hj0 => (by rw [signed_add2 hc9 hge]))⟩, fun hc23 => have hc23 := dF hc23; have hge := Nat.le_of_lt (Nat.lt_of_not_le (fun e => hc23 (cmpN_ge.2 e))); ⟨sRefSub (x := z.natAbs) (y := y.natAbs) zo hge, sZNew (b := decide (z < 0)) (x := z.natAbs - y.natAbs), (by rw [signed_add3 hc9 hge]), (by rw [signed_add3 hc9 hge]), (fun j0 hj0 => (by rw [signed_add3 hc9 hge]))⟩⟩⟩
theorem sQNew {p d : Int} (hd : d ≠ 0) (hp2 : nd p.natAbs ≤ 1073741824) (hd2 : nd d.natAbs ≤ 1073741824) : CallOK Tryz.prog 97 [.zt p, .zt d] (.qt (Rat.divInt p d)) [] := by
 have hg : 0 < Nat.gcd p.natAbs d.natAbs := Nat.gcd_pos_of_pos_right _ zo
 exact kP (ch := [.reg 1 [(4, .callS (.dgs (Nat.gcd p.natAbs d.natAbs) (nd (Nat.gcd p.natAbs d.natAbs))) [])], .reg 2 [(3, .callS (.cn (.dgs (p.natAbs / (Nat.gcd p.natAbs d.natAbs)) (nd (p.natAbs / (Nat.gcd p.natAbs d.natAbs)))) (.cn (.dgs (p.natAbs % (Nat.gcd p.natAbs d.natAbs)) (nd (p.natAbs % (Nat.gcd p.natAbs d.natAbs)))) (.nl))) [])], .reg 3 [(3, .callS (.cn (.dgs (d.natAbs / (Nat.gcd p.natAbs d.natAbs)) (nd (d.natAbs / (Nat.gcd p.natAbs d.natAbs)))) (.cn (.dgs (d.natAbs % (Nat.gcd p.natAbs d.natAbs)) (nd (d.natAbs % (Nat.gcd p.natAbs d.natAbs)))) (.nl))) [])], .reg 4 [(6, .callS (.zt (signed (!((decide (p < 0)) == (decide (d < 0)))) (p.natAbs / (Nat.gcd p.natAbs d.natAbs)))) [])]]) Tryz.func97 ((∀ j0, j0 < (nd p.natAbs) → True) ∧ (∀ j0, j0 < (nd d.natAbs) → True) ∧ _ ∧ _ ∧ _ ∧ _ ∧ (((decide ((signed (!((decide (p < 0)) == (decide (d < 0)))) (p.natAbs / (Nat.gcd p.natAbs d.natAbs))) < 0) : Bool) = (decide (((Rat.divInt p d).num) < 0))) ∧ ((nd ((signed (!((decide (p < 0)) == (decide (d < 0)))) (p.natAbs / (Nat.gcd p.natAbs d.natAbs))).natAbs) : Nat) = (nd (((Rat.divInt p d).num).natAbs))) ∧ (∀ j0, j0 < (nd ((signed (!((decide (p < 0)) == (decide (d < 0)))) (p.natAbs / (Nat.gcd p.natAbs d.natAbs))).natAbs)) → (((dg ((signed (!((decide (p < 0)) == (decide (d < 0)))) (p.natAbs / (Nat.gcd p.natAbs d.natAbs))).natAbs) j0 : Nat) : Int) = (dg (((Rat.divInt p d).num).natAbs) j0 : Int))) ∧ ((nd (d.natAbs / (Nat.gcd p.natAbs d.natAbs)) : Nat) = (nd ((Rat.divInt p d).den))) ∧ (∀ j0, j0 < (nd (d.natAbs / (Nat.gcd p.natAbs d.natAbs))) → (((dg (d.natAbs / (Nat.gcd p.natAbs d.natAbs)) j0 : Nat) : Int) = (dg ((Rat.divInt p d).den) j0 : Int)))))
  ⟨(fun _ _ => trivial), (fun _ _ => trivial), sRefGcd (x := p.natAbs) (y := d.natAbs) zo zo, sRefDivMod (n := p.natAbs) (d := Nat.gcd p.natAbs d.natAbs) zo zo, sRefDivMod (n := d.natAbs) (d := Nat.gcd p.natAbs d.natAbs) zo zo, sZNew (b := ! ((decide (p < 0)) == (decide (d < 0)))) (x := p.natAbs / (Nat.gcd p.natAbs d.natAbs)), (by rw [new_num2 p d hd]), (by first | rw [new_num2 p d hd] | rw [new_den2 p d hd]), (fun j0 hj0 => (by first | rw [new_num2 p d hd] | rw [new_den2 p d hd])), (by first | rw [new_num2 p d hd] | rw [new_den2 p d hd]), (fun j0 hj0 => (by first | rw [new_num2 p d hd] | rw [new_den2 p d hd]))⟩
theorem sQAdd {p q : Rat} (hs : szq p + szq q ≤ 16777216) : CallOK Tryz.prog 60 [.qt p, .qt q] (.qt (p + q)) [] := by
 have h1 := nd_num p
 have h2 := nd_den p
 have h3 := nd_num q
 have h4 := nd_den q
 have h5 : nd ((p.den : Nat) : Int).natAbs ≤ 4 * szq p := h2
 have h6 : nd ((q.den : Nat) : Int).natAbs ≤ 4 * szq q := h4
 have h7 := nd_abs_mul p.num ((q.den : Nat) : Int)
 have h8 := nd_abs_mul q.num ((p.den : Nat) : Int)
 have h9 := nd_abs_add (p.num * ((q.den : Nat) : Int)) (q.num * ((p.den : Nat) : Int))
 have h10 : nd ((p.den * q.den : Nat) : Int).natAbs ≤ _ := nd_mul p.den q.den
 have h11 := den2_ne p q
 have h12 := add_as p q
 exact kP (ch := [.reg 1 [(4, .callS (.zt ((q.den : Nat) : Int)) []), (5, .callS (.zt (p.num * ((q.den : Nat) : Int))) []), (10, .callS (.zt ((p.den : Nat) : Int)) []), (11, .callS (.zt (q.num * ((p.den : Nat) : Int))) []), (12, .callS (.zt ((p.num * ((q.den : Nat) : Int)) + (q.num * ((p.den : Nat) : Int)))) [])], .reg 2 [(5, .callS (.dgs (p.den * q.den) (nd (p.den * q.den))) []), (6, .callS (.zt ((p.den * q.den : Nat) : Int)) []), (7, .callS (.qt (Rat.divInt ((p.num * ((q.den : Nat) : Int)) + (q.num * ((p.den : Nat) : Int))) ((p.den * q.den : Nat) : Int))) [])]]) Tryz.func60 ((∀ j0, j0 < (nd p.num.natAbs) → True) ∧ (∀ j0, j0 < (nd p.den) → True) ∧ (∀ j0, j0 < (nd q.num.natAbs) → True) ∧ (∀ j0, j0 < (nd q.den) → True) ∧ _ ∧ _ ∧ _ ∧ _ ∧ _ ∧ _ ∧ _ ∧ _ ∧ (((decide (((Rat.divInt ((p.num * ((q.den : Nat) : Int)) + (q.num * ((p.den : Nat) : Int))) ((p.den * q.den : Nat) : Int)).num) < 0) : Bool) = (decide (((p + q).num) < 0))) ∧ ((nd (((Rat.divInt ((p.num * ((q.den : Nat) : Int)) + (q.num * ((p.den : Nat) : Int))) ((p.den * q.den : Nat) : Int)).num).natAbs) : Nat) = (nd (((p + q).num).natAbs))) ∧ (∀ j0, j0 < (nd (((Rat.divInt ((p.num * ((q.den : Nat) : Int)) + (q.num * ((p.den : Nat) : Int))) ((p.den * q.den : Nat) : Int)).num).natAbs)) → (((dg (((Rat.divInt ((p.num * ((q.den : Nat) : Int)) + (q.num * ((p.den : Nat) : Int))) ((p.den * q.den : Nat) : Int)).num).natAbs) j0 : Nat) : Int) = (dg (((p + q).num).natAbs) j0 : Int))) ∧ ((nd ((Rat.divInt ((p.num * ((q.den : Nat) : Int)) + (q.num * ((p.den : Nat) : Int))) ((p.den * q.den : Nat) : Int)).den) : Nat) = (nd ((p + q).den))) ∧ (∀ j0, j0 < (nd ((Rat.divInt ((p.num * ((q.den : Nat) : Int)) + (q.num * ((p.den : Nat) : Int))) ((p.den * q.den : Nat) : Int)).den)) → (((dg ((Rat.divInt ((p.num * ((q.den : Nat) : Int)) + (q.num * ((p.den : Nat) : Int))) ((p.den * q.den : Nat) : Int)).den) j0 : Nat) : Int) = (dg ((p + q).den) j0 : Int)))))
  ⟨(fun _ _ => trivial), (fun _ _ => trivial), (fun _ _ => trivial), (fun _ _ => trivial), sWhole (x := q.den), sZMul (y := p.num) (z := ((q.den : Nat) : Int)) zo, sWhole (x := p.den), sZMul (y := q.num) (z := ((p.den : Nat) : Int)) zo, sZAdd (y := (p.num * ((q.den : Nat) : Int))) (z := (q.num * ((p.den : Nat) : Int))) zo zo, sRefMul (x := p.den) (y := q.den) zo, sWhole (x := p.den * q.den), sQNew (p := ((p.num * ((q.den : Nat) : Int)) + (q.num * ((p.den : Nat) : Int)))) (d := (((p.den * q.den) : Nat) : Int)) h11 zo zo, (by rw [h12]), (by rw [h12]), (fun j0 hj0 => (by rw [h12])), (by rw [h12]), (fun j0 hj0 => (by rw [h12]))⟩
theorem sQMul {p q : Rat} (hs : szq p + szq q ≤ 16777216) : CallOK Tryz.prog 57 [.qt p, .qt q] (.qt (p * q)) [] := by
 have h1 := nd_num p
 have h2 := nd_den p
 have h3 := nd_num q
 have h4 := nd_den q
 have h5 : nd ((p.den : Nat) : Int).natAbs ≤ 4 * szq p := h2
 have h6 : nd ((q.den : Nat) : Int).natAbs ≤ 4 * szq q := h4
 have h7 := nd_abs_mul p.num q.num
 have h10 : nd ((p.den * q.den : Nat) : Int).natAbs ≤ _ := nd_mul p.den q.den
 have h11 := den2_ne p q
 have h12 := mul_as p q
 exact kP (ch := [.reg 1 [(4, .callS (.zt (p.num * q.num)) []), (9, .callS (.dgs (p.den * q.den) (nd (p.den * q.den))) []), (10, .callS (.zt ((p.den * q.den : Nat) : Int)) []), (11, .callS (.qt (Rat.divInt (p.num * q.num) ((p.den * q.den : Nat) : Int))) [])]]) Tryz.func57 ((∀ j0, j0 < (nd p.num.natAbs) → True) ∧ (∀ j0, j0 < (nd p.den) → True) ∧ (∀ j0, j0 < (nd q.num.natAbs) → True) ∧ (∀ j0, j0 < (nd q.den) → True) ∧ _ ∧ _ ∧ _ ∧ _ ∧ (((decide (((Rat.divInt (p.num * q.num) ((p.den * q.den : Nat) : Int)).num) < 0) : Bool) = (decide (((p * q).num) < 0))) ∧ ((nd (((Rat.divInt (p.num * q.num) ((p.den * q.den : Nat) : Int)).num).natAbs) : Nat) = (nd (((p * q).num).natAbs))) ∧ (∀ j0, j0 < (nd (((Rat.divInt (p.num * q.num) ((p.den * q.den : Nat) : Int)).num).natAbs)) → (((dg (((Rat.divInt (p.num * q.num) ((p.den * q.den : Nat) : Int)).num).natAbs) j0 : Nat) : Int) = (dg (((p * q).num).natAbs) j0 : Int))) ∧ ((nd ((Rat.divInt (p.num * q.num) ((p.den * q.den : Nat) : Int)).den) : Nat) = (nd ((p * q).den))) ∧ (∀ j0, j0 < (nd ((Rat.divInt (p.num * q.num) ((p.den * q.den : Nat) : Int)).den)) → (((dg ((Rat.divInt (p.num * q.num) ((p.den * q.den : Nat) : Int)).den) j0 : Nat) : Int) = (dg ((p * q).den) j0 : Int)))))
  ⟨(fun _ _ => trivial), (fun _ _ => trivial), (fun _ _ => trivial), (fun _ _ => trivial), sZMul (y := p.num) (z := q.num) zo, sRefMul (x := p.den) (y := q.den) zo, sWhole (x := p.den * q.den), sQNew (p := p.num * q.num) (d := (((p.den * q.den) : Nat) : Int)) h11 zo zo, (by rw [h12]), (by rw [h12]), (fun j0 hj0 => (by rw [h12])), (by rw [h12]), (fun j0 hj0 => (by rw [h12]))⟩
theorem sLike2 {x y : Nat} (hx : nd x ≤ 17179869184) : CallOK Tryz.prog 64 [.nat y, .dgs x (nd x)] (.ex (.bool (decide (x = y)))) [] := by
 exact kP (ch := [.reg 1 [(2, .callS (.wds y (nw y)) []), (3, .callS (.ex (.bool (decide (x = y)))) []), (6, .callS (.ex (.int .i64 (nw y : Int))) []), (8, .callS (.wds x (nw x)) [])]]) Tryz.func64 ((∀ j0, j0 < (nd x) → True) ∧ _ ∧ _ ∧ (((decide (x = y)) == true) = true → ((decide (x = y)) == true) = true) ∧ (((decide (x = y)) == true) = true → _) ∧ (((decide (x = y)) == true) = true → ((decide (x = y)) == true) = true) ∧ (((decide (x = y)) == true) = true → _) ∧ (((decide (x = y)) == true) = true → ((decide (x = y)) == true) = true) ∧ (((decide (x = y)) == true) = true → ((decide (x = y)) == true) = true) ∧ (((decide (x = y)) == true) = true → ((decide (x = y)) == true) = true) ∧ ((decide (x = y)) = true → ((decide (x = y)) == true) = true) ∧ (((bif (decide (x = y)) then (decide (((nw y : Nat) : Int) = (nw x : Int))) else false : Bool) = (decide (x = y)))))
  ⟨(fun _ _ => trivial), sNatWords (x := y), sRefIs (x := x) (y := y) zo, id, (fun hg => sNatLen (x := y)), id, (fun hg => sRefWords (x := x) zo), id, id, id, (by first | (simp; done) | (simp; omega)), like02⟩
theorem sLike7 {y z : Int} (hz : nd z.natAbs ≤ 17179869184) : CallOK Tryz.prog 62 [.int y, .zt z] (.ex (.bool (decide (z = y)))) [] := by
 have hn := nd_eq_zero z.natAbs
 exact kP (ch := [.reg 6 [(1, .callS (.ex (.bool (decide (y < 0)))) []), (7, .callS (.ex (.int .i64 y.sign)) []), (13, .callS (.nat y.natAbs) []), (16, .callS (.ex (.bool (decide (z.natAbs = y.natAbs)))) [])], .reg 6 [(1, .callS (.ex (.bool (decide (y < 0)))) []), (7, .callS (.ex (.int .i64 y.sign)) []), (13, .callS (.nat y.natAbs) []), (16, .callS (.ex (.bool (decide (z.natAbs = y.natAbs)))) [])], .reg 6 [(1, .callS (.ex (.bool (decide (y < 0)))) []), (7, .callS (.ex (.int .i64 y.sign)) []), (13, .callS (.nat y.natAbs) []), (16, .callS (.ex (.bool (decide (z.natAbs = y.natAbs)))) [])]]) Tryz.func62 (let y5 := (decide (y < 0)); let y4 := (decide (z < 0)); let y0 := (bif (y5 == y4) then (decide ((y.sign : Int) = (-1))) else false); let y1 := (bif (y5 == y4) then (decide ((y.sign : Int) = 0)) else false); let y2 := (bif (y5 == y4) then (decide ((y.sign : Int) = 1)) else false); let y3 := ((y5 == y4) == true); let y6 := (decide (z.natAbs = y.natAbs)); (∀ j0, j0 < (nd z.natAbs) → True) ∧ ((y4 = true → _ ∧ (y3 = true → y3 = true) ∧ (y3 = true → _) ∧ (y3 = true → y3 = true) ∧ (y3 = true → y3 = true) ∧ ((y5 == y4) = true → y3 = true) ∧ ((y0 == true) = true → (y0 == true) = true) ∧ ((y0 == true) = true → _) ∧ ((y0 == true) = true → (y0 == true) = true) ∧ ((y0 == true) = true → (y0 == true) = true) ∧ ((y0 == true) = true → (y0 == true) = true) ∧ ((y0 == true) = true → _) ∧ (y0 = true → (y0 == true) = true) ∧ (((bif y0 then y6 else false : Bool) = (decide (z = y))))) ∧ (y4 = false → (((decide (((nd z.natAbs : Nat) : Int) = 0)) = true → _ ∧ (y3 = true → y3 = true) ∧ (y3 = true → _) ∧ (y3 = true → y3 = true) ∧ (y3 = true → y3 = true) ∧ ((y5 == y4) = true → y3 = true) ∧ ((y1 == true) = true → (y1 == true) = true) ∧ ((y1 == true) = true → _) ∧ ((y1 == true) = true → (y1 == true) = true) ∧ ((y1 == true) = true → (y1 == true) = true) ∧ ((y1 == true) = true → (y1 == true) = true) ∧ ((y1 == true) = true → _) ∧ (y1 = true → (y1 == true) = true) ∧ (((bif y1 then y6 else false : Bool) = (decide (z = y))))) ∧ ((decide (((nd z.natAbs : Nat) : Int) = 0)) = false → _ ∧ (y3 = true → y3 = true) ∧ (y3 = true → _) ∧ (y3 = true → y3 = true) ∧ (y3 = true → y3 = true) ∧ ((y5 == y4) = true → y3 = true) ∧ ((y2 == true) = true → (y2 == true) = true) ∧ ((y2 == true) = true → _) ∧ ((y2 == true) = true → (y2 == true) = true) ∧ ((y2 == true) = true → (y2 == true) = true) ∧ ((y2 == true) = true → (y2 == true) = true) ∧ ((y2 == true) = true → _) ∧ (y2 = true → (y2 == true) = true) ∧ (((bif y2 then y6 else false : Bool) = (decide (z = y)))))))))
  ⟨(fun _ _ => trivial), fun hc7 => have hc7 := dT hc7; have hs := (Int.sign_eq_neg_one_of_neg hc7).symm; ⟨sIntBelow (z := y), id, (fun hg => sIntSign (z := y)), id, id, (by first | (simp; done) | (simp; omega)), id, (fun hg => sIntAbs (z := y)), id, id, id, (fun hg => sLike2 (x := z.natAbs) (y := y.natAbs) zo), (by first | (simp; done) | (simp; omega)), (like07 hs)⟩, fun hc7 => have hc7 := dF hc7; ⟨fun hc11 => have hc11 := dT hc11; have hs : 0 = z.sign := (by rw [show z = 0 by omega]; rfl); ⟨sIntBelow (z := y), id, (fun hg => sIntSign (z := y)), id, id, (by first | (simp; done) | (simp; omega)), id, (fun hg => sIntAbs (z := y)), id, id, id, (fun hg => sLike2 (x := z.natAbs) (y := y.natAbs) zo), (by first | (simp; done) | (simp; omega)), (like07 hs)⟩, fun hc11 => have hc11 := dF hc11; have hs := (Int.sign_eq_one_of_pos (show 0 < z by omega)).symm; ⟨sIntBelow (z := y), id, (fun hg => sIntSign (z := y)), id, id, (by first | (simp; done) | (simp; omega)), id, (fun hg => sIntAbs (z := y)), id, id, id, (fun hg => sLike2 (x := z.natAbs) (y := y.natAbs) zo), (by first | (simp; done) | (simp; omega)), (like07 hs)⟩⟩⟩
theorem sLike8 {p q : Rat} (hp : szq p ≤ 16777216) : CallOK Tryz.prog 23 [.rat q, .qt p] (.ex (.bool (decide (p = q)))) [] := by
 have h1 := nd_num p
 have h2 := nd_den p
 have h3 : Wd.blen p.num.natAbs ≤ 16 * nd p.num.natAbs := by unfold nd; omega
 have h4 : Wd.blen p.den ≤ 16 * nd p.den := by unfold nd; omega
 exact kP (ch := [.reg 1 [(3, .call [.dgs p.den (nd p.den), .dgs 1 (nd 1)] (.ex (.int .i64 (cmpN p.den 1))) [])], .reg 2 [(1, .callS (.int q.num) []), (4, .callS (.ex (.bool (decide (p.num = q.num)))) []), (7, .callS (.nat q.den) []), (10, .callS (.ex (.bool (decide (p.den = q.den)))) []), (14, .callS (.ex (.bool (decide (q.den = 1)))) []), (20, .callS (.ex (.bool (decide (q = 0)))) []), (30, .callS (.ex (.int .i64 ((Wd.blen q.num.natAbs + Wd.blen q.den : Nat) : Int))) []), (34, .callS (.ex (.int .i64 (Wd.blen p.num.natAbs : Int))) []), (37, .callS (.ex (.int .i64 (Wd.blen p.den : Int))) []), (38, .z ((Wd.blen p.num.natAbs + Wd.blen p.den : Nat) : Int))]]) Tryz.func23 (let y5 := (decide (p.num = q.num)); let y2 := (bif y5 then (decide (p.den = q.den)) else false); let y0 := (bif y2 then ((decide (q.den = 1)) == (decide ((cmpN p.den 1 : Int) = 0))) else false); let y4 := (bif y0 then ((decide (q = 0)) == (decide (((nd p.num.natAbs : Nat) : Int) = 0))) else false); let y1 := (y4 == true); let y3 := (y5 == true); (∀ j0, j0 < (nd p.num.natAbs) → True) ∧ (∀ j0, j0 < (nd p.den) → True) ∧ _ ∧ _ ∧ _ ∧ ((1 : Nat) = (nd 1)) ∧ (∀ j0, j0 < 1 → ((1 : Int) = (dg 1 j0 : Int))) ∧ _ ∧ _ ∧ (y3 = true → y3 = true) ∧ (y3 = true → _) ∧ (y3 = true → y3 = true) ∧ (y3 = true → y3 = true) ∧ (y3 = true → y3 = true) ∧ (y3 = true → _) ∧ (y5 = true → y3 = true) ∧ ((y2 == true) = true → (y2 == true) = true) ∧ ((y2 == true) = true → _) ∧ ((y2 == true) = true → (y2 == true) = true) ∧ ((y2 == true) = true → (y2 == true) = true) ∧ (y2 = true → (y2 == true) = true) ∧ ((y0 == true) = true → (y0 == true) = true) ∧ ((y0 == true) = true → _) ∧ ((y0 == true) = true → (y0 == true) = true) ∧ ((y0 == true) = true → (y0 == true) = true) ∧ ((y0 == true) = true → (y0 == true) = true) ∧ ((y0 == true) = true → (y0 == true) = true) ∧ ((y0 == true) = true → (y0 == true) = true) ∧ ((y0 == true) = true → (y0 == true) = true) ∧ (y0 = true → (y0 == true) = true) ∧ (y1 = true → y1 = true) ∧ (y1 = true → _) ∧ (y1 = true → y1 = true) ∧ (y1 = true → y1 = true) ∧ (y1 = true → y1 = true) ∧ (y1 = true → _) ∧ (y1 = true → y1 = true) ∧ (y1 = true → y1 = true) ∧ (y1 = true → _) ∧ (y1 = true → y1 = true) ∧ (y1 = true → y1 = true) ∧ (y1 = true → IntKind.wrap .i64 (((Wd.blen p.num.natAbs : Nat) : Int) + (Wd.blen p.den : Int)) = (((Wd.blen p.num.natAbs + Wd.blen p.den : Nat) : Int))) ∧ (y1 = true → y1 = true) ∧ (y1 = true → y1 = true) ∧ (y4 = true → y1 = true) ∧ (((bif y4 then (decide (((Wd.blen q.num.natAbs + Wd.blen q.den : Nat) : Int) = ((Wd.blen p.num.natAbs + Wd.blen p.den : Nat) : Int))) else false : Bool) = (decide (p = q)))))
  ⟨(fun _ _ => trivial), (fun _ _ => trivial), sRefCmp (x := p.den) (y := 1) zo, (rf (nd p.den : Nat)), (leS (fun i0 => .ex (.int .i64 (dg p.den i0 : Int))) (nd p.den)), rfl, (fun j0 hj0 => (by rw [show j0 = 0 by omega]; rfl)), sRatNum (q := q), sLike7 (y := q.num) (z := p.num) zo, id, (fun hg => sRatDen (q := q)), id, id, id, (fun hg => sLike2 (x := p.den) (y := q.den) zo), (by first | (simp; done) | (simp; omega)), id, (fun hg => sRatIsInt (q := q)), id, id, (by first | (simp; done) | (simp; omega)), id, (fun hg => sRatZero (q := q)), id, id, id, id, id, id, (by first | (simp; done) | (simp; omega)), id, (fun hg => sRatBits (q := q)), id, id, id, (fun hg => sRefBits (x := p.num.natAbs) zo), id, id, (fun hg => sRefBits (x := p.den) zo), id, id, (fun hg => (by rw [IntKind.wrap_i64]; omega)), id, id, (by first | (simp; done) | (simp; omega)), like08⟩
open Go.RowKit
def cmpFrom (a b : Nat → Rat) : Nat → Nat → Int
 | 0, _ => 0
 | k + 1, i => if a i = b i then cmpFrom a b k (i + 1) else cmpQ (a i) (b i)
def cmpVec (a : Nat → Rat) (n : Nat) (b : Nat → Rat) (m : Nat) : Int :=
 if cmpFrom a b (min n m) 0 = 0 then (if n < m then -1 else if n > m then 1 else 0) else cmpFrom a b (min n m) 0
theorem cmpQ_zero (p q : Rat) : cmpQ p q = 0 ↔ p = q := by unfold cmpQ; grind
theorem cmp_zero {p q : Rat} (h : ((cmpQ p q : Int) != (0 : Int)) = false) : p = q := (cmpQ_zero p q).1 (by simpa using h)
theorem cmp_nz {p q : Rat} (h : ((cmpQ p q : Int) != (0 : Int)) = true) : p ≠ q := fun e => by
 rw [(cmpQ_zero p q).2 e] at h
 exact absurd h (by decide)
theorem eq_step {a b : Nat → Rat} {i : Nat} (h : ∀ j, j < i → a j = b j) (e : a i = b i) : ∀ j, j < i + 1 → a j = b j := fun j hj => by
 by_cases hji : j = i
 ·subst hji; exact e
 ·exact h j zo
theorem cmpFrom_skip {a b : Nat → Rat} : ∀ (i : Nat) {N : Nat}, i ≤ N → (∀ j, j < i → a j = b j) → cmpFrom a b N 0 = cmpFrom a b (N - i) i
 | 0, _, _, _ => rfl
 | i + 1, N, h, he => by
  rw [cmpFrom_skip i zo fun j hj => he j zo]
  have e : N - i = (N - (i + 1)) + 1 := by omega
  rw [e]
  show (if a i = b i then _ else _) = _
  rw [if_pos (he i zo)]
theorem cmpVec_at {a b : Nat → Rat} {n m i : Nat} (h1 : i < n) (h2 : i < m) (he : ∀ j, j < i → a j = b j) (hd : a i ≠ b i) : cmpVec a n b m = cmpQ (a i) (b i) := by
 have e : cmpFrom a b (min n m) 0 = cmpQ (a i) (b i) := by
  rw [cmpFrom_skip i zo he]
  have e : min n m - i = (min n m - (i + 1)) + 1 := by omega
  rw [e]
  show (if a i = b i then _ else _) = _
  rw [if_neg hd]
 unfold cmpVec
 rw [e, if_neg fun h => hd ((cmpQ_zero _ _).1 h)]
theorem cmpVec_end {a b : Nat → Rat} {n m i : Nat} {z : Int} (h1 : i ≤ n) (h2 : i ≤ m) (h3 : min n m ≤ i) (he : ∀ j, j < i → a j = b j)
  (hz : (z = -1 ∧ decide ((((n : Nat) : Int) : Int) < (((m : Nat) : Int) : Int)) = true) ∨ (z = 1 ∧ decide ((((n : Nat) : Int) : Int) < (((m : Nat) : Int) : Int)) = false ∧ decide ((((n : Nat) : Int) : Int) > (((m : Nat) : Int) : Int)) = true) ∨ (z = 0 ∧ decide ((((n : Nat) : Int) : Int) < (((m : Nat) : Int) : Int)) = false ∧ decide ((((n : Nat) : Int) : Int) > (((m : Nat) : Int) : Int)) = false)) : cmpVec a n b m = z := by
 have e : cmpFrom a b (min n m) 0 = 0 := by
  rw [cmpFrom_skip i zo he, show min n m - i = 0 by omega]
  rfl
 unfold cmpVec
 rw [if_pos e]
 rcases hz with ⟨rfl, h⟩ | ⟨rfl, h, h'⟩ | ⟨rfl, h, h'⟩
 ·have := of_decide_eq_true h
  rw [if_pos zo]
 ·have := of_decide_eq_true h'
  rw [if_neg zo, if_pos zo]
 ·have := of_decide_eq_false h
  have := of_decide_eq_false h'
  rw [if_neg zo, if_neg zo]
theorem cmpVec_zero {a b : Nat → Rat} {n m : Nat} : cmpVec a n b m = 0 ↔ n = m ∧ ∀ j, j < n → a j = b j := by
 have key : ∀ k i, cmpFrom a b k i = 0 ↔ ∀ j, i ≤ j → j < i + k → a j = b j := by
  intro k
  induction k with
  | zero => intro i; exact ⟨fun _ j h1 h2 => by omega, fun _ => rfl⟩
  | succ k ih =>
   intro i
   show (if a i = b i then _ else _) = 0 ↔ _
   by_cases h : a i = b i
   ·rw [if_pos h, ih]
    exact ⟨fun hh j h1 h2 => by
     by_cases e : j = i
     ·subst e; exact h
     ·exact hh j zo zo, fun hh j h1 h2 => hh j zo zo⟩
   ·rw [if_neg h, cmpQ_zero]
    exact ⟨fun e => absurd e h, fun hh => absurd (hh i zo zo) h⟩
 unfold cmpVec
 by_cases h : cmpFrom a b (min n m) 0 = 0
 ·rw [if_pos h]
  rw [key] at h
  constructor
  ·intro hz
   have hnm : n = m := by
    by_cases h1 : n < m
    ·rw [if_pos h1] at hz; omega
    ·rw [if_neg h1] at hz
     by_cases h2 : n > m
     ·rw [if_pos h2] at hz; omega
     ·omega
   exact ⟨hnm, fun j hj => h j zo zo⟩
  ·rintro ⟨rfl, _⟩
   rw [if_neg zo, if_neg zo]
 ·rw [if_neg h]
  constructor
  ·intro hz; exact absurd hz h
  ·rintro ⟨rfl, he⟩
   exact absurd ((key _ _).2 fun j _ hj => he j zo) h
open Go.RowKit
def upto (g : Nat) (f : Nat → Rat) (t : Nat) : Rat := if t < g then f t else 0
theorem upto_at {g : Nat} {f : Nat → Rat} : upto (g + 1) f g = f g := if_pos (Nat.lt_succ_self g)
theorem upto_ne {g t : Nat} {f : Nat → Rat} (h : t ≠ g) : upto (g + 1) f t = upto g f t := by
 unfold upto
 by_cases h1 : t < g
 ·rw [if_pos h1, if_pos zo]
 ·rw [if_neg h1, if_neg zo]
theorem upto_zero {t : Nat} {f : Nat → Rat} : upto 0 f t = 0 := if_neg (Nat.not_lt_zero t)
theorem upto_all {g t : Nat} {f : Nat → Rat} (h : t < g) : upto g f t = f t := if_pos h
theorem sVecCopy {q : Nat → Rat} {n : Nat} (hn : n ≤ 68719476736) : CallOK Tryz.prog 51 [.sl 3 (fun i0 => .rat (q i0)) n] (.own 0 0) [.one (.row 66 3 (fun i0 => .rat (q i0)) n)] := by
 exact kP (ch := [.reg 1 [(1, .row 0 (fun i0 => .rat (q i0)))], .ret 1 [(0, .id 0)]]) Tryz.func51 ((∀ j0, j0 < n → True) ∧ (n ≤ 68719476736) ∧ _ ∧ (_ ∧ _ ∧ _))
  ⟨(fun _ _ => trivial), zo, (leS (fun i0 => .rat (q i0)) n), (rf 0), (rf n), (leS (fun i0 => .rat (q i0)) n)⟩
theorem sVecOf {a : Nat → Int} {n : Nat} (hn : n ≤ 68719476736) (ha : ∀ i, i < n → -9223372036854775808 ≤ a i ∧ a i < 9223372036854775808) : CallOK Tryz.prog 37 [.sl 1 (fun i0 => .ex (.int .i64 (a i0))) n] (.own 0 0) [.one (.row 66 3 (fun i0 => .rat ((a i0 : Int) : Rat)) n)] := by
 exact kP (ch := [.loop 3 (Nat) (fun g => g ≤ n) (fun g => n - g) (fun g => ⟨[(3, .own 0 0), (6, .sl 1 (fun i0 => .ex (.int .i64 (a i0))) n), (7, .ex (.int .i64 (n : Int))), (8, .ex (.int .i64 (g : Int)))], [(0, .one (.row 66 3 (fun i0 => .rat ((a i0 : Int) : Rat)) g))], 1⟩) [(0, .nil)] (fun _ => [(0, .id 1)]) (fun g => [.reg 4 [(0, .k g)], .reg 5 [(2, .callS (.rat ((a g : Int) : Rat)) []), (4, .row 0 (fun i0 => .rat ((a i0 : Int) : Rat)))], .reg 6 [(0, .z ((g + 1 : Nat) : Int))], .ret 7 [(0, .id 0)]])]) Tryz.func37 ((∀ j0, j0 < n → True) ∧ (((fun X1 X2 X3 X4 : Prop => ∃ g0 : Nat, X1 ∧ X2 ∧ X3 ∧ X4 ∧ ((0 : Int) = (g0 : Int)) ∧ ((g0 : Nat) = 0) ∧ (g0 ≤ n)) _ _ _ _) ∧ ∀ g : Nat, (g ≤ n) → (((decide ((g : Int) < (n : Int))) = true → _ ∧ (g < n) ∧ _ ∧ (g + 1 ≤ 68719476736) ∧ _ ∧ _ ∧ _ ∧ ((fun X1 X2 X3 X4 X5 : Prop => ∃ g1 : Nat, X1 ∧ X2 ∧ X3 ∧ X4 ∧ (((g + 1 : Nat) : Int) = (g1 : Int)) ∧ ((g + 1 : Nat) = g1) ∧ X5 ∧ (g1 ≤ n) ∧ (n - g1 < n - g)) _ _ _ _ _)) ∧ ((decide ((g : Int) < (n : Int))) = false → (_ ∧ ((g : Nat) = n) ∧ _)))))
  ⟨(fun _ _ => trivial), ⟨0, (rf 0), (rf n), (leS (fun i0 => .ex (.int .i64 (a i0))) n), (rf (n : Int)), zo, zo, zo⟩, fun g hg => ⟨fun hc9 => have hc9 := dT hc9; have hg := ha g zo; ⟨(rf (g : Int)), zo, sRatInt (x := a g) zo zo, zo, (oldS (fun i0 => .rat ((a i0 : Int) : Rat)) g), (newS (fun i0 => .rat ((a i0 : Int) : Rat)) g), (wI (g := g) zo), g + 1, (rf 0), (rf n), (leS (fun i0 => .ex (.int .i64 (a i0))) n), (rf (n : Int)), zo, zo, (leS (fun i0 => .rat ((a i0 : Int) : Rat)) (g + 1)), zo, zo⟩, fun hc9 => have hc9 := dF hc9; have hi2 : g = n := zo; ⟨(rf 0), zo, (leS (fun i0 => .rat ((a i0 : Int) : Rat)) g)⟩⟩⟩
theorem sVecAddTimes {a b : Nat → Rat} {n : Nat} {r : Rat} (hn : n ≤ 68719476736) (hs : ∀ i, i < n → szq r + szq (b i) ≤ 17179869184 ∧ szq (a i) + szq (r * b i) ≤ 17179869184) : CallOK Tryz.prog 79 [.sl 3 (fun i0 => .rat (a i0)) n, .rat r, .sl 3 (fun i0 => .rat (b i0)) n] (.cn (.own 0 0) (.cn (.ex (.bool true)) (.nl))) [.one (.row 66 3 (fun i0 => .rat (a i0 + r * b i0)) n)] := by
 exact kP (ch := [.dec 14 false, .reg 3 [(2, .row n (fun _ => .rat 0))], .loop 5 (Nat) (fun g => g ≤ n) (fun g => n - g) (fun g => ⟨[(0, .sl 3 (fun i0 => .rat (a i0)) n), (2, .sl 3 (fun i0 => .rat (b i0)) n), (4, .own 0 0), (8, .own 1 0), (19, .ex (.int .i64 (n : Int))), (20, .ex (.int .i64 (g : Int)))], [(0, .one (.var 66 (.rat r))), (1, .one (.row 66 3 (fun i0 => .rat (upto g (fun k => a k + r * b k) i0)) n))], 2⟩) [(0, .id 0), (1, .id 1)] (fun _ => [(0, .id 0), (1, .id 1)]) (fun g => [.reg 7 [(4, .k g), (9, .k g), (11, .callS (.rat (r * (b g))) []), (12, .callS (.rat ((a g) + (r * (b g)))) []), (13, .k g), (14, .row 0 (fun i0 => .rat (upto (g + 1) (fun k => a k + r * b k) i0)))], .reg 8 [(0, .z ((g + 1 : Nat) : Int))], .ret 9 [(0, .id 1)]])]) Tryz.func79 ((∀ j0, j0 < n → True) ∧ (∀ j0, j0 < n → True) ∧ ((!decide ((n : Int) = (n : Int))) = false) ∧ _ ∧ _ ∧ (n ≤ 68719476736) ∧ (∀ j0, j0 < n → ((0 : Rat) = 0)) ∧ (((fun X1 X2 X3 X4 X5 X6 X7 X8 X9 : Prop => ∃ g0 : Nat, X1 ∧ X2 ∧ X3 ∧ X4 ∧ X5 ∧ X6 ∧ X7 ∧ ((0 : Int) = (g0 : Int)) ∧ X8 ∧ X9 ∧ (∀ j0, j0 < n → ((0 : Rat) = (upto g0 (fun k => a k + r * b k) j0))) ∧ (g0 ≤ n)) _ _ _ _ _ _ _ _ _) ∧ ∀ g : Nat, (g ≤ n) → (((decide ((g : Int) < (n : Int))) = true → _ ∧ (g < n) ∧ _ ∧ (g < n) ∧ _ ∧ _ ∧ _ ∧ (g < n) ∧ (g < n) ∧ ((((a g) + (r * (b g)) : Rat) = (upto (g + 1) (fun k => a k + r * b k) g))) ∧ (∀ t, t < n → t ≠ g → (.rat (upto (g + 1) (fun k => a k + r * b k) t) : SV) = .rat (upto g (fun k => a k + r * b k) t)) ∧ _ ∧ ((fun X1 X2 X3 X4 X5 X6 X7 X8 X9 : Prop => ∃ g1 : Nat, X1 ∧ X2 ∧ X3 ∧ X4 ∧ X5 ∧ X6 ∧ X7 ∧ (((g + 1 : Nat) : Int) = (g1 : Int)) ∧ X8 ∧ X9 ∧ (∀ j0, j0 < n → ((upto (g + 1) (fun k => a k + r * b k) j0 : Rat) = (upto g1 (fun k => a k + r * b k) j0))) ∧ (g1 ≤ n) ∧ (n - g1 < n - g)) _ _ _ _ _ _ _ _ _)) ∧ ((decide ((g : Int) < (n : Int))) = false → (_ ∧ _ ∧ _ ∧ (∀ j0, j0 < n → ((upto g (fun k => a k + r * b k) j0 : Rat) = (a j0 + r * b j0))))))))
  ⟨(fun _ _ => trivial), (fun _ _ => trivial), (by simp), (rf (n : Int)), (rf (n : Int)), zo, (fun j0 hj0 => rfl), ⟨0, (rf n), (leS (fun i0 => .rat (a i0)) n), (rf n), (leS (fun i0 => .rat (b i0)) n), (rf 0), (rf 0), (rf (n : Int)), zo, (rf (r : Rat)), (rf n), (fun j0 hj0 => (by rw [upto_zero])), zo⟩, fun g hg => ⟨fun hc21 => have hc21 := dT hc21; have hg1 := (hs g zo).1; have hg2 := (hs g zo).2; ⟨(rf (g : Int)), zo, (rf (g : Int)), zo, sRatMul (p := r) (q := b g) (by first | assumption | omega), sRatAdd (p := a g) (q := r * (b g)) (by first | assumption | omega), (rf (g : Int)), zo, zo, (by rw [upto_at]), (fun t ht hne => by rw [upto_ne hne]), (wI (g := g) zo), g + 1, (rf n), (leS (fun i0 => .rat (a i0)) n), (rf n), (leS (fun i0 => .rat (b i0)) n), (rf 0), (rf 0), (rf (n : Int)), zo, (rf (r : Rat)), (rf n), (fun j0 hj0 => rfl), zo, zo⟩, fun hc21 => have hc21 := dF hc21; have hi2 : g = n := zo; ⟨(rf 0), (rf (true : Bool)), (rf n), (fun j0 hj0 => (by rw [hi2]; exact upto_all (by assumption)))⟩⟩⟩
theorem sVecScale {a : Nat → Rat} {n : Nat} {r : Rat} (hn : n ≤ 68719476736) (hs : ∀ i, i < n → szq r + szq (a i) ≤ 17179869184) : CallOK Tryz.prog 117 [.rat r, .sl 3 (fun i0 => .rat (a i0)) n] (.own 0 0) [.one (.row 66 3 (fun i0 => .rat (r * a i0)) n)] := by
 exact kP (ch := [.reg 1 [(2, .row n (fun _ => .rat 0))], .loop 3 (Nat) (fun g => g ≤ n) (fun g => n - g) (fun g => ⟨[(1, .sl 3 (fun i0 => .rat (a i0)) n), (2, .own 0 0), (5, .own 1 0), (11, .ex (.int .i64 (n : Int))), (12, .ex (.int .i64 (g : Int)))], [(0, .one (.var 66 (.rat r))), (1, .one (.row 66 3 (fun i0 => .rat (upto g (fun k => r * a k) i0)) n))], 2⟩) [(0, .id 0), (1, .id 1)] (fun _ => [(0, .id 0), (1, .id 1)]) (fun g => [.reg 5 [(5, .k g), (7, .callS (.rat (r * (a g))) []), (8, .k g), (9, .row 0 (fun i0 => .rat (upto (g + 1) (fun k => r * a k) i0)))], .reg 6 [(0, .z ((g + 1 : Nat) : Int))], .ret 7 [(0, .id 1)]])]) Tryz.func117 ((∀ j0, j0 < n → True) ∧ _ ∧ _ ∧ (n ≤ 68719476736) ∧ (∀ j0, j0 < n → ((0 : Rat) = 0)) ∧ (((fun X1 X2 X3 X4 X5 X6 X7 : Prop => ∃ g0 : Nat, X1 ∧ X2 ∧ X3 ∧ X4 ∧ X5 ∧ ((0 : Int) = (g0 : Int)) ∧ X6 ∧ X7 ∧ (∀ j0, j0 < n → ((0 : Rat) = (upto g0 (fun k => r * a k) j0))) ∧ (g0 ≤ n)) _ _ _ _ _ _ _) ∧ ∀ g : Nat, (g ≤ n) → (((decide ((g : Int) < (n : Int))) = true → _ ∧ (g < n) ∧ _ ∧ _ ∧ (g < n) ∧ (g < n) ∧ (((r * (a g) : Rat) = (upto (g + 1) (fun k => r * a k) g))) ∧ (∀ t, t < n → t ≠ g → (.rat (upto (g + 1) (fun k => r * a k) t) : SV) = .rat (upto g (fun k => r * a k) t)) ∧ _ ∧ ((fun X1 X2 X3 X4 X5 X6 X7 : Prop => ∃ g1 : Nat, X1 ∧ X2 ∧ X3 ∧ X4 ∧ X5 ∧ (((g + 1 : Nat) : Int) = (g1 : Int)) ∧ X6 ∧ X7 ∧ (∀ j0, j0 < n → ((upto (g + 1) (fun k => r * a k) j0 : Rat) = (upto g1 (fun k => r * a k) j0))) ∧ (g1 ≤ n) ∧ (n - g1 < n - g)) _ _ _ _ _ _ _)) ∧ ((decide ((g : Int) < (n : Int))) = false → (_ ∧ _ ∧ (∀ j0, j0 < n → ((upto g (fun k => r * a k) j0 : Rat) = (r * a j0))))))))
  ⟨(fun _ _ => trivial), (rf (n : Int)), (rf (n : Int)), zo, (fun j0 hj0 => rfl), ⟨0, (rf n), (leS (fun i0 => .rat (a i0)) n), (rf 0), (rf 0), (rf (n : Int)), zo, (rf (r : Rat)), (rf n), (fun j0 hj0 => (by rw [upto_zero])), zo⟩, fun g hg => ⟨fun hc13 => have hc13 := dT hc13; have hg1 := hs g zo; ⟨(rf (g : Int)), zo, sRatMul (p := r) (q := a g) (by first | assumption | omega), (rf (g : Int)), zo, zo, (by rw [upto_at]), (fun t ht hne => by rw [upto_ne hne]), (wI (g := g) zo), g + 1, (rf n), (leS (fun i0 => .rat (a i0)) n), (rf 0), (rf 0), (rf (n : Int)), zo, (rf (r : Rat)), (rf n), (fun j0 hj0 => rfl), zo, zo⟩, fun hc13 => have hc13 := dF hc13; have hi2 : g = n := zo; ⟨(rf 0), (rf n), (fun j0 hj0 => (by rw [hi2]; exact upto_all (by assumption)))⟩⟩⟩
theorem sVecCmp {a b : Nat → Rat} {n m : Nat} (hn : n ≤ 68719476736) (hs : ∀ i, i < n → i < m → szq (a i) + szq (b i) ≤ 17179869184) : CallOK Tryz.prog 90 [.sl 3 (fun i0 => .rat (a i0)) n, .sl 3 (fun i0 => .rat (b i0)) m] (.ex (.int .i64 (cmpVec a n b m))) [] := by
 exact kP (ch := [.loop 2 (Nat) (fun g => g ≤ min n m ∧ ∀ j, j < g → a j = b j) (fun g => min n m - g) (fun g => ⟨[(0, .sl 3 (fun i0 => .rat (a i0)) n), (1, .sl 3 (fun i0 => .rat (b i0)) m), (11, .ex (.int .i64 (min (n : Int) (m : Int)))), (12, .ex (.int .i64 (g : Int)))], [], 0⟩) [] (fun _ => []) (fun g => [.reg 4 [(2, .k g), (6, .k g), (8, .callS (.ex (.int .i64 (cmpQ (a g) (b g)))) [])], .reg 7 [(0, .z ((g + 1 : Nat) : Int))]])]) Tryz.func90 ((∀ j0, j0 < n → True) ∧ (∀ j0, j0 < m → True) ∧ (((fun X1 X2 X3 X4 : Prop => ∃ g0 : Nat, X1 ∧ X2 ∧ X3 ∧ X4 ∧ ((min ((n : Int) : Int) (m : Int) : Int) = (min (n : Int) (m : Int))) ∧ ((0 : Int) = (g0 : Int)) ∧ (g0 ≤ min n m ∧ ∀ j, j < g0 → a j = b j)) _ _ _ _) ∧ ∀ g : Nat, (g ≤ min n m ∧ ∀ j, j < g → a j = b j) → (((decide ((g : Int) < (min (n : Int) (m : Int)))) = true → _ ∧ (g < n) ∧ _ ∧ (g < m) ∧ _ ∧ (((!decide ((cmpQ (a g) (b g) : Int) = 0)) = true → (((cmpQ (a g) (b g) : Int) = (cmpVec a n b m)))) ∧ ((!decide ((cmpQ (a g) (b g) : Int) = 0)) = false → _ ∧ ((fun X1 X2 X3 X4 X5 : Prop => ∃ g1 : Nat, X1 ∧ X2 ∧ X3 ∧ X4 ∧ X5 ∧ (((g + 1 : Nat) : Int) = (g1 : Int)) ∧ (g1 ≤ min n m ∧ ∀ j, j < g1 → a j = b j) ∧ (min n m - g1 < min n m - g)) _ _ _ _ _)))) ∧ ((decide ((g : Int) < (min (n : Int) (m : Int)))) = false → (((decide ((n : Int) < (m : Int))) = true → (((-1 : Int) = (cmpVec a n b m)))) ∧ ((decide ((n : Int) < (m : Int))) = false → (((decide ((m : Int) < (n : Int))) = true → (((1 : Int) = (cmpVec a n b m)))) ∧ ((decide ((m : Int) < (n : Int))) = false → (((0 : Int) = (cmpVec a n b m)))))))))))
  ⟨(fun _ _ => trivial), (fun _ _ => trivial), ⟨0, (rf n), (leS (fun i0 => .rat (a i0)) n), (rf m), (leS (fun i0 => .rat (b i0)) m), zo, zo, by omega, fun j hj => by omega⟩, fun g hg => have hg1 := hg.1; ⟨fun hc13 => have hc13 := dT hc13; have hg2 := hs g zo zo; ⟨(rf (g : Int)), zo, (rf (g : Int)), zo, sRatCmp (p := a g) (q := b g) (by first | assumption | omega), fun hc25 => (cmpVec_at zo zo hg.2 (cmp_nz hc25)).symm, fun hc25 => ⟨(wI (g := g) zo), g + 1, (rf n), (leS (fun i0 => .rat (a i0)) n), (rf m), (leS (fun i0 => .rat (b i0)) m), (rf (min (n : Int) (m : Int) : Int)), zo, ⟨by omega, eq_step hg.2 (cmp_zero hc25)⟩, zo⟩⟩, fun hc13 => have hc13 := dF hc13; ⟨fun hc28 => have hc28 := dT hc28; (cmpVec_end (i := g) zo zo zo hg.2 (.inl ⟨rfl, decide_eq_true hc28⟩)).symm, fun hc28 => have hc28 := dF hc28; ⟨fun hc34 => have hc34 := dT hc34; (cmpVec_end (i := g) zo zo zo hg.2 (.inr (.inl ⟨rfl, decide_eq_false hc28, decide_eq_true hc34⟩))).symm, fun hc34 => have hc34 := dF hc34; (cmpVec_end (i := g) zo zo zo hg.2 (.inr (.inr ⟨rfl, decide_eq_false hc28, decide_eq_false hc34⟩))).symm⟩⟩⟩⟩
theorem sVecSame {a b : Nat → Rat} {n m : Nat} (hn : n ≤ 68719476736) (hs : ∀ i, i < n → i < m → szq (a i) + szq (b i) ≤ 17179869184) : CallOK Tryz.prog 44 [.sl 3 (fun i0 => .rat (a i0)) n, .sl 3 (fun i0 => .rat (b i0)) m] (.ex (.bool (decide (n = m ∧ ∀ j, j < n → a j = b j)))) [] := by
 exact kP (ch := [.reg 1 [(2, .callS (.ex (.int .i64 (cmpVec a n b m))) [])]]) Tryz.func44 ((∀ j0, j0 < n → True) ∧ (∀ j0, j0 < m → True) ∧ _ ∧ (((decide ((cmpVec a n b m : Int) = 0) : Bool) = (decide (n = m ∧ ∀ j, j < n → a j = b j)))))
  ⟨(fun _ _ => trivial), (fun _ _ => trivial), sVecCmp (a := a) (b := b) (n := n) (m := m) zo (by assumption), (decide_eq_decide.2 cmpVec_zero)⟩
def oneQ (p d : Int) : Rat := if d = 0 then ((p : Int) : Rat) else Rat.divInt p d
def Wd64 (p : Int) : Prop := -9223372036854775808 ≤ p ∧ p < 9223372036854775808
theorem sOne {p d : Int} (hp : Wd64 p) (hd : Wd64 d) : CallOK Tryz.prog 50 [.agg (.cn (.ex (.int .i64 p)) (.cn (.ex (.int .i64 d)) (.nl)))] (.rat (oneQ p d)) [] := by
 have hp1 := hp.1; have hp2 := hp.2; have hd1 := hd.1; have hd2 := hd.2
 exact kP (ch := [.reg 2 [(2, .callS (.rat ((p : Int) : Rat)) [])], .reg 3 [(4, .callS (.cn (.rat (Rat.divInt p d)) (.cn (.ex (.bool (!decide (d = 0)))) (.nl))) [])]]) Tryz.func50 ((((decide ((d : Int) = 0)) = true → _ ∧ (((((p : Int) : Rat) : Rat) = (oneQ p d)))) ∧ ((decide ((d : Int) = 0)) = false → _ ∧ (((Rat.divInt p d : Rat) = (oneQ p d))))))
  ⟨fun hc7 => have hc7 := dT hc7; ⟨sRatInt (x := p) zo zo, (if_pos hc7).symm⟩, fun hc7 => have hc7 := dF hc7; ⟨sRatOf (x := p) (y := d) zo zo zo zo, (if_neg hc7).symm⟩⟩
open Go.RowKit
theorem nw_small {x : Nat} (h : x < 18446744073709551616) : nw x ≤ 1 := nw_le_of h
theorem szq_small (p : Int) {d : Int} (hd : d ≠ 0) (h1 : -9223372036854775808 ≤ p) (h2 : p < 9223372036854775808) (h3 : -9223372036854775808 ≤ d) (h4 : d < 9223372036854775808) : szq (Rat.divInt p d) ≤ 2 := by
 have h := szq_divInt p d hd
 have n1 := nw_small (x := p.natAbs) zo
 have n2 := nw_small (x := d.natAbs) zo
 omega
theorem cmpV_zero (a b : Int) : decide (cmpV a b = 0) = decide (a = b) := by
 unfold cmpV
 by_cases h : a < b
 ·have : a ≠ b := by omega
  simp [h, this]
 ·by_cases e : a = b <;> simp [h, e]
theorem is_eq2 {q : Rat} {p d : Int} (hd : d ≠ 0) : (bif bif bif !decide (d = 0) then decide (q = Rat.divInt p d) else false then decide (cmpV q.num (Rat.divInt p d).num = 0) else false then decide (cmpV ((q.den : Nat) : Int) (((Rat.divInt p d).den : Nat) : Int) = 0) else false) = decide (q = Rat.divInt p d) := by
 rw [cmpV_zero, cmpV_zero, decide_eq_false hd]
 by_cases e : q = Rat.divInt p d
 ·rw [decide_eq_true e]; subst e; simp
 ·simp [e]
def litI (l : List Int) (i : Nat) : Int := l.getD i 0
def litLL (l : List (List Int)) (i j : Nat) : Int := (l.getD i []).getD j 0
instance (p : Int) : Decidable (Wd64 p) := inferInstanceAs (Decidable (_ ∧ _))
theorem szq_one {p d : Int} (hp : Wd64 p) (hd : Wd64 d) : szq (oneQ p d) ≤ 2 := by
 unfold oneQ
 split
 ·have := szq_small p (d := 1) (by decide) hp.1 hp.2 (by decide) (by decide)
  have e : Rat.divInt p 1 = ((p : Int) : Rat) := by have := Rat.num_divInt_den (((p : Int) : Rat)); simpa using this
  rwa [e] at this
 ·rename_i h
  exact szq_small p h hp.1 hp.2 hd.1 hd.2
theorem sIs {q : Rat} {p d : Int} (hd : d ≠ 0) (hp : Wd64 p) (hd2 : Wd64 d) (hs : szq q ≤ 8589934592) : CallOK Tryz.prog 43 [.rat q, .ex (.int .i64 p), .ex (.int .i64 d)] (.ex (.bool (decide (q = Rat.divInt p d)))) [] := by
 have hp1 := hp.1; have hp2 := hp.2; have hd3 := hd2.1; have hd4 := hd2.2; have hs2 := szq_small p hd hp1 hp2 hd3 hd4
 exact kP (ch := [.reg 1 [(2, .callS (.cn (.rat (Rat.divInt p d)) (.cn (.ex (.bool (!decide (d = 0)))) (.nl))) [])], .reg 2 [(4, .callS (.ex (.bool (decide (q = (Rat.divInt p d))))) []), (8, .callS (.int q.num) []), (10, .callS (.int ((Rat.divInt p d).num)) []), (11, .callS (.ex (.int .i64 (cmpV q.num ((Rat.divInt p d).num)))) []), (16, .callS (.nat q.den) []), (18, .callS (.nat ((Rat.divInt p d).den)) []), (19, .callS (.ex (.int .i64 (cmpV ((q.den : Nat) : Int) (((Rat.divInt p d).den : Nat) : Int)))) [])]]) Tryz.func43 (let y1 := (bif (!decide (d = 0)) then (decide (q = (Rat.divInt p d))) else false); let y0 := (bif y1 then (decide ((cmpV q.num ((Rat.divInt p d).num) : Int) = 0)) else false); let y2 := ((!decide (d = 0)) == true); _ ∧ (y2 = true → y2 = true) ∧ (y2 = true → y2 = true) ∧ (y2 = true → _) ∧ ((!decide (d = 0)) = true → y2 = true) ∧ ((y1 == true) = true → (y1 == true) = true) ∧ ((y1 == true) = true → _) ∧ ((y1 == true) = true → (y1 == true) = true) ∧ ((y1 == true) = true → _) ∧ ((y1 == true) = true → (y1 == true) = true) ∧ ((y1 == true) = true → (y1 == true) = true) ∧ ((y1 == true) = true → _) ∧ ((y1 == true) = true → (y1 == true) = true) ∧ (y1 = true → (y1 == true) = true) ∧ ((y0 == true) = true → (y0 == true) = true) ∧ ((y0 == true) = true → _) ∧ ((y0 == true) = true → (y0 == true) = true) ∧ ((y0 == true) = true → _) ∧ ((y0 == true) = true → (y0 == true) = true) ∧ ((y0 == true) = true → (y0 == true) = true) ∧ ((y0 == true) = true → _) ∧ ((y0 == true) = true → (y0 == true) = true) ∧ (y0 = true → (y0 == true) = true) ∧ (((bif y0 then (decide ((cmpV ((q.den : Nat) : Int) (((Rat.divInt p d).den : Nat) : Int) : Int) = 0)) else false : Bool) = (decide (q = Rat.divInt p d)))))
  ⟨sRatOf (x := p) (y := d) zo zo zo zo, id, id, (fun hg => sRatSame (p := q) (q := Rat.divInt p d) (by first | assumption | omega)), (by first | (simp; done) | (simp; omega)), id, (fun hg => sRatNum (q := q)), id, (fun hg => sRatNum (q := Rat.divInt p d)), id, id, (fun hg => sIntCmp (y := q.num) (z := (Rat.divInt p d).num)), id, (by first | (simp; done) | (simp; omega)), id, (fun hg => sRatDen (q := q)), id, (fun hg => sRatDen (q := Rat.divInt p d)), id, id, (fun hg => sNatCmp (x := q.den) (y := (Rat.divInt p d).den)), id, (by first | (simp; done) | (simp; omega)), (is_eq2 hd)⟩
theorem sMake {p d : Nat → Int} {n : Nat} (hn : n ≤ 68719476736) (h : ∀ i, i < n → Wd64 (p i) ∧ Wd64 (d i)) : CallOK Tryz.prog 13 [.sl 2 (fun i0 => .agg (.cn (.ex (.int .i64 (p i0))) (.cn (.ex (.int .i64 (d i0))) (.nl)))) n] (.own 0 0) [.one (.row 66 3 (fun i0 => .rat (oneQ (p i0) (d i0))) n)] := by
 exact kP (ch := [.loop 3 (Nat) (fun g => g ≤ n) (fun g => n - g) (fun g => ⟨[(0, .sl 2 (fun i0 => .agg (.cn (.ex (.int .i64 (p i0))) (.cn (.ex (.int .i64 (d i0))) (.nl)))) n), (3, .own 0 0), (4, .ex (.int .i64 (g : Int)))], [(0, .one (.row 66 3 (fun i0 => .rat (oneQ (p i0) (d i0))) g))], 1⟩) [(0, .nil)] (fun _ => [(0, .id 1)]) (fun g => [.reg 5 [(3, .k g), (5, .callS (.rat (oneQ (p g) (d g))) []), (7, .row 0 (fun i0 => .rat (oneQ (p i0) (d i0))))], .reg 4 [(1, .z ((g + 1 : Nat) : Int))], .ret 6 [(0, .id 0)]])]) Tryz.func13 ((∀ j0, j0 < n → True) ∧ (((fun X1 X2 X3 : Prop => ∃ g0 : Nat, X1 ∧ X2 ∧ X3 ∧ ((0 : Int) = (g0 : Int)) ∧ ((g0 : Nat) = 0) ∧ (g0 ≤ n)) _ _ _) ∧ ∀ g : Nat, (g ≤ n) → (((decide ((g : Int) < (n : Int))) = true → _ ∧ (g < n) ∧ _ ∧ (g + 1 ≤ 68719476736) ∧ _ ∧ _ ∧ _ ∧ ((fun X1 X2 X3 X4 : Prop => ∃ g1 : Nat, X1 ∧ X2 ∧ X3 ∧ (((g + 1 : Nat) : Int) = (g1 : Int)) ∧ ((g + 1 : Nat) = g1) ∧ X4 ∧ (g1 ≤ n) ∧ (n - g1 < n - g)) _ _ _ _)) ∧ ((decide ((g : Int) < (n : Int))) = false → (_ ∧ ((g : Nat) = n) ∧ _)))))
  ⟨(fun _ _ => trivial), ⟨0, (rf n), (leS (fun i0 => .agg (.cn (.ex (.int .i64 (p i0))) (.cn (.ex (.int .i64 (d i0))) (.nl)))) n), (rf 0), zo, zo, zo⟩, fun g hg => ⟨fun hc8 => have hc8 := dT hc8; have hg2 := h g zo; ⟨(rf (g : Int)), zo, sOne (p := p g) (d := d g) hg2.1 hg2.2, zo, (oldS (fun i0 => .rat (oneQ (p i0) (d i0))) g), (newS (fun i0 => .rat (oneQ (p i0) (d i0))) g), (wI (g := g) zo), g + 1, (rf n), (leS (fun i0 => .agg (.cn (.ex (.int .i64 (p i0))) (.cn (.ex (.int .i64 (d i0))) (.nl)))) n), (rf 0), zo, zo, (leS (fun i0 => .rat (oneQ (p i0) (d i0))) (g + 1)), zo, zo⟩, fun hc8 => have hc8 := dF hc8; have hi2 : g = n := zo; ⟨(rf 0), zo, (leS (fun i0 => .rat (oneQ (p i0) (d i0))) g)⟩⟩⟩
open Go.RowKit
theorem div_ne (p : Rat) {q : Rat} (hq : q ≠ 0) : ((p.den : Nat) : Int) * q.num ≠ 0 := Int.mul_ne_zero (den_ne p) fun e => hq (Rat.num_eq_zero.1 e)
theorem div_as (p q : Rat) : p / q = Rat.divInt (p.num * ((q.den : Nat) : Int)) (((p.den : Nat) : Int) * q.num) := by
 have h : p * q⁻¹ = Rat.divInt p.num p.den * Rat.divInt q.den q.num := by rw [Rat.num_divInt_den, Rat.inv_def]
 rw [Rat.div_def, h, Rat.divInt_mul_divInt]
theorem sQNeg {q : Rat}  : CallOK Tryz.prog 59 [.qt q] (.qt (-q)) [] := by
 exact kP (ch := [.reg 1 [(2, .callS (.zt (-q.num)) [])]]) Tryz.func59 ((∀ j0, j0 < (nd q.num.natAbs) → True) ∧ (∀ j0, j0 < (nd q.den) → True) ∧ _ ∧ (((decide ((-q.num) < 0) : Bool) = (decide (((-q).num) < 0))) ∧ ((nd ((-q.num).natAbs) : Nat) = (nd (((-q).num).natAbs))) ∧ (∀ j0, j0 < (nd ((-q.num).natAbs)) → (((dg ((-q.num).natAbs) j0 : Nat) : Int) = (dg (((-q).num).natAbs) j0 : Int))) ∧ ((nd q.den : Nat) = (nd ((-q).den))) ∧ (∀ j0, j0 < (nd q.den) → (((dg q.den j0 : Nat) : Int) = (dg ((-q).den) j0 : Int)))))
  ⟨(fun _ _ => trivial), (fun _ _ => trivial), sZNeg (z := q.num), (by rw [Rat.neg_num]), (by rw [Rat.neg_num]), (fun j0 hj0 => (by rw [Rat.neg_num])), (by rw [Rat.neg_den]), (fun j0 hj0 => (by rw [Rat.neg_den]))⟩
theorem sQDiv {p q : Rat} (hs : szq p + szq q ≤ 16777216) (hq : q ≠ 0) : CallOK Tryz.prog 53 [.qt p, .qt q] (.qt (p / q)) [] := by
 have h1 := nd_num p
 have h2 := nd_den p
 have h3 := nd_num q
 have h4 := nd_den q
 have h5 : nd ((p.den : Nat) : Int).natAbs ≤ 4 * szq p := h2
 have h6 : nd ((q.den : Nat) : Int).natAbs ≤ 4 * szq q := h4
 have h7 := nd_abs_mul p.num ((q.den : Nat) : Int)
 have h8 := nd_abs_mul ((p.den : Nat) : Int) q.num
 have h11 := div_ne p hq
 have h12 := div_as p q
 exact kP (ch := [.reg 1 [(4, .callS (.zt ((q.den : Nat) : Int)) []), (5, .callS (.zt (p.num * ((q.den : Nat) : Int))) []), (8, .callS (.zt ((p.den : Nat) : Int)) []), (11, .callS (.zt (((p.den : Nat) : Int) * q.num)) []), (12, .callS (.qt (Rat.divInt (p.num * ((q.den : Nat) : Int)) (((p.den : Nat) : Int) * q.num))) [])]]) Tryz.func53 ((∀ j0, j0 < (nd p.num.natAbs) → True) ∧ (∀ j0, j0 < (nd p.den) → True) ∧ (∀ j0, j0 < (nd q.num.natAbs) → True) ∧ (∀ j0, j0 < (nd q.den) → True) ∧ _ ∧ _ ∧ _ ∧ _ ∧ _ ∧ (((decide (((Rat.divInt (p.num * ((q.den : Nat) : Int)) (((p.den : Nat) : Int) * q.num)).num) < 0) : Bool) = (decide (((p / q).num) < 0))) ∧ ((nd (((Rat.divInt (p.num * ((q.den : Nat) : Int)) (((p.den : Nat) : Int) * q.num)).num).natAbs) : Nat) = (nd (((p / q).num).natAbs))) ∧ (∀ j0, j0 < (nd (((Rat.divInt (p.num * ((q.den : Nat) : Int)) (((p.den : Nat) : Int) * q.num)).num).natAbs)) → (((dg (((Rat.divInt (p.num * ((q.den : Nat) : Int)) (((p.den : Nat) : Int) * q.num)).num).natAbs) j0 : Nat) : Int) = (dg (((p / q).num).natAbs) j0 : Int))) ∧ ((nd ((Rat.divInt (p.num * ((q.den : Nat) : Int)) (((p.den : Nat) : Int) * q.num)).den) : Nat) = (nd ((p / q).den))) ∧ (∀ j0, j0 < (nd ((Rat.divInt (p.num * ((q.den : Nat) : Int)) (((p.den : Nat) : Int) * q.num)).den)) → (((dg ((Rat.divInt (p.num * ((q.den : Nat) : Int)) (((p.den : Nat) : Int) * q.num)).den) j0 : Nat) : Int) = (dg ((p / q).den) j0 : Int)))))
  ⟨(fun _ _ => trivial), (fun _ _ => trivial), (fun _ _ => trivial), (fun _ _ => trivial), sWhole (x := q.den), sZMul (y := p.num) (z := ((q.den : Nat) : Int)) zo, sWhole (x := p.den), sZMul (y := ((p.den : Nat) : Int)) (z := q.num) zo, sQNew (p := (p.num * ((q.den : Nat) : Int))) (d := (((p.den : Nat) : Int) * q.num)) h11 zo zo, (by rw [h12]), (by rw [h12]), (fun j0 hj0 => (by rw [h12])), (by rw [h12]), (fun j0 hj0 => (by rw [h12]))⟩
open Go.RowKit
theorem sRefOf1 {k : Nat} (hk : k < 18446744073709551616) : CallOK Tryz.prog 101 [.sl 1 (fun _ => .ex (.int .u64 (k : Int))) 1] (.dgs k (nd k)) [] := by
 have h := sRefOf (w := fun _ => k) (n := 1) (by decide) (fun _ _ => hk)
 have e : val (fun _ => k) 1 = k := by simp [val]
 rw [e] at h
 exact h
theorem sg_self (x : Int) : signed (decide (x < 0)) x.natAbs = x := by
 unfold signed
 by_cases h : x < 0 <;> simp [h] <;> omega
theorem nd_int {x : Int} (h : Wd64 x) : nd ((x : Int) : Rat).num.natAbs ≤ 4 := by
 rw [Rat.num_intCast]
 refine (nd_le _ 4).2 ?_
 have h1 := h.1; have h2 := h.2
 have : (2 : Nat) ^ (16 * 4) = 18446744073709551616 := by decide
 omega
theorem sQInt {x : Int} (hl : -9223372036854775808 ≤ x) (hu : x < 9223372036854775808) : CallOK Tryz.prog 56 [.ex (.int .i64 x)] (.qt ((x : Int) : Rat)) [] := by
 exact kP (ch := [.reg 1 [(1, .z (x % 18446744073709551616))], .reg 3 [(1, .z ((x.natAbs : Nat) : Int))], .conv 4 [(0, .id 0)] ⟨[(0, .ex (.int .i64 x)), (2, .own 0 0), (3, .ex (.int .u64 ((x.natAbs : Nat) : Int)))], [(0, .one (.var 56 (.ex (.agg #[.bool false, .slice none 0 0, .slice none 0 0]))))], 1⟩, .reg 4 [(4, .callS (.dgs x.natAbs (nd x.natAbs)) []), (5, .callS (.zt (signed (decide ((x : Int) < 0)) x.natAbs)) [])], .conv 4 [(0, .id 0)] ⟨[(0, .ex (.int .i64 x)), (2, .own 0 0), (3, .ex (.int .u64 ((x.natAbs : Nat) : Int)))], [(0, .one (.var 56 (.ex (.agg #[.bool false, .slice none 0 0, .slice none 0 0]))))], 1⟩, .reg 4 [(4, .callS (.dgs x.natAbs (nd x.natAbs)) []), (5, .callS (.zt (signed (decide ((x : Int) < 0)) x.natAbs)) [])]]) Tryz.func56 ((IntKind.wrap .u64 (x : Int) = (x % 18446744073709551616)) ∧ (((decide ((x : Int) < 0)) = true → (IntKind.wrap .u64 (0 - (x % 18446744073709551616)) = (((x.natAbs : Nat) : Int))) ∧ _ ∧ _ ∧ _ ∧ ((.agg #[.bool false, .slice none 0 0, .slice none 0 0] : Value) = .agg #[.bool false, .slice none 0 0, .slice none 0 0]) ∧ _ ∧ _ ∧ (((decide ((signed (decide ((x : Int) < 0)) x.natAbs) < 0) : Bool) = (decide ((((x : Int) : Rat).num) < 0))) ∧ ((nd ((signed (decide ((x : Int) < 0)) x.natAbs).natAbs) : Nat) = (nd ((((x : Int) : Rat).num).natAbs))) ∧ (∀ j0, j0 < (nd ((signed (decide ((x : Int) < 0)) x.natAbs).natAbs)) → (((dg ((signed (decide ((x : Int) < 0)) x.natAbs).natAbs) j0 : Nat) : Int) = (dg ((((x : Int) : Rat).num).natAbs) j0 : Int))) ∧ ((1 : Nat) = (nd (((x : Int) : Rat).den))) ∧ (∀ j0, j0 < 1 → ((1 : Int) = (dg (((x : Int) : Rat).den) j0 : Int))))) ∧ ((decide ((x : Int) < 0)) = false → _ ∧ _ ∧ ((x % 18446744073709551616 : Int) = ((x.natAbs : Nat) : Int)) ∧ ((.agg #[.bool false, .slice none 0 0, .slice none 0 0] : Value) = .agg #[.bool false, .slice none 0 0, .slice none 0 0]) ∧ _ ∧ _ ∧ (((decide ((signed (decide ((x : Int) < 0)) x.natAbs) < 0) : Bool) = (decide ((((x : Int) : Rat).num) < 0))) ∧ ((nd ((signed (decide ((x : Int) < 0)) x.natAbs).natAbs) : Nat) = (nd ((((x : Int) : Rat).num).natAbs))) ∧ (∀ j0, j0 < (nd ((signed (decide ((x : Int) < 0)) x.natAbs).natAbs)) → (((dg ((signed (decide ((x : Int) < 0)) x.natAbs).natAbs) j0 : Nat) : Int) = (dg ((((x : Int) : Rat).num).natAbs) j0 : Int))) ∧ ((1 : Nat) = (nd (((x : Int) : Rat).den))) ∧ (∀ j0, j0 < 1 → ((1 : Int) = (dg (((x : Int) : Rat).den) j0 : Int)))))))
  ⟨(by rw [IntKind.wrap_u64]), fun hc7 => have hc7 := dT hc7; ⟨(by rw [IntKind.wrap_u64]; omega), (rf (x : Int)), (rf 0), (rf ((x.natAbs : Nat) : Int)), rfl, sRefOf1 (k := x.natAbs) zo, sZNew (b := (decide ((x : Int) < 0))) (x := x.natAbs), (by rw [sg_self, Rat.num_intCast]), (by rw [sg_self, Rat.num_intCast]), (fun j0 hj0 => (by rw [sg_self, Rat.num_intCast])), (by rw [Rat.den_intCast]; rfl), (fun j0 hj0 => (by rw [Rat.den_intCast, show j0 = 0 by omega]; rfl))⟩, fun hc7 => have hc7 := dF hc7; ⟨(rf (x : Int)), (rf 0), zo, rfl, sRefOf1 (k := x.natAbs) zo, sZNew (b := (decide ((x : Int) < 0))) (x := x.natAbs), (by rw [sg_self, Rat.num_intCast]), (by rw [sg_self, Rat.num_intCast]), (fun j0 hj0 => (by rw [sg_self, Rat.num_intCast])), (by rw [Rat.den_intCast]; rfl), (fun j0 hj0 => (by rw [Rat.den_intCast, show j0 = 0 by omega]; rfl))⟩⟩
theorem sQOf {p q : Int} (hp : Wd64 p) (hq : Wd64 q) : CallOK Tryz.prog 54 [.ex (.int .i64 p), .ex (.int .i64 q)] (.qt (oneQ p q)) [] := by
 have hp1 := hp.1; have hp2 := hp.2; have hq1 := hq.1; have hq2 := hq.2
 have n1 := nd_int (x := p) hp
 have n2 := nd_int (x := q) hq
 have m2 : ((q : Int) : Rat).num = q := Rat.num_intCast q
 exact kP (ch := [.reg 2 [(1, .callS (.qt ((p : Int) : Rat)) [])], .reg 3 [(1, .callS (.qt ((p : Int) : Rat)) []), (4, .callS (.qt ((q : Int) : Rat)) []), (6, .callS (.qt (Rat.divInt (((p : Int) : Rat).num) (((q : Int) : Rat).num))) [])]]) Tryz.func54 ((((decide ((q : Int) = 0)) = true → _ ∧ (((decide ((((p : Int) : Rat).num) < 0) : Bool) = (decide (((oneQ p q).num) < 0))) ∧ ((nd ((((p : Int) : Rat).num).natAbs) : Nat) = (nd (((oneQ p q).num).natAbs))) ∧ (∀ j0, j0 < (nd ((((p : Int) : Rat).num).natAbs)) → (((dg ((((p : Int) : Rat).num).natAbs) j0 : Nat) : Int) = (dg (((oneQ p q).num).natAbs) j0 : Int))) ∧ ((nd (((p : Int) : Rat).den) : Nat) = (nd ((oneQ p q).den))) ∧ (∀ j0, j0 < (nd (((p : Int) : Rat).den)) → (((dg (((p : Int) : Rat).den) j0 : Nat) : Int) = (dg ((oneQ p q).den) j0 : Int))))) ∧ ((decide ((q : Int) = 0)) = false → _ ∧ _ ∧ _ ∧ (((decide (((Rat.divInt (((p : Int) : Rat).num) (((q : Int) : Rat).num)).num) < 0) : Bool) = (decide (((oneQ p q).num) < 0))) ∧ ((nd (((Rat.divInt (((p : Int) : Rat).num) (((q : Int) : Rat).num)).num).natAbs) : Nat) = (nd (((oneQ p q).num).natAbs))) ∧ (∀ j0, j0 < (nd (((Rat.divInt (((p : Int) : Rat).num) (((q : Int) : Rat).num)).num).natAbs)) → (((dg (((Rat.divInt (((p : Int) : Rat).num) (((q : Int) : Rat).num)).num).natAbs) j0 : Nat) : Int) = (dg (((oneQ p q).num).natAbs) j0 : Int))) ∧ ((nd ((Rat.divInt (((p : Int) : Rat).num) (((q : Int) : Rat).num)).den) : Nat) = (nd ((oneQ p q).den))) ∧ (∀ j0, j0 < (nd ((Rat.divInt (((p : Int) : Rat).num) (((q : Int) : Rat).num)).den)) → (((dg ((Rat.divInt (((p : Int) : Rat).num) (((q : Int) : Rat).num)).den) j0 : Nat) : Int) = (dg ((oneQ p q).den) j0 : Int)))))))
  ⟨fun hc6 => have hc6 := dT hc6; have e : oneQ p q = ((p : Int) : Rat) := if_pos hc6; ⟨sQInt (x := p) zo zo, (by rw [e]), (by rw [e]), (fun j0 hj0 => (by rw [e])), (by rw [e]), (fun j0 hj0 => (by rw [e]))⟩, fun hc6 => have hc6 := dF hc6; have e : oneQ p q = Rat.divInt (((p : Int) : Rat).num) (((q : Int) : Rat).num) := (by rw [Rat.num_intCast, Rat.num_intCast]; exact if_neg hc6); ⟨sQInt (x := p) zo zo, sQInt (x := q) zo zo, sQNew (p := (((p : Int) : Rat).num)) (d := (((q : Int) : Rat).num)) (by rw [m2]; exact hc6) zo zo, (by rw [e]), (by rw [e]), (fun j0 hj0 => (by rw [e])), (by rw [e]), (fun j0 hj0 => (by rw [e]))⟩⟩
theorem sRef10 {p d : Nat → Int} {n : Nat} (hn : n ≤ 68719476736) (h : ∀ i, i < n → Wd64 (p i) ∧ Wd64 (d i)) : CallOK Tryz.prog 18 [.sl 2 (fun i0 => .agg (.cn (.ex (.int .i64 (p i0))) (.cn (.ex (.int .i64 (d i0))) (.nl)))) n] (.sl 3 (fun i0 => .qt (oneQ (p i0) (d i0))) n) [] := by
 exact kP (ch := [.loop 3 (Nat) (fun g => g ≤ n) (fun g => n - g) (fun g => ⟨[(0, .sl 2 (fun i0 => .agg (.cn (.ex (.int .i64 (p i0))) (.cn (.ex (.int .i64 (d i0))) (.nl)))) n), (3, .own 0 0), (4, .ex (.int .i64 (g : Int)))], [(0, .one (.row 56 3 (fun i0 => .qt (oneQ (p i0) (d i0))) g))], 1⟩) [(0, .nil)] (fun _ => [(0, .id 1)]) (fun g => [.reg 5 [(3, .k g), (8, .k g), (11, .callS (.qt (oneQ (p g) (d g))) []), (13, .row 0 (fun i0 => .qt (oneQ (p i0) (d i0))))], .reg 4 [(1, .z ((g + 1 : Nat) : Int))]])]) Tryz.func18 ((∀ j0, j0 < n → True) ∧ (((fun X1 X2 X3 : Prop => ∃ g0 : Nat, X1 ∧ X2 ∧ X3 ∧ ((0 : Int) = (g0 : Int)) ∧ ((g0 : Nat) = 0) ∧ (g0 ≤ n)) _ _ _) ∧ ∀ g : Nat, (g ≤ n) → (((decide ((g : Int) < (n : Int))) = true → _ ∧ (g < n) ∧ _ ∧ (g < n) ∧ _ ∧ (g + 1 ≤ 68719476736) ∧ _ ∧ _ ∧ _ ∧ ((fun X1 X2 X3 X4 : Prop => ∃ g1 : Nat, X1 ∧ X2 ∧ X3 ∧ (((g + 1 : Nat) : Int) = (g1 : Int)) ∧ ((g + 1 : Nat) = g1) ∧ X4 ∧ (g1 ≤ n) ∧ (n - g1 < n - g)) _ _ _ _)) ∧ ((decide ((g : Int) < (n : Int))) = false → (((g : Nat) = n) ∧ _)))))
  ⟨(fun _ _ => trivial), ⟨0, (rf n), (leS (fun i0 => .agg (.cn (.ex (.int .i64 (p i0))) (.cn (.ex (.int .i64 (d i0))) (.nl)))) n), (rf 0), zo, zo, zo⟩, fun g hg => ⟨fun hc8 => have hc8 := dT hc8; have hg2 := h g zo; ⟨(rf (g : Int)), zo, (rf (g : Int)), zo, sQOf (p := p g) (q := d g) hg2.1 hg2.2, zo, (oldS (fun i0 => .qt (oneQ (p i0) (d i0))) g), (newS (fun i0 => .qt (oneQ (p i0) (d i0))) g), (wI (g := g) zo), g + 1, (rf n), (leS (fun i0 => .agg (.cn (.ex (.int .i64 (p i0))) (.cn (.ex (.int .i64 (d i0))) (.nl)))) n), (rf 0), zo, zo, (leS (fun i0 => .qt (oneQ (p i0) (d i0))) (g + 1)), zo, zo⟩, fun hc8 => have hc8 := dF hc8; have hi2 : g = n := zo; ⟨hi2, (leS (fun i0 => .qt (oneQ (p i0) (d i0))) g)⟩⟩⟩
theorem sLike10 {q f : Nat → Rat} {n m : Nat} (hn : n ≤ 68719476736) (hs : ∀ i, i < m → szq (f i) ≤ 16777216) : CallOK Tryz.prog 16 [.sl 3 (fun i0 => .rat (q i0)) n, .sl 3 (fun i0 => .qt (f i0)) m] (.ex (.bool (decide (n = m ∧ ∀ i : Nat, i < n → f i = q i)))) [] := by
 exact kP (ch := [.loop 4 (Nat) (fun g => g ≤ n ∧ ∀ i, i < g → f i = q i) (fun g => n - g) (fun g => ⟨[(0, .sl 3 (fun i0 => .rat (q i0)) n), (1, .sl 3 (fun i0 => .qt (f i0)) m), (5, .ex (.int .i64 (g : Int)))], [], 0⟩) [] (fun _ => []) (fun g => [.reg 6 [(2, .k g), (6, .k g), (8, .callS (.ex (.bool (decide ((f g) = (q g))))) [])], .reg 5 [(1, .z ((g + 1 : Nat) : Int))]])]) Tryz.func16 ((∀ j0, j0 < n → True) ∧ (∀ j0, j0 < m → (∀ j1, j1 < (nd (((f j0).num).natAbs)) → True) ∧ (∀ j1, j1 < (nd ((f j0).den)) → True)) ∧ (((!decide ((n : Int) = (m : Int))) = true → (((false : Bool) = (decide (n = m ∧ ∀ i : Nat, i < n → f i = q i))))) ∧ ((!decide ((n : Int) = (m : Int))) = false → (((fun X1 X2 X3 X4 : Prop => ∃ g0 : Nat, X1 ∧ X2 ∧ X3 ∧ X4 ∧ ((0 : Int) = (g0 : Int)) ∧ (g0 ≤ n ∧ ∀ i, i < g0 → f i = q i)) _ _ _ _) ∧ ∀ g : Nat, (g ≤ n ∧ ∀ i, i < g → f i = q i) → (((decide ((g : Int) < (n : Int))) = true → _ ∧ (g < n) ∧ _ ∧ (g < m) ∧ _ ∧ (((!(decide ((f g) = (q g)))) = true → (((false : Bool) = (decide (n = m ∧ ∀ i : Nat, i < n → f i = q i))))) ∧ ((!(decide ((f g) = (q g)))) = false → _ ∧ ((fun X1 X2 X3 X4 : Prop => ∃ g1 : Nat, X1 ∧ X2 ∧ X3 ∧ X4 ∧ (((g + 1 : Nat) : Int) = (g1 : Int)) ∧ (g1 ≤ n ∧ ∀ i, i < g1 → f i = q i) ∧ (n - g1 < n - g)) _ _ _ _)))) ∧ ((decide ((g : Int) < (n : Int))) = false → (((true : Bool) = (decide (n = m ∧ ∀ i : Nat, i < n → f i = q i))))))))))
  ⟨(fun _ _ => trivial), (fun _ _ => ⟨(fun _ _ => trivial), (fun _ _ => trivial)⟩), fun hc10 => have hnm : n ≠ m := (by have h := hc10; simp at h; omega); (decide_eq_false (fun e => hnm e.1)).symm, fun hc10 => have hnm : n = m := (by have h := hc10; simp at h; omega); ⟨⟨0, (rf n), (leS (fun i0 => .rat (q i0)) n), (rf m), (leS (fun i0 => .qt (f i0)) m), zo, by omega, fun j hj => by omega⟩, fun g hg => have hg1 := hg.1; ⟨fun hc14 => have hc14 := dT hc14; have hg2 := hs g zo; ⟨(rf (g : Int)), zo, (rf (g : Int)), zo, sLike8 (p := f g) (q := q g) hg2, fun hc26 => have he : f g ≠ q g := (by simpa using hc26); (decide_eq_false (fun e => he (e.2 g zo))).symm, fun hc26 => have he : f g = q g := (by simpa using hc26); ⟨(wI (g := g) zo), g + 1, (rf n), (leS (fun i0 => .rat (q i0)) n), (rf m), (leS (fun i0 => .qt (f i0)) m), zo, ⟨by omega, fun i hi => by by_cases e : i = g; (subst e; exact he); exact hg.2 i zo⟩, zo⟩⟩, fun hc14 => have hc14 := dF hc14; (decide_eq_true ⟨hnm, fun i hi => hg.2 i zo⟩).symm⟩⟩⟩
open Go.RowKit
def uptoR (g : Nat) (q : Nat → Nat → Rat) (r c : Nat) : Rat := if r < g then q r c else 0
theorem uptoR_at {g c : Nat} {q : Nat → Nat → Rat} : uptoR (g + 1) q g c = q g c := if_pos (Nat.lt_succ_self g)
theorem uptoR_ne {g t c : Nat} {q : Nat → Nat → Rat} (h : t ≠ g) : uptoR (g + 1) q t c = uptoR g q t c := by
 unfold uptoR
 by_cases h1 : t < g
 ·rw [if_pos h1, if_pos zo]
 ·rw [if_neg h1, if_neg zo]
theorem uptoR_zero {t c : Nat} {q : Nat → Nat → Rat} : uptoR 0 q t c = 0 := if_neg (Nat.not_lt_zero t)
theorem rows_step {p q : Nat → Nat → Rat} {g n : Nat} (h : ∀ r : Nat, r < g → ∀ c : Nat, c < n → p r c = q r c) (e : ∀ c : Nat, c < n → p g c = q g c) : ∀ r : Nat, r < g + 1 → ∀ c : Nat, c < n → p r c = q r c := fun r hr => by
 by_cases hrg : r = g
 ·subst hrg; exact e
 ·exact h r zo
theorem dims_no {n l m k : Nat} (h : (bif !decide ((n : Int) = (l : Int)) then true else !decide ((m : Int) = (k : Int))) = true) : ¬ (n = l ∧ m = k) := by
 rintro ⟨rfl, rfl⟩
 simp at h
theorem dims_yes {n l m k : Nat} (h : (bif !decide ((n : Int) = (l : Int)) then true else !decide ((m : Int) = (k : Int))) = false) : n = l ∧ m = k := by
 by_cases e : n = l
 ·subst e
  by_cases e2 : m = k
  ·exact ⟨rfl, e2⟩
  ·have : ¬ ((m : Int) = (k : Int)) := by omega
   simp [this] at h
 ·have : ¬ ((n : Int) = (l : Int)) := by omega
  simp [this] at h
theorem same_no {P : Prop} [Decidable P] (h : (!decide P) = true) : ¬ P := by simpa using h
theorem same_yes {P : Prop} [Decidable P] (h : (!decide P) = false) : P := by simpa using h
theorem uptoR_all {g t c : Nat} {q : Nat → Nat → Rat} (h : t < g) : uptoR g q t c = q t c := if_pos h
theorem sMatNew {m n : Nat} (hm : m ≤ 64) (hn : n ≤ 64) : CallOK Tryz.prog 84 [.ex (.int .i64 (m : Int)), .ex (.int .i64 (n : Int))] (.cn (.agg (.cn (.own 0 0) (.cn (.ex (.int .i64 (n : Int))) (.nl)))) (.cn (.ex (.bool true)) (.nl))) [.one (.row 40 1 (fun i0 => .own 1 i0) m), .fam m (fun _ => .row 66 3 (fun _ => .rat 0) n)] := by
 exact kP (ch := [.dec 20 false, .loop 5 (Nat) (fun g => g ≤ m) (fun g => m - g) (fun g => ⟨[(1, .ex (.int .i64 (n : Int))), (4, .own 0 0), (6, .own 1 0), (24, .ex (.int .i64 (m : Int))), (25, .ex (.int .i64 (g : Int)))], [(0, .one (.var 29 (.ex (.agg #[.slice none 0 0, .int .i64 0])))), (1, .one (.var 29 (.agg (.cn (.own 2 0) (.cn (.ex (.int .i64 (n : Int))) (.nl)))))), (2, .one (.row 40 1 (fun i0 => .own 3 i0) g)), (3, .fam g (fun _ => .row 66 3 (fun _ => .rat 0) n))], 4⟩) [(0, .id 0), (1, .id 1), (2, .nil), (3, .emp)] (fun g => [(0, .id 0), (1, .id 1), (2, .id 5), (3, .put 3 g 4)]) (fun g => [.reg 6 [(3, .row n (fun _ => .rat 0)), (5, .row 0 (fun i0 => .own (if i0 < g then 3 else 4) (if i0 < g then i0 else 0)))], .reg 7 [(0, .z ((g + 1 : Nat) : Int))], .ret 8 [(0, .id 2), (1, .id 3)]])]) Tryz.func84 (let y2 := (decide ((m : Int) < 0)); let y0 := (bif y2 then true else (decide ((64 : Int) < (m : Int)))); let y1 := (bif y0 then true else (decide ((n : Int) < 0))); ((y2 == false) = true → (y2 == false) = true) ∧ ((!y2) = true → (y2 == false) = true) ∧ ((y0 == false) = true → (y0 == false) = true) ∧ ((!y0) = true → (y0 == false) = true) ∧ ((y1 == false) = true → (y1 == false) = true) ∧ ((!y1) = true → (y1 == false) = true) ∧ ((bif y1 then true else (decide ((64 : Int) < (n : Int)))) = false) ∧ (((fun X1 X2 X3 X4 X5 X6 : Prop => ∃ g0 : Nat, X1 ∧ X2 ∧ X3 ∧ X4 ∧ ((0 : Int) = (g0 : Int)) ∧ ((.agg #[.slice none 0 0, .int .i64 0] : Value) = .agg #[.slice none 0 0, .int .i64 0]) ∧ X5 ∧ X6 ∧ ((g0 : Nat) = 0) ∧ ((g0 : Nat) = 0) ∧ (g0 ≤ m)) _ _ _ _ _ _) ∧ ∀ g : Nat, (g ≤ m) → (((decide ((g : Int) < (m : Int))) = true → _ ∧ _ ∧ (n ≤ 68719476736) ∧ (∀ j0, j0 < n → ((0 : Rat) = 0)) ∧ (g + 1 ≤ 68719476736) ∧ (∀ j0, j0 < g → (.own (if j0 < g then 3 else 4) (if j0 < g then j0 else 0) : SV) = .own 3 j0) ∧ (∀ j0, j0 < 1 → ((4 : Nat) = (if g + j0 < g then 3 else 4)) ∧ ((0 : Nat) = (if g + j0 < g then g + j0 else 0))) ∧ _ ∧ ((fun X1 X2 X3 X4 X5 X6 X7 : Prop => ∃ g1 : Nat, X1 ∧ X2 ∧ X3 ∧ X4 ∧ (((g + 1 : Nat) : Int) = (g1 : Int)) ∧ ((.agg #[.slice none 0 0, .int .i64 0] : Value) = .agg #[.slice none 0 0, .int .i64 0]) ∧ X5 ∧ X6 ∧ ((g + 1 : Nat) = g1) ∧ (∀ j0, j0 < (g + 1) → (((if j0 < g then 3 else 4 : Nat) = 4 ∧ (if j0 < g then j0 else 0 : Nat) = 0 ∧ (j0 : Nat) = g) ∨ ((if j0 < g then 3 else 4 : Nat) = 3 ∧ (if j0 < g then j0 else 0 : Nat) = j0 ∧ (j0 : Nat) ≠ g))) ∧ ((g1 : Nat) = g + 1) ∧ X7 ∧ (((n : Nat) = n) ∧ (∀ j1, j1 < n → ((0 : Rat) = 0))) ∧ (∀ j0, j0 < g → ((n : Nat) = n) ∧ (∀ j1, j1 < n → ((0 : Rat) = 0))) ∧ (g1 ≤ m) ∧ (m - g1 < m - g)) _ _ _ _ _ _ _)) ∧ ((decide ((g : Int) < (m : Int))) = false → (_ ∧ _ ∧ _ ∧ ((g : Nat) = m) ∧ (∀ j0, j0 < g → ((j0 : Nat) = j0)) ∧ ((g : Nat) = m) ∧ (∀ j0, j0 < g → ((n : Nat) = n) ∧ (∀ j1, j1 < n → ((0 : Rat) = 0))))))))
  ⟨id, (by first | (simp; done) | (simp; omega)), id, (by first | (simp; done) | (simp; omega)), id, (by first | (simp; done) | (simp; omega)), (by simp; omega), ⟨0, (rf (n : Int)), (rf 0), (rf 0), (rf (m : Int)), zo, rfl, (rf 0), (rf (n : Int)), zo, zo, zo⟩, fun g hg => ⟨fun hc26 => have hc26 := dT hc26; ⟨(rf (n : Int)), (rf (n : Int)), zo, (fun j0 hj0 => rfl), zo, (fun j0 hj0 => by rw [if_pos hj0, if_pos hj0]), (fun j0 hj0 => ⟨(by rw [if_neg zo]), (by rw [if_neg zo])⟩), (wI (g := g) zo), g + 1, (rf (n : Int)), (rf 0), (rf 0), (rf (m : Int)), zo, rfl, (rf 0), (rf (n : Int)), zo, (fun j0 hj0 => (by first | omega | (split <;> omega))), zo, (rf g), ⟨rfl, (fun j1 hj1 => rfl)⟩, (fun j0 hj0 => ⟨rfl, (fun j1 hj1 => rfl)⟩), zo, zo⟩, fun hc26 => have hc26 := dF hc26; have hi2 : g = m := zo; ⟨(rf 0), (rf (n : Int)), (rf (true : Bool)), zo, (fun j0 hj0 => rfl), zo, (fun j0 hj0 => ⟨rfl, (fun j1 hj1 => rfl)⟩)⟩⟩⟩
theorem sMatOf {q : Nat → Nat → Rat} {m n : Nat} (hm : m ≤ 64) (hn : n ≤ 64) : CallOK Tryz.prog 36 [.ex (.int .i64 (n : Int)), .sl 1 (mE q n) m] (.cn (.agg (.cn (.sl 1 (mE q n) m) (.cn (.ex (.int .i64 (n : Int))) (.nl)))) (.cn (.ex (.bool true)) (.nl))) [] := by
 exact kP (ch := [.reg 1 [(3, .callS (.cn (.agg (.cn (.own 0 0) (.cn (.ex (.int .i64 (n : Int))) (.nl)))) (.cn (.ex (.bool true)) (.nl))) [.one (.row 40 1 (fun i0 => .own 1 i0) m), .fam m (fun _ => .row 66 3 (fun _ => .rat 0) n)])], .dec 18 false, .loop 5 (Nat) (fun g => g ≤ m) (fun g => m - g) (fun g => ⟨[(0, .ex (.int .i64 (n : Int))), (4, .own 0 0), (6, .own 3 0), (20, .sl 1 (mE q n) m), (21, .ex (.int .i64 (m : Int))), (22, .ex (.int .i64 (g : Int)))], [(0, .one (.var 29 (.ex (.agg #[.slice none 0 0, .int .i64 0])))), (1, .one (.row 40 1 (fun i0 => .own 2 i0) m)), (2, .fam m (fun i0 => .row 66 3 (fun i1 => .rat (uptoR g q i0 i1)) n)), (3, .one (.var 29 (.agg (.cn (.own 1 0) (.cn (.ex (.int .i64 (n : Int))) (.nl))))))], 4⟩) [(0, .id 0), (1, .id 1), (2, .id 2), (3, .id 3)] (fun _ => [(0, .id 0), (1, .id 1), (2, .id 2), (3, .id 3)]) (fun g => [.reg 6 [(1, .k g)], .dec 30 false, .reg 9 [(3, .k g), (6, .rowF (fun i0 => .rat (uptoR (g + 1) q g i0)) (fun i0 => .row 66 3 (fun i1 => .rat (uptoR (g + 1) q i0 i1)) n))], .reg 10 [(0, .z ((g + 1 : Nat) : Int))]])]) Tryz.func36 ((∀ j0, j0 < m → (∀ j1, j1 < n → True)) ∧ _ ∧ ((!true) = false) ∧ (((fun X1 X2 X3 X4 X5 X6 X7 X8 X9 X10 : Prop => ∃ g0 : Nat, X1 ∧ X2 ∧ X3 ∧ X4 ∧ X5 ∧ X6 ∧ ((0 : Int) = (g0 : Int)) ∧ ((.agg #[.slice none 0 0, .int .i64 0] : Value) = .agg #[.slice none 0 0, .int .i64 0]) ∧ X7 ∧ (∀ j0, j0 < m → ((j0 : Nat) = j0)) ∧ X8 ∧ (∀ j0, j0 < m → ((n : Nat) = n) ∧ (∀ j1, j1 < n → ((0 : Rat) = (uptoR g0 q j0 j1)))) ∧ X9 ∧ X10 ∧ (g0 ≤ m)) _ _ _ _ _ _ _ _ _ _) ∧ ∀ g : Nat, (g ≤ m) → (((decide ((g : Int) < (m : Int))) = true → _ ∧ (g < m) ∧ ((!decide ((n : Int) = (n : Int))) = false) ∧ _ ∧ (g < m) ∧ (g < m) ∧ (n ≤ n) ∧ (∀ j0, j0 < n → n ≤ j0 → (.rat (uptoR (g + 1) q g j0) : SV) = .rat (uptoR g q g j0)) ∧ (∀ j0, j0 < n → ((q g j0 : Rat) = (uptoR (g + 1) q g j0))) ∧ (g < m) ∧ ((.row 66 3 (fun i0 => .rat (uptoR (g + 1) q g i0)) n : OB) = .row 66 3 (fun i0 => .rat (uptoR (g + 1) q g i0)) n) ∧ (∀ t, t < m → t ≠ g → (.row 66 3 (fun i0 => .rat (uptoR (g + 1) q t i0)) n : OB) = .row 66 3 (fun i0 => .rat (uptoR g q t i0)) n) ∧ _ ∧ ((fun X1 X2 X3 X4 X5 X6 X7 X8 X9 X10 : Prop => ∃ g1 : Nat, X1 ∧ X2 ∧ X3 ∧ X4 ∧ X5 ∧ X6 ∧ (((g + 1 : Nat) : Int) = (g1 : Int)) ∧ ((.agg #[.slice none 0 0, .int .i64 0] : Value) = .agg #[.slice none 0 0, .int .i64 0]) ∧ X7 ∧ (∀ j0, j0 < m → ((j0 : Nat) = j0)) ∧ X8 ∧ (∀ j0, j0 < m → ((n : Nat) = n) ∧ (∀ j1, j1 < n → ((uptoR (g + 1) q j0 j1 : Rat) = (uptoR g1 q j0 j1)))) ∧ X9 ∧ X10 ∧ (g1 ≤ m) ∧ (m - g1 < m - g)) _ _ _ _ _ _ _ _ _ _)) ∧ ((decide ((g : Int) < (m : Int))) = false → (_ ∧ (∀ j0, j0 < m → ((n : Nat) = n) ∧ (∀ j1, j1 < n → ((uptoR g q j0 j1 : Rat) = (q j0 j1))) ∧ (j0 < m)) ∧ _ ∧ _)))))
  ⟨(fun _ _ => (fun _ _ => trivial)), sMatNew (m := m) (n := n) zo zo, rfl, ⟨0, (rf (n : Int)), (rf 0), (rf 0), (rf m), (leS (mE q n) m), (rf (m : Int)), zo, rfl, (rf m), (fun j0 hj0 => rfl), (rf m), (fun j0 hj0 => ⟨rfl, (fun j1 hj1 => (by rw [uptoR_zero]))⟩), (rf 0), (rf (n : Int)), zo⟩, fun g hg => ⟨fun hc23 => have hc23 := dT hc23; ⟨(rf (g : Int)), zo, (by simp), (rf (g : Int)), zo, zo, zo, (fun j0 hj0 hm => absurd hj0 (Nat.not_lt.2 hm)), (fun j0 hj0 => (by rw [uptoR_at])), zo, rfl, (fun t ht hne => by simp only [uptoR_ne hne]), (wI (g := g) zo), g + 1, (rf (n : Int)), (rf 0), (rf 0), (rf m), (leS (mE q n) m), (rf (m : Int)), zo, rfl, (rf m), (fun j0 hj0 => rfl), (rf m), (fun j0 hj0 => ⟨rfl, (fun j1 hj1 => rfl)⟩), (rf 0), (rf (n : Int)), zo, zo⟩, fun hc23 => have hc23 := dF hc23; have hi2 : g = m := zo; ⟨(rf m), (fun j0 hj0 => ⟨rfl, (fun j1 hj1 => (by rw [hi2]; exact uptoR_all zo)), zo⟩), (rf (n : Int)), (rf (true : Bool))⟩⟩⟩
theorem sMatSame {p q : Nat → Nat → Rat} {m n k l : Nat} (hm : m ≤ 68719476736) (hn : n ≤ 68719476736) (hs : n = l → m = k → ∀ r, r < m → ∀ c, c < n → c < l → szq (p r c) + szq (q r c) ≤ 17179869184) : CallOK Tryz.prog 40 [.agg (.cn (.sl 1 (mE p n) m) (.cn (.ex (.int .i64 (n : Int))) (.nl))), .agg (.cn (.sl 1 (mE q l) k) (.cn (.ex (.int .i64 (l : Int))) (.nl)))] (.ex (.bool (decide (n = l ∧ m = k ∧ ∀ r : Nat, r < m → ∀ c : Nat, c < n → p r c = q r c)))) [] := by
 exact kP (ch := [.loop 4 (Nat) (fun g => g ≤ m ∧ ∀ r : Nat, r < g → ∀ c : Nat, c < n → p r c = q r c) (fun g => m - g) (fun g => ⟨[(2, .own 0 0), (3, .own 1 0), (22, .ex (.int .i64 (m : Int))), (23, .ex (.int .i64 (g : Int)))], [(0, .one (.var 29 (.agg (.cn (.sl 1 (mE p n) m) (.cn (.ex (.int .i64 (n : Int))) (.nl)))))), (1, .one (.var 29 (.agg (.cn (.sl 1 (mE q l) k) (.cn (.ex (.int .i64 (l : Int))) (.nl))))))], 2⟩) [(0, .id 0), (1, .id 1)] (fun _ => [(0, .id 0), (1, .id 1)]) (fun g => [.reg 6 [(3, .k g), (8, .k g), (10, .callS (.ex (.bool (decide (n = l ∧ ∀ j : Nat, j < n → (p g j : Rat) = (q g j))))) [])], .reg 8 [(0, .z ((g + 1 : Nat) : Int))]])]) Tryz.func40 (let y0 := ((!decide ((n : Int) = (l : Int))) == false); let y1 := (decide (n = l ∧ m = k ∧ ∀ r : Nat, r < m → ∀ c : Nat, c < n → p r c = q r c)); let y2 := (bif (!decide ((n : Int) = (l : Int))) then true else (!decide ((m : Int) = (k : Int)))); (∀ j0, j0 < m → (∀ j1, j1 < n → True)) ∧ (∀ j0, j0 < k → (∀ j1, j1 < l → True)) ∧ (y0 = true → y0 = true) ∧ (y0 = true → y0 = true) ∧ (y0 = true → y0 = true) ∧ (y0 = true → y0 = true) ∧ (y0 = true → y0 = true) ∧ (y0 = true → y0 = true) ∧ ((!(!decide ((n : Int) = (l : Int)))) = true → y0 = true) ∧ ((y2 = true → (((false : Bool) = y1))) ∧ (y2 = false → (((fun X1 X2 X3 X4 X5 X6 X7 X8 X9 : Prop => ∃ g0 : Nat, X1 ∧ X2 ∧ X3 ∧ ((0 : Int) = (g0 : Int)) ∧ X4 ∧ X5 ∧ X6 ∧ X7 ∧ X8 ∧ X9 ∧ (g0 ≤ m ∧ ∀ r : Nat, r < g0 → ∀ c : Nat, c < n → p r c = q r c)) _ _ _ _ _ _ _ _ _) ∧ ∀ g : Nat, (g ≤ m ∧ ∀ r : Nat, r < g → ∀ c : Nat, c < n → p r c = q r c) → (((decide ((g : Int) < (m : Int))) = true → _ ∧ (g < m) ∧ _ ∧ (g < k) ∧ _ ∧ (((!(decide (n = l ∧ ∀ j : Nat, j < n → (p g j : Rat) = (q g j)))) = true → (((false : Bool) = y1))) ∧ ((!(decide (n = l ∧ ∀ j : Nat, j < n → (p g j : Rat) = (q g j)))) = false → _ ∧ ((fun X1 X2 X3 X4 X5 X6 X7 X8 X9 : Prop => ∃ g1 : Nat, X1 ∧ X2 ∧ X3 ∧ (((g + 1 : Nat) : Int) = (g1 : Int)) ∧ X4 ∧ X5 ∧ X6 ∧ X7 ∧ X8 ∧ X9 ∧ (g1 ≤ m ∧ ∀ r : Nat, r < g1 → ∀ c : Nat, c < n → p r c = q r c) ∧ (m - g1 < m - g)) _ _ _ _ _ _ _ _ _)))) ∧ ((decide ((g : Int) < (m : Int))) = false → (((true : Bool) = y1))))))))
  ⟨(fun _ _ => (fun _ _ => trivial)), (fun _ _ => (fun _ _ => trivial)), id, id, id, id, id, id, (by first | (simp; done) | (simp; omega)), fun hc19 => have hd := dims_no hc19; (decide_eq_false fun h => hd ⟨h.1, h.2.1⟩).symm, fun hc19 => have hd := dims_yes hc19; ⟨⟨0, (rf 0), (rf 0), (rf (m : Int)), zo, (rf m), (leS (mE p n) m), (rf (n : Int)), (rf k), (leS (mE q l) k), (rf (l : Int)), by omega, fun r hr => by omega⟩, fun g hg => have hg1 := hg.1; ⟨fun hc24 => have hc24 := dT hc24; have hg2 := hs hd.1 hd.2 g zo; ⟨(rf (g : Int)), zo, (rf (g : Int)), zo, (sVecSame (n := n) (m := l) (a := (fun i => p g i)) (b := (fun i => q g i)) zo hg2), fun hc37 => have hr2 := same_no hc37; (decide_eq_false fun h => hr2 ⟨h.1, fun c hc => h.2.2 g zo c hc⟩).symm, fun hc37 => have hr2 := same_yes hc37; ⟨(wI (g := g) zo), g + 1, (rf 0), (rf 0), (rf (m : Int)), zo, (rf m), (leS (mE p n) m), (rf (n : Int)), (rf k), (leS (mE q l) k), (rf (l : Int)), ⟨by omega, rows_step hg.2 hr2.2⟩, zo⟩⟩, fun hc24 => have hc24 := dF hc24; (decide_eq_true ⟨hd.1, hd.2, fun r hr => hg.2 r zo⟩).symm⟩⟩⟩
theorem sMatRows {q : Nat → Nat → Rat} {m n : Nat}  : CallOK Tryz.prog 15 [.agg (.cn (.sl 1 (mE q n) m) (.cn (.ex (.int .i64 (n : Int))) (.nl)))] (.ex (.int .i64 (m : Int))) [] := by
 exact kP (ch := []) Tryz.func15 ((∀ j0, j0 < m → (∀ j1, j1 < n → True)) ∧ (_))
  ⟨(fun _ _ => (fun _ _ => trivial)), (rf (m : Int))⟩
theorem sMatCols {q : Nat → Nat → Rat} {m n : Nat}  : CallOK Tryz.prog 31 [.agg (.cn (.sl 1 (mE q n) m) (.cn (.ex (.int .i64 (n : Int))) (.nl)))] (.ex (.int .i64 (n : Int))) [] := by
 exact kP (ch := []) Tryz.func31 ((∀ j0, j0 < m → (∀ j1, j1 < n → True)) ∧ (_))
  ⟨(fun _ _ => (fun _ _ => trivial)), (rf (n : Int))⟩
theorem sMatRow {q : Nat → Nat → Rat} {m n r : Nat} (hr : r < m) (hn : n ≤ 68719476736) : CallOK Tryz.prog 29 [.agg (.cn (.sl 1 (mE q n) m) (.cn (.ex (.int .i64 (n : Int))) (.nl))), .ex (.int .i64 (r : Int))] (.cn (.sl 3 (fun i0 => .rat (q r i0)) n) (.cn (.ex (.bool true)) (.nl))) [] := by
 exact kP (ch := [.dec 14 false, .reg 3 [(3, .k r), (5, .callS (.sl 3 (fun i0 => .rat (q r i0)) n) [])]]) Tryz.func29 ((∀ j0, j0 < m → (∀ j1, j1 < n → True)) ∧ (((decide ((r : Int) < 0)) == false) = true → ((decide ((r : Int) < 0)) == false) = true) ∧ (((decide ((r : Int) < 0)) == false) = true → ((decide ((r : Int) < 0)) == false) = true) ∧ (((decide ((r : Int) < 0)) == false) = true → ((decide ((r : Int) < 0)) == false) = true) ∧ (((decide ((r : Int) < 0)) == false) = true → ((decide ((r : Int) < 0)) == false) = true) ∧ ((!(decide ((r : Int) < 0))) = true → ((decide ((r : Int) < 0)) == false) = true) ∧ ((bif (decide ((r : Int) < 0)) then true else (decide ((m : Int) ≤ (r : Int)))) = false) ∧ _ ∧ (r < m) ∧ _ ∧ (_ ∧ _ ∧ _))
  ⟨(fun _ _ => (fun _ _ => trivial)), id, id, id, id, (by first | (simp; done) | (simp; omega)), (by simp; omega), (rf (r : Int)), zo, (sVecCopy (n := n) (q := (fun i => q r i)) zo).frzV, (rf n), (leS (fun i0 => .rat (q r i0)) n), (rf (true : Bool))⟩
theorem sMatHas {q : Nat → Nat → Rat} {m n r c : Nat} (hr : r < m) (hc : c < n) : CallOK Tryz.prog 119 [.agg (.cn (.sl 1 (mE q n) m) (.cn (.ex (.int .i64 (n : Int))) (.nl))), .ex (.int .i64 (r : Int)), .ex (.int .i64 (c : Int))] (.ex (.bool true)) [] := by
 exact kP (ch := []) Tryz.func119 (let y1 := (decide ((0 : Int) ≤ (r : Int))); let y2 := (bif y1 then (decide ((r : Int) < (m : Int))) else false); let y0 := (bif y2 then (decide ((0 : Int) ≤ (c : Int))) else false); (∀ j0, j0 < m → (∀ j1, j1 < n → True)) ∧ ((y1 == true) = true → (y1 == true) = true) ∧ ((y1 == true) = true → (y1 == true) = true) ∧ ((y1 == true) = true → (y1 == true) = true) ∧ ((y1 == true) = true → (y1 == true) = true) ∧ (y1 = true → (y1 == true) = true) ∧ ((y2 == true) = true → (y2 == true) = true) ∧ (y2 = true → (y2 == true) = true) ∧ ((y0 == true) = true → (y0 == true) = true) ∧ ((y0 == true) = true → (y0 == true) = true) ∧ ((y0 == true) = true → (y0 == true) = true) ∧ (y0 = true → (y0 == true) = true) ∧ (((bif y0 then (decide ((c : Int) < (n : Int))) else false : Bool) = true)))
  ⟨(fun _ _ => (fun _ _ => trivial)), id, id, id, id, (by first | (simp; done) | (simp; omega)), id, (by first | (simp; done) | (simp; omega)), id, id, id, (by first | (simp; done) | (simp; omega)), (by simp; omega)⟩
theorem sMatAt {q : Nat → Nat → Rat} {m n r c : Nat} (hr : r < m) (hc : c < n) : CallOK Tryz.prog 76 [.agg (.cn (.sl 1 (mE q n) m) (.cn (.ex (.int .i64 (n : Int))) (.nl))), .ex (.int .i64 (r : Int)), .ex (.int .i64 (c : Int))] (.rat (q r c)) [] := by
 exact kP (ch := [.reg 1 [(3, .callS (.ex (.bool true)) [])], .dec 11 false, .reg 3 [(3, .k r), (6, .k c)]]) Tryz.func76 ((∀ j0, j0 < m → (∀ j1, j1 < n → True)) ∧ _ ∧ ((!true) = false) ∧ _ ∧ (r < m) ∧ _ ∧ (c < n) ∧ (_))
  ⟨(fun _ _ => (fun _ _ => trivial)), sMatHas (q := q) (m := m) (n := n) (r := r) (c := c) zo zo, rfl, (rf (r : Int)), zo, (rf (c : Int)), zo, (rf (q r c : Rat))⟩
open Go.RowKit
theorem bif_true {P Q : Prop} [Decidable P] [Decidable Q] (h : (bif decide P then decide Q else false) = true) : P ∧ Q := by
 by_cases p : P
 ·exact ⟨p, by simpa [p] using h⟩
 ·simp [p] at h
theorem bif_false {P Q : Prop} [Decidable P] [Decidable Q] (h : (bif decide P then decide Q else false) = false) : ¬ (P ∧ Q) := fun ⟨p, q⟩ => by simp [p, q] at h
def padZ (g : Nat) (f : Nat → Int) (t : Nat) : Int := if t < g then f t else 0
theorem padZ_at {g : Nat} {f : Nat → Int} : padZ (g + 1) f g = f g := if_pos (Nat.lt_succ_self g)
theorem padZ_zero {t : Nat} {f : Nat → Int} : padZ 0 f t = 0 := if_neg (Nat.not_lt_zero t)
theorem padZ_wd {g t : Nat} {f : Nat → Int} (h : t < g → Wd64 (f t)) : Wd64 (padZ g f t) := by
 unfold padZ
 split
 ·rename_i k; exact h k
 ·decide
theorem padZ_end {g h t : Nat} {f : Nat → Int} (e : t < g ↔ t < h) : padZ g f t = padZ h f t := by
 unfold padZ
 by_cases k : t < g
 ·rw [if_pos k, if_pos (e.1 k)]
 ·rw [if_neg k, if_neg fun k' => k (e.2 k')]
theorem padZ_ne {g t : Nat} {f : Nat → Int} (h : t ≠ g) : padZ (g + 1) f t = padZ g f t := by
 unfold padZ
 by_cases h1 : t < g
 ·rw [if_pos h1, if_pos zo]
 ·rw [if_neg h1, if_neg zo]
theorem sRows11 {z l : Nat} {k : Nat → Nat} {p d : Nat → Nat → Int}  : CallOK Tryz.prog 45 [.agg (.cn (.ex (.int .u8 (z : Int))) (.cn (.sl 1 (fun i0 => .sl 2 (fun i1 => .agg (.cn (.ex (.int .i64 (p i0 i1))) (.cn (.ex (.int .i64 (d i0 i1))) (.nl)))) (k i0)) l) (.nl)))] (.cn (.sl 1 (fun i0 => .sl 2 (fun i1 => .agg (.cn (.ex (.int .i64 (padZ (k i0) (p i0) i1))) (.cn (.ex (.int .i64 (padZ (k i0) (d i0) i1))) (.nl)))) (z % 7)) (min l 6)) (.cn (.ex (.int .i64 ((z % 7 : Nat) : Int))) (.nl))) [] := by
 exact kP (ch := [.reg 1 [(2, .z ((z % 7 : Nat) : Int)), (3, .z ((z % 7 : Nat) : Int))], .loop 4 (Nat) (fun g => g ≤ (min l 6)) (fun g => min l 6 - g) (fun g => ⟨[(1, .own 0 0), (4, .ex (.int .i64 ((z % 7 : Nat) : Int))), (5, .own 1 0), (6, .ex (.int .i64 (g : Int)))], [(0, .one (.var 24 (.agg (.cn (.ex (.int .u8 (z : Int))) (.cn (.sl 1 (fun i0 => .sl 2 (fun i1 => .agg (.cn (.ex (.int .i64 (p i0 i1))) (.cn (.ex (.int .i64 (d i0 i1))) (.nl)))) (k i0)) l) (.nl)))))), (1, .one (.row 25 1 (fun i0 => .sl 2 (fun i1 => .agg (.cn (.ex (.int .i64 (padZ (k i0) (p i0) i1))) (.cn (.ex (.int .i64 (padZ (k i0) (d i0) i1))) (.nl)))) (z % 7)) g))], 2⟩) [(0, .id 0), (1, .nil)] (fun _ => [(0, .id 0), (1, .id 3)]) (fun g => [.reg 6 [(1, .row (z % 7) (fun i0 => .agg (.cn (.ex (.int .i64 (padZ 0 (p g) i0))) (.cn (.ex (.int .i64 (padZ 0 (d g) i0))) (.nl)))))], .loop 8 (Nat) (fun h => h ≤ z % 7 ∧ h ≤ k g) (fun h => z % 7 - h) (fun h => ⟨[(1, .own 0 0), (4, .ex (.int .i64 ((z % 7 : Nat) : Int))), (5, .own 1 0), (6, .ex (.int .i64 (g : Int))), (7, .own 2 0), (8, .ex (.int .i64 (h : Int)))], [(0, .one (.var 24 (.agg (.cn (.ex (.int .u8 (z : Int))) (.cn (.sl 1 (fun i0 => .sl 2 (fun i1 => .agg (.cn (.ex (.int .i64 (p i0 i1))) (.cn (.ex (.int .i64 (d i0 i1))) (.nl)))) (k i0)) l) (.nl)))))), (1, .one (.row 25 1 (fun i0 => .sl 2 (fun i1 => .agg (.cn (.ex (.int .i64 (padZ (k i0) (p i0) i1))) (.cn (.ex (.int .i64 (padZ (k i0) (d i0) i1))) (.nl)))) (z % 7)) g)), (2, .one (.row 98 2 (fun i0 => .agg (.cn (.ex (.int .i64 (padZ h (p g) i0))) (.cn (.ex (.int .i64 (padZ h (d g) i0))) (.nl)))) (z % 7)))], 3⟩) [(0, .id 0), (1, .id 1), (2, .id 2)] (fun _ => [(0, .id 0), (1, .id 1), (2, .id 2)]) (fun h => [.reg 8 [(8, .k g)], .reg 10 [(5, .k g), (8, .k h), (10, .k h), (11, .row 0 (fun i0 => .agg (.cn (.ex (.int .i64 (padZ (h + 1) (p g) i0))) (.cn (.ex (.int .i64 (padZ (h + 1) (d g) i0))) (.nl)))))], .reg 9 [(1, .z ((h + 1 : Nat) : Int))], .conv 11 [(0, .id 0), (1, .id 1)] ⟨[(1, .own 0 0), (4, .ex (.int .i64 ((z % 7 : Nat) : Int))), (5, .own 1 0), (6, .ex (.int .i64 (g : Int))), (7, .sl 2 (fun i0 => .agg (.cn (.ex (.int .i64 (padZ (k g) (p g) i0))) (.cn (.ex (.int .i64 (padZ (k g) (d g) i0))) (.nl)))) (z % 7))], [(0, .one (.var 24 (.agg (.cn (.ex (.int .u8 (z : Int))) (.cn (.sl 1 (fun i0 => .sl 2 (fun i1 => .agg (.cn (.ex (.int .i64 (p i0 i1))) (.cn (.ex (.int .i64 (d i0 i1))) (.nl)))) (k i0)) l) (.nl)))))), (1, .one (.row 25 1 (fun i0 => .sl 2 (fun i1 => .agg (.cn (.ex (.int .i64 (padZ (k i0) (p i0) i1))) (.cn (.ex (.int .i64 (padZ (k i0) (d i0) i1))) (.nl)))) (z % 7)) g))], 3⟩, .reg 11 [(3, .row 0 (fun i0 => .sl 2 (fun i1 => .agg (.cn (.ex (.int .i64 (padZ (k i0) (p i0) i1))) (.cn (.ex (.int .i64 (padZ (k i0) (d i0) i1))) (.nl)))) (z % 7)))], .reg 5 [(1, .z ((g + 1 : Nat) : Int))]])])]) Tryz.func45 ((∀ j0, j0 < l → (∀ j1, j1 < (k j0) → True)) ∧ ((7 : Int) ≠ 0) ∧ ((z : Int).tmod 7 = (((z % 7 : Nat) : Int))) ∧ (IntKind.wrap .i64 ((z % 7 : Nat) : Int) = (((z % 7 : Nat) : Int))) ∧ (((fun X1 X2 X3 X4 X5 X6 : Prop => ∃ g0 : Nat, X1 ∧ X2 ∧ X3 ∧ ((0 : Int) = (g0 : Int)) ∧ X4 ∧ X5 ∧ X6 ∧ ((g0 : Nat) = 0) ∧ (g0 ≤ (min l 6))) _ _ _ _ _ _) ∧ ∀ g : Nat, (g ≤ (min l 6)) → (((decide ((g : Int) < (l : Int))) == true) = true → ((decide ((g : Int) < (l : Int))) == true) = true) ∧ ((decide ((g : Int) < (l : Int))) = true → ((decide ((g : Int) < (l : Int))) == true) = true) ∧ (((bif (decide ((g : Int) < (l : Int))) then (decide ((g : Int) < 6)) else false) = true → _ ∧ _ ∧ ((z % 7) ≤ 68719476736) ∧ (∀ j0, j0 < (z % 7) → ((0 : Int) = (padZ 0 (p g) j0)) ∧ ((0 : Int) = (padZ 0 (d g) j0))) ∧ (((fun X1 X2 X3 X4 X5 X6 X7 X8 X9 X10 X11 : Prop => ∃ h0 : Nat, X1 ∧ X2 ∧ X3 ∧ X4 ∧ X5 ∧ ((0 : Int) = (h0 : Int)) ∧ X6 ∧ X7 ∧ X8 ∧ X9 ∧ X10 ∧ X11 ∧ (∀ j0, j0 < (z % 7) → ((padZ 0 (p g) j0 : Int) = (padZ h0 (p g) j0)) ∧ ((padZ 0 (d g) j0 : Int) = (padZ h0 (d g) j0))) ∧ (h0 ≤ z % 7 ∧ h0 ≤ k g)) _ _ _ _ _ _ _ _ _ _ _) ∧ ∀ h : Nat, (h ≤ z % 7 ∧ h ≤ k g) → (((decide ((h : Int) < ((z % 7 : Nat) : Int))) == true) = true → ((decide ((h : Int) < ((z % 7 : Nat) : Int))) == true) = true) ∧ (((decide ((h : Int) < ((z % 7 : Nat) : Int))) == true) = true → ((decide ((h : Int) < ((z % 7 : Nat) : Int))) == true) = true) ∧ (((decide ((h : Int) < ((z % 7 : Nat) : Int))) == true) = true → ((decide ((h : Int) < ((z % 7 : Nat) : Int))) == true) = true) ∧ (((decide ((h : Int) < ((z % 7 : Nat) : Int))) == true) = true → _) ∧ (((decide ((h : Int) < ((z % 7 : Nat) : Int))) == true) = true → g < l) ∧ (((decide ((h : Int) < ((z % 7 : Nat) : Int))) == true) = true → ((decide ((h : Int) < ((z % 7 : Nat) : Int))) == true) = true) ∧ (((decide ((h : Int) < ((z % 7 : Nat) : Int))) == true) = true → ((decide ((h : Int) < ((z % 7 : Nat) : Int))) == true) = true) ∧ (((decide ((h : Int) < ((z % 7 : Nat) : Int))) == true) = true → ((decide ((h : Int) < ((z % 7 : Nat) : Int))) == true) = true) ∧ (((decide ((h : Int) < ((z % 7 : Nat) : Int))) == true) = true → ((decide ((h : Int) < ((z % 7 : Nat) : Int))) == true) = true) ∧ ((decide ((h : Int) < ((z % 7 : Nat) : Int))) = true → ((decide ((h : Int) < ((z % 7 : Nat) : Int))) == true) = true) ∧ (((bif (decide ((h : Int) < ((z % 7 : Nat) : Int))) then (decide ((h : Int) < (k g : Int))) else false) = true → _ ∧ (g < l) ∧ _ ∧ (h < (k g)) ∧ _ ∧ (h < (z % 7)) ∧ (h < (z % 7)) ∧ (((p g h : Int) = (padZ (h + 1) (p g) h)) ∧ ((d g h : Int) = (padZ (h + 1) (d g) h))) ∧ (∀ t, t < (z % 7) → t ≠ h → (.agg (.cn (.ex (.int .i64 (padZ (h + 1) (p g) t))) (.cn (.ex (.int .i64 (padZ (h + 1) (d g) t))) (.nl))) : SV) = .agg (.cn (.ex (.int .i64 (padZ h (p g) t))) (.cn (.ex (.int .i64 (padZ h (d g) t))) (.nl)))) ∧ _ ∧ ((fun X1 X2 X3 X4 X5 X6 X7 X8 X9 X10 X11 : Prop => ∃ h1 : Nat, X1 ∧ X2 ∧ X3 ∧ X4 ∧ X5 ∧ (((h + 1 : Nat) : Int) = (h1 : Int)) ∧ X6 ∧ X7 ∧ X8 ∧ X9 ∧ X10 ∧ X11 ∧ (∀ j0, j0 < (z % 7) → ((padZ (h + 1) (p g) j0 : Int) = (padZ h1 (p g) j0)) ∧ ((padZ (h + 1) (d g) j0 : Int) = (padZ h1 (d g) j0))) ∧ (h1 ≤ z % 7 ∧ h1 ≤ k g) ∧ (z % 7 - h1 < z % 7 - h)) _ _ _ _ _ _ _ _ _ _ _)) ∧ ((bif (decide ((h : Int) < ((z % 7 : Nat) : Int))) then (decide ((h : Int) < (k g : Int))) else false) = false → _ ∧ _ ∧ _ ∧ _ ∧ _ ∧ (∀ j0, j0 < (z % 7) → ((padZ h (p g) j0 : Int) = (padZ (k g) (p g) j0)) ∧ ((padZ h (d g) j0 : Int) = (padZ (k g) (d g) j0))) ∧ _ ∧ _ ∧ _ ∧ _ ∧ _ ∧ (g + 1 ≤ 68719476736) ∧ _ ∧ _ ∧ _ ∧ ((fun X1 X2 X3 X4 X5 X6 X7 : Prop => ∃ g1 : Nat, X1 ∧ X2 ∧ X3 ∧ (((g + 1 : Nat) : Int) = (g1 : Int)) ∧ X4 ∧ X5 ∧ X6 ∧ ((g + 1 : Nat) = g1) ∧ X7 ∧ (g1 ≤ (min l 6)) ∧ (min l 6 - g1 < min l 6 - g)) _ _ _ _ _ _ _))))) ∧ ((bif (decide ((g : Int) < (l : Int))) then (decide ((g : Int) < 6)) else false) = false → (((g : Nat) = (min l 6)) ∧ _ ∧ _)))))
  ⟨(fun _ _ => (fun _ _ => trivial)), (by decide), rfl, (by rw [IntKind.wrap_i64]; omega), ⟨0, (rf 0), (rf ((z % 7 : Nat) : Int)), (rf 0), zo, (rf (z : Int)), (rf l), (leS (fun i0 => .sl 2 (fun i1 => .agg (.cn (.ex (.int .i64 (p i0 i1))) (.cn (.ex (.int .i64 (d i0 i1))) (.nl)))) (k i0)) l), zo, zo⟩, fun g hg => ⟨id, (by first | (simp; done) | (simp; omega)), fun hc21 => have hc := bif_true hc21; ⟨(rf ((z % 7 : Nat) : Int)), (rf ((z % 7 : Nat) : Int)), zo, (fun j0 hj0 => ⟨(padZ_zero).symm, (padZ_zero).symm⟩), ⟨0, (rf 0), (rf ((z % 7 : Nat) : Int)), (rf 0), (rf (g : Int)), (rf 0), zo, (rf (z : Int)), (rf l), (leS (fun i0 => .sl 2 (fun i1 => .agg (.cn (.ex (.int .i64 (p i0 i1))) (.cn (.ex (.int .i64 (d i0 i1))) (.nl)))) (k i0)) l), (rf g), (leS (fun i0 => .sl 2 (fun i1 => .agg (.cn (.ex (.int .i64 (padZ (k i0) (p i0) i1))) (.cn (.ex (.int .i64 (padZ (k i0) (d i0) i1))) (.nl)))) (z % 7)) g), (rf (z % 7 : Nat)), (fun j0 hj0 => ⟨zo, zo⟩), zo⟩, fun h hh => ⟨id, id, id, (fun hg => (rf (g : Int))), (fun hg => zo), id, id, id, id, (by first | (simp; done) | (simp; omega)), fun hc38 => have hc2 := bif_true hc38; ⟨(rf (g : Int)), zo, (rf (h : Int)), zo, (rf (h : Int)), zo, zo, ⟨(padZ_at).symm, (padZ_at).symm⟩, (fun t ht hne => by simp only [padZ_ne hne]), (wI (g := h) zo), h + 1, (rf 0), (rf ((z % 7 : Nat) : Int)), (rf 0), (rf (g : Int)), (rf 0), zo, (rf (z : Int)), (rf l), (leS (fun i0 => .sl 2 (fun i1 => .agg (.cn (.ex (.int .i64 (p i0 i1))) (.cn (.ex (.int .i64 (d i0 i1))) (.nl)))) (k i0)) l), (rf g), (leS (fun i0 => .sl 2 (fun i1 => .agg (.cn (.ex (.int .i64 (padZ (k i0) (p i0) i1))) (.cn (.ex (.int .i64 (padZ (k i0) (d i0) i1))) (.nl)))) (z % 7)) g), (rf (z % 7 : Nat)), (fun j0 hj0 => ⟨zo, zo⟩), zo, zo⟩, fun hc38 => have hi3 := bif_false hc38; ⟨(rf 0), (rf ((z % 7 : Nat) : Int)), (rf 0), (rf (g : Int)), (rf (z % 7 : Nat)), (fun j0 hj0 => ⟨(padZ_end zo), (padZ_end zo)⟩), (rf (z : Int)), (rf l), (leS (fun i0 => .sl 2 (fun i1 => .agg (.cn (.ex (.int .i64 (p i0 i1))) (.cn (.ex (.int .i64 (d i0 i1))) (.nl)))) (k i0)) l), (rf g), (leS (fun i0 => .sl 2 (fun i1 => .agg (.cn (.ex (.int .i64 (padZ (k i0) (p i0) i1))) (.cn (.ex (.int .i64 (padZ (k i0) (d i0) i1))) (.nl)))) (z % 7)) g), zo, (oldS (fun i0 => .sl 2 (fun i1 => .agg (.cn (.ex (.int .i64 (padZ (k i0) (p i0) i1))) (.cn (.ex (.int .i64 (padZ (k i0) (d i0) i1))) (.nl)))) (z % 7)) g), (newS (fun i0 => .sl 2 (fun i1 => .agg (.cn (.ex (.int .i64 (padZ (k i0) (p i0) i1))) (.cn (.ex (.int .i64 (padZ (k i0) (d i0) i1))) (.nl)))) (z % 7)) g), (wI (g := g) zo), g + 1, (rf 0), (rf ((z % 7 : Nat) : Int)), (rf 0), zo, (rf (z : Int)), (rf l), (leS (fun i0 => .sl 2 (fun i1 => .agg (.cn (.ex (.int .i64 (p i0 i1))) (.cn (.ex (.int .i64 (d i0 i1))) (.nl)))) (k i0)) l), zo, (leS (fun i0 => .sl 2 (fun i1 => .agg (.cn (.ex (.int .i64 (padZ (k i0) (p i0) i1))) (.cn (.ex (.int .i64 (padZ (k i0) (d i0) i1))) (.nl)))) (z % 7)) (g + 1)), zo, zo⟩⟩⟩, fun hc21 => have hi2 : g = min l 6 := (by have := bif_false hc21; omega); ⟨hi2, (leS (fun i0 => .sl 2 (fun i1 => .agg (.cn (.ex (.int .i64 (padZ (k i0) (p i0) i1))) (.cn (.ex (.int .i64 (padZ (k i0) (d i0) i1))) (.nl)))) (z % 7)) g), (rf ((z % 7 : Nat) : Int))⟩⟩⟩
theorem sMake11 {z l : Nat} {k : Nat → Nat} {p d : Nat → Nat → Int} (h : ∀ r, r < l → ∀ c, c < k r → Wd64 (p r c) ∧ Wd64 (d r c)) : CallOK Tryz.prog 8 [.agg (.cn (.ex (.int .u8 (z : Int))) (.cn (.sl 1 (fun i0 => .sl 2 (fun i1 => .agg (.cn (.ex (.int .i64 (p i0 i1))) (.cn (.ex (.int .i64 (d i0 i1))) (.nl)))) (k i0)) l) (.nl)))] (.agg (.cn (.sl 1 (fun i0 => .sl 3 (fun i1 => .rat (oneQ (padZ (k i0) (p i0) i1) (padZ (k i0) (d i0) i1))) (z % 7)) (min l 6)) (.cn (.ex (.int .i64 ((z % 7 : Nat) : Int))) (.nl)))) [] := by
 have hw : ∀ r, r < min l 6 → ∀ c, c < z % 7 → Wd64 (padZ (k r) (p r) c) ∧ Wd64 (padZ (k r) (d r) c) := fun r hr c _ => ⟨padZ_wd fun hc => (h r zo c hc).1, padZ_wd fun hc => (h r zo c hc).2⟩
 exact kP (ch := [.reg 1 [(1, .callS (.cn (.sl 1 (fun i0 => .sl 2 (fun i1 => .agg (.cn (.ex (.int .i64 (padZ (k i0) (p i0) i1))) (.cn (.ex (.int .i64 (padZ (k i0) (d i0) i1))) (.nl)))) (z % 7)) (min l 6)) (.cn (.ex (.int .i64 ((z % 7 : Nat) : Int))) (.nl))) [])], .loop 4 (Nat) (fun g => g ≤ (min l 6)) (fun g => min l 6 - g) (fun g => ⟨[(2, .own 1 0), (3, .sl 1 (fun i0 => .sl 2 (fun i1 => .agg (.cn (.ex (.int .i64 (padZ (k i0) (p i0) i1))) (.cn (.ex (.int .i64 (padZ (k i0) (d i0) i1))) (.nl)))) (z % 7)) (min l 6)), (4, .ex (.int .i64 ((z % 7 : Nat) : Int))), (5, .own 2 0), (6, .ex (.int .i64 (g : Int)))], [(0, .one (.var 24 (.agg (.cn (.ex (.int .u8 (z : Int))) (.cn (.sl 1 (fun i0 => .sl 2 (fun i1 => .agg (.cn (.ex (.int .i64 (p i0 i1))) (.cn (.ex (.int .i64 (d i0 i1))) (.nl)))) (k i0)) l) (.nl)))))), (1, .one (.var 29 (.ex (.agg #[.slice none 0 0, .int .i64 0])))), (2, .one (.row 40 1 (fun i0 => .sl 3 (fun i1 => .rat (oneQ (padZ (k i0) (p i0) i1) (padZ (k i0) (d i0) i1))) (z % 7)) g))], 3⟩) [(0, .id 0), (1, .id 1), (2, .nil)] (fun _ => [(0, .id 0), (1, .id 1), (2, .id 3)]) (fun g => [.reg 6 [(3, .k g), (5, .callS (.sl 3 (fun i0 => .rat (oneQ (padZ (k g) (p g) i0) (padZ (k g) (d g) i0))) (z % 7)) []), (7, .row 0 (fun i0 => .sl 3 (fun i1 => .rat (oneQ (padZ (k i0) (p i0) i1) (padZ (k i0) (d i0) i1))) (z % 7)))], .reg 5 [(1, .z ((g + 1 : Nat) : Int))], .conv 7 [(0, .id 0), (1, .id 1)] ⟨[(2, .own 1 0), (4, .ex (.int .i64 ((z % 7 : Nat) : Int))), (5, .sl 1 (fun i0 => .sl 3 (fun i1 => .rat (oneQ (padZ (k i0) (p i0) i1) (padZ (k i0) (d i0) i1))) (z % 7)) (min l 6))], [(0, .one (.var 24 (.agg (.cn (.ex (.int .u8 (z : Int))) (.cn (.sl 1 (fun i0 => .sl 2 (fun i1 => .agg (.cn (.ex (.int .i64 (p i0 i1))) (.cn (.ex (.int .i64 (d i0 i1))) (.nl)))) (k i0)) l) (.nl)))))), (1, .one (.var 29 (.ex (.agg #[.slice none 0 0, .int .i64 0]))))], 3⟩, .reg 7 [(2, .callS (.cn (.agg (.cn (.sl 1 (fun i0 => .sl 3 (fun i1 => .rat (oneQ (padZ (k i0) (p i0) i1) (padZ (k i0) (d i0) i1))) (z % 7)) (min l 6)) (.cn (.ex (.int .i64 ((z % 7 : Nat) : Int))) (.nl)))) (.cn (.ex (.bool true)) (.nl))) [])]])]) Tryz.func8 ((∀ j0, j0 < l → (∀ j1, j1 < (k j0) → True)) ∧ _ ∧ (((fun X1 X2 X3 X4 X5 X6 X7 X8 : Prop => ∃ g0 : Nat, X1 ∧ X2 ∧ X3 ∧ X4 ∧ X5 ∧ ((0 : Int) = (g0 : Int)) ∧ X6 ∧ X7 ∧ X8 ∧ ((.agg #[.slice none 0 0, .int .i64 0] : Value) = .agg #[.slice none 0 0, .int .i64 0]) ∧ ((g0 : Nat) = 0) ∧ (g0 ≤ (min l 6))) _ _ _ _ _ _ _ _) ∧ ∀ g : Nat, (g ≤ (min l 6)) → (((decide ((g : Int) < ((min l 6 : Nat) : Int))) = true → _ ∧ (g < (min l 6)) ∧ _ ∧ (g + 1 ≤ 68719476736) ∧ _ ∧ _ ∧ _ ∧ ((fun X1 X2 X3 X4 X5 X6 X7 X8 X9 : Prop => ∃ g1 : Nat, X1 ∧ X2 ∧ X3 ∧ X4 ∧ X5 ∧ (((g + 1 : Nat) : Int) = (g1 : Int)) ∧ X6 ∧ X7 ∧ X8 ∧ ((.agg #[.slice none 0 0, .int .i64 0] : Value) = .agg #[.slice none 0 0, .int .i64 0]) ∧ ((g + 1 : Nat) = g1) ∧ X9 ∧ (g1 ≤ (min l 6)) ∧ (min l 6 - g1 < min l 6 - g)) _ _ _ _ _ _ _ _ _)) ∧ ((decide ((g : Int) < ((min l 6 : Nat) : Int))) = false → _ ∧ _ ∧ ((g : Nat) = (min l 6)) ∧ _ ∧ _ ∧ _ ∧ _ ∧ ((.agg #[.slice none 0 0, .int .i64 0] : Value) = .agg #[.slice none 0 0, .int .i64 0]) ∧ _ ∧ (_ ∧ _ ∧ _)))))
  ⟨(fun _ _ => (fun _ _ => trivial)), sRows11 (z := z) (l := l) (k := k) (p := p) (d := d), ⟨0, (rf 0), (rf (min l 6 : Nat)), (leS (fun i0 => .sl 2 (fun i1 => .agg (.cn (.ex (.int .i64 (padZ (k i0) (p i0) i1))) (.cn (.ex (.int .i64 (padZ (k i0) (d i0) i1))) (.nl)))) (z % 7)) (min l 6)), (rf ((z % 7 : Nat) : Int)), (rf 0), zo, (rf (z : Int)), (rf l), (leS (fun i0 => .sl 2 (fun i1 => .agg (.cn (.ex (.int .i64 (p i0 i1))) (.cn (.ex (.int .i64 (d i0 i1))) (.nl)))) (k i0)) l), rfl, zo, zo⟩, fun g hg => ⟨fun hc17 => have hc17 := dT hc17; have hg2 := hw g zo; ⟨(rf (g : Int)), zo, (sMake (n := z % 7) (p := fun i => padZ (k g) (p g) i) (d := fun i => padZ (k g) (d g) i) zo hg2).frzV, zo, (oldS (fun i0 => .sl 3 (fun i1 => .rat (oneQ (padZ (k i0) (p i0) i1) (padZ (k i0) (d i0) i1))) (z % 7)) g), (newS (fun i0 => .sl 3 (fun i1 => .rat (oneQ (padZ (k i0) (p i0) i1) (padZ (k i0) (d i0) i1))) (z % 7)) g), (wI (g := g) zo), g + 1, (rf 0), (rf (min l 6 : Nat)), (leS (fun i0 => .sl 2 (fun i1 => .agg (.cn (.ex (.int .i64 (padZ (k i0) (p i0) i1))) (.cn (.ex (.int .i64 (padZ (k i0) (d i0) i1))) (.nl)))) (z % 7)) (min l 6)), (rf ((z % 7 : Nat) : Int)), (rf 0), zo, (rf (z : Int)), (rf l), (leS (fun i0 => .sl 2 (fun i1 => .agg (.cn (.ex (.int .i64 (p i0 i1))) (.cn (.ex (.int .i64 (d i0 i1))) (.nl)))) (k i0)) l), rfl, zo, (leS (fun i0 => .sl 3 (fun i1 => .rat (oneQ (padZ (k i0) (p i0) i1) (padZ (k i0) (d i0) i1))) (z % 7)) (g + 1)), zo, zo⟩, fun hc17 => have hc17 := dF hc17; have hi2 : g = min l 6 := zo; ⟨(rf 0), (rf ((z % 7 : Nat) : Int)), hi2, (leS (fun i0 => .sl 3 (fun i1 => .rat (oneQ (padZ (k i0) (p i0) i1) (padZ (k i0) (d i0) i1))) (z % 7)) g), (rf (z : Int)), (rf l), (leS (fun i0 => .sl 2 (fun i1 => .agg (.cn (.ex (.int .i64 (p i0 i1))) (.cn (.ex (.int .i64 (d i0 i1))) (.nl)))) (k i0)) l), rfl, (sMatOf (m := min l 6) (n := z % 7) (q := fun r c => oneQ (padZ (k r) (p r) c) (padZ (k r) (d r) c)) zo zo), (rf (min l 6 : Nat)), (leS (fun i0 => .sl 3 (fun i1 => .rat (oneQ (padZ (k i0) (p i0) i1) (padZ (k i0) (d i0) i1))) (z % 7)) (min l 6)), (rf ((z % 7 : Nat) : Int))⟩⟩⟩
open Go.RowKit
def gQ (k : Nat → Nat) (p d : Nat → Nat → Int) (r c : Nat) : Rat := oneQ (padZ (k r) (p r) c) (padZ (k r) (d r) c)
theorem gQ_sz {l : Nat} {k : Nat → Nat} {p d : Nat → Nat → Int} (h : ∀ r, r < l → ∀ c, c < k r → Wd64 (p r c) ∧ Wd64 (d r c)) {r c : Nat} (hr : r < min l 6) : szq (gQ k p d r c) ≤ 2 :=
 szq_one (padZ_wd fun hc => (h r zo c hc).1) (padZ_wd fun hc => (h r zo c hc).2)
open Go.RowKit
theorem sRCol {q : Nat → Nat → Rat} {m n c : Nat} (hm : m ≤ 68719476736) (hc : c < n) : CallOK Tryz.prog 55 [.agg (.cn (.sl 1 (fun i0 => .sl 3 (fun i1 => .qt (q i0 i1)) n) m) (.cn (.ex (.int .i64 (n : Int))) (.nl))), .ex (.int .i64 (c : Int))] (.sl 3 (fun i0 => .qt (q i0 c)) m) [] := by
 exact kP (ch := [.loop 3 (Nat) (fun g => g ≤ m) (fun g => m - g) (fun g => ⟨[(1, .ex (.int .i64 (c : Int))), (2, .own 0 0), (5, .own 1 0), (6, .ex (.int .i64 (g : Int)))], [(0, .one (.var 34 (.agg (.cn (.sl 1 (fun i0 => .sl 3 (fun i1 => .qt (q i0 i1)) n) m) (.cn (.ex (.int .i64 (n : Int))) (.nl)))))), (1, .one (.row 56 3 (fun i0 => .qt (q i0 c)) g))], 2⟩) [(0, .id 0), (1, .nil)] (fun _ => [(0, .id 0), (1, .id 2)]) (fun g => [.reg 5 [(4, .k g), (7, .k c), (10, .row 0 (fun i0 => .qt (q i0 c)))], .reg 4 [(1, .z ((g + 1 : Nat) : Int))]])]) Tryz.func55 ((∀ j0, j0 < m → (∀ j1, j1 < n → (∀ j2, j2 < (nd (((q j0 j1).num).natAbs)) → True) ∧ (∀ j2, j2 < (nd ((q j0 j1).den)) → True))) ∧ (((fun X1 X2 X3 X4 X5 X6 : Prop => ∃ g0 : Nat, X1 ∧ X2 ∧ X3 ∧ ((0 : Int) = (g0 : Int)) ∧ X4 ∧ X5 ∧ X6 ∧ ((g0 : Nat) = 0) ∧ (g0 ≤ m)) _ _ _ _ _ _) ∧ ∀ g : Nat, (g ≤ m) → (((decide ((g : Int) < (m : Int))) = true → _ ∧ (g < m) ∧ _ ∧ (c < n) ∧ (g + 1 ≤ 68719476736) ∧ _ ∧ _ ∧ _ ∧ ((fun X1 X2 X3 X4 X5 X6 X7 : Prop => ∃ g1 : Nat, X1 ∧ X2 ∧ X3 ∧ (((g + 1 : Nat) : Int) = (g1 : Int)) ∧ X4 ∧ X5 ∧ X6 ∧ ((g + 1 : Nat) = g1) ∧ X7 ∧ (g1 ≤ m) ∧ (m - g1 < m - g)) _ _ _ _ _ _ _)) ∧ ((decide ((g : Int) < (m : Int))) = false → (((g : Nat) = m) ∧ _)))))
  ⟨(fun _ _ => (fun _ _ => ⟨(fun _ _ => trivial), (fun _ _ => trivial)⟩)), ⟨0, (rf (c : Int)), (rf 0), (rf 0), zo, (rf m), (leS (fun i0 => .sl 3 (fun i1 => .qt (q i0 i1)) n) m), (rf (n : Int)), zo, zo⟩, fun g hg => ⟨fun hc11 => have hc11 := dT hc11; ⟨(rf (g : Int)), zo, (rf (c : Int)), zo, zo, (oldS (fun i0 => .qt (q i0 c)) g), (newS (fun i0 => .qt (q i0 c)) g), (wI (g := g) zo), g + 1, (rf (c : Int)), (rf 0), (rf 0), zo, (rf m), (leS (fun i0 => .sl 3 (fun i1 => .qt (q i0 i1)) n) m), (rf (n : Int)), zo, (leS (fun i0 => .qt (q i0 c)) (g + 1)), zo, zo⟩, fun hc11 => have hc11 := dF hc11; have hi2 : g = m := zo; ⟨hi2, (leS (fun i0 => .qt (q i0 c)) g)⟩⟩⟩
theorem sRTurned {q : Nat → Nat → Rat} {m n : Nat} (hm : m ≤ 68719476736) (hn : n ≤ 68719476736) : CallOK Tryz.prog 19 [.agg (.cn (.sl 1 (fun i0 => .sl 3 (fun i1 => .qt (q i0 i1)) n) m) (.cn (.ex (.int .i64 (n : Int))) (.nl)))] (.agg (.cn (.sl 1 (fun i0 => .sl 3 (fun i1 => .qt (q i1 i0)) m) n) (.cn (.ex (.int .i64 (m : Int))) (.nl)))) [] := by
 exact kP (ch := [.loop 3 (Nat) (fun g => g ≤ n) (fun g => n - g) (fun g => ⟨[(1, .own 0 0), (2, .own 1 0), (3, .own 2 0), (4, .ex (.int .i64 (g : Int)))], [(0, .one (.var 34 (.agg (.cn (.sl 1 (fun i0 => .sl 3 (fun i1 => .qt (q i0 i1)) n) m) (.cn (.ex (.int .i64 (n : Int))) (.nl)))))), (1, .one (.var 34 (.ex (.agg #[.slice none 0 0, .int .i64 0])))), (2, .one (.var 34 (.agg (.cn (.own 3 0) (.cn (.ex (.int .i64 (m : Int))) (.nl)))))), (3, .one (.row 46 1 (fun i0 => .sl 3 (fun i1 => .qt (q i1 i0)) m) g))], 4⟩) [(0, .id 0), (1, .id 1), (2, .id 2), (3, .nil)] (fun _ => [(0, .id 0), (1, .id 1), (2, .id 2), (3, .id 4)]) (fun g => [.reg 5 [(4, .callS (.sl 3 (fun i0 => .qt (q i0 g)) m) []), (6, .row 0 (fun i0 => .sl 3 (fun i1 => .qt (q i1 i0)) m))], .reg 4 [(1, .z ((g + 1 : Nat) : Int))]])]) Tryz.func19 ((∀ j0, j0 < m → (∀ j1, j1 < n → (∀ j2, j2 < (nd (((q j0 j1).num).natAbs)) → True) ∧ (∀ j2, j2 < (nd ((q j0 j1).den)) → True))) ∧ (((fun X1 X2 X3 X4 X5 X6 X7 X8 : Prop => ∃ g0 : Nat, X1 ∧ X2 ∧ X3 ∧ ((0 : Int) = (g0 : Int)) ∧ X4 ∧ X5 ∧ X6 ∧ ((.agg #[.slice none 0 0, .int .i64 0] : Value) = .agg #[.slice none 0 0, .int .i64 0]) ∧ X7 ∧ X8 ∧ ((g0 : Nat) = 0) ∧ (g0 ≤ n)) _ _ _ _ _ _ _ _) ∧ ∀ g : Nat, (g ≤ n) → (((decide ((g : Int) < (n : Int))) = true → (CallOK Tryz.prog 55 [.agg (.cn (.sl 1 (fun i0 => .sl 3 (fun i1 => .qt (q i0 i1)) n) m) (.cn (.ex (.int .i64 (n : Int))) (.nl))), .ex (.int .i64 (g : Int))] (.sl 3 (fun i0 => .qt (q i0 g)) m) []) ∧ (g + 1 ≤ 68719476736) ∧ _ ∧ _ ∧ _ ∧ ((fun X1 X2 X3 X4 X5 X6 X7 X8 X9 : Prop => ∃ g1 : Nat, X1 ∧ X2 ∧ X3 ∧ (((g + 1 : Nat) : Int) = (g1 : Int)) ∧ X4 ∧ X5 ∧ X6 ∧ ((.agg #[.slice none 0 0, .int .i64 0] : Value) = .agg #[.slice none 0 0, .int .i64 0]) ∧ X7 ∧ X8 ∧ ((g + 1 : Nat) = g1) ∧ X9 ∧ (g1 ≤ n) ∧ (n - g1 < n - g)) _ _ _ _ _ _ _ _ _)) ∧ ((decide ((g : Int) < (n : Int))) = false → (((g : Nat) = n) ∧ _ ∧ _)))))
  ⟨(fun _ _ => (fun _ _ => ⟨(fun _ _ => trivial), (fun _ _ => trivial)⟩)), ⟨0, (rf 0), (rf 0), (rf 0), zo, (rf m), (leS (fun i0 => .sl 3 (fun i1 => .qt (q i0 i1)) n) m), (rf (n : Int)), rfl, (rf 0), (rf (m : Int)), zo, zo⟩, fun g hg => ⟨fun hc12 => have hc12 := dT hc12; ⟨sRCol (q := q) zo zo, zo, (oldS (fun i0 => .sl 3 (fun i1 => .qt (q i1 i0)) m) g), (newS (fun i0 => .sl 3 (fun i1 => .qt (q i1 i0)) m) g), (wI (g := g) zo), g + 1, (rf 0), (rf 0), (rf 0), zo, (rf m), (leS (fun i0 => .sl 3 (fun i1 => .qt (q i0 i1)) n) m), (rf (n : Int)), rfl, (rf 0), (rf (m : Int)), zo, (leS (fun i0 => .sl 3 (fun i1 => .qt (q i1 i0)) m) (g + 1)), zo, zo⟩, fun hc12 => have hc12 := dF hc12; have hi2 : g = n := zo; ⟨zo, (leS (fun i0 => .sl 3 (fun i1 => .qt (q i1 i0)) m) g), (rf (m : Int))⟩⟩⟩
theorem sRef11 {z l : Nat} {k : Nat → Nat} {p d : Nat → Nat → Int} (h : ∀ r, r < l → ∀ c, c < k r → Wd64 (p r c) ∧ Wd64 (d r c)) : CallOK Tryz.prog 10 [.agg (.cn (.ex (.int .u8 (z : Int))) (.cn (.sl 1 (fun i0 => .sl 2 (fun i1 => .agg (.cn (.ex (.int .i64 (p i0 i1))) (.cn (.ex (.int .i64 (d i0 i1))) (.nl)))) (k i0)) l) (.nl)))] (.agg (.cn (.sl 1 (fun i0 => .sl 3 (fun i1 => .qt (oneQ (padZ (k i0) (p i0) i1) (padZ (k i0) (d i0) i1))) (z % 7)) (min l 6)) (.cn (.ex (.int .i64 ((z % 7 : Nat) : Int))) (.nl)))) [] := by
 have hw : ∀ r, r < min l 6 → ∀ c, c < z % 7 → Wd64 (padZ (k r) (p r) c) ∧ Wd64 (padZ (k r) (d r) c) := fun r hr c _ => ⟨padZ_wd fun hc => (h r zo c hc).1, padZ_wd fun hc => (h r zo c hc).2⟩
 exact kP (ch := [.reg 1 [(1, .callS (.cn (.sl 1 (fun i0 => .sl 2 (fun i1 => .agg (.cn (.ex (.int .i64 (padZ (k i0) (p i0) i1))) (.cn (.ex (.int .i64 (padZ (k i0) (d i0) i1))) (.nl)))) (z % 7)) (min l 6)) (.cn (.ex (.int .i64 ((z % 7 : Nat) : Int))) (.nl))) [])], .loop 4 (Nat) (fun g => g ≤ (min l 6)) (fun g => min l 6 - g) (fun g => ⟨[(2, .own 1 0), (3, .sl 1 (fun i0 => .sl 2 (fun i1 => .agg (.cn (.ex (.int .i64 (padZ (k i0) (p i0) i1))) (.cn (.ex (.int .i64 (padZ (k i0) (d i0) i1))) (.nl)))) (z % 7)) (min l 6)), (5, .own 2 0), (6, .ex (.int .i64 (g : Int)))], [(0, .one (.var 24 (.agg (.cn (.ex (.int .u8 (z : Int))) (.cn (.sl 1 (fun i0 => .sl 2 (fun i1 => .agg (.cn (.ex (.int .i64 (p i0 i1))) (.cn (.ex (.int .i64 (d i0 i1))) (.nl)))) (k i0)) l) (.nl)))))), (1, .one (.var 34 (.ex (.agg #[.slice none 0 0, .int .i64 0])))), (2, .one (.var 34 (.agg (.cn (.own 3 0) (.cn (.ex (.int .i64 ((z % 7 : Nat) : Int))) (.nl)))))), (3, .one (.row 46 1 (fun i0 => .sl 3 (fun i1 => .qt (oneQ (padZ (k i0) (p i0) i1) (padZ (k i0) (d i0) i1))) (z % 7)) g))], 4⟩) [(0, .id 0), (1, .id 1), (2, .id 2), (3, .nil)] (fun _ => [(0, .id 0), (1, .id 1), (2, .id 2), (3, .id 4)]) (fun g => [.reg 6 [(4, .k g), (6, .callS (.sl 3 (fun i0 => .qt (oneQ (padZ (k g) (p g) i0) (padZ (k g) (d g) i0))) (z % 7)) []), (8, .row 0 (fun i0 => .sl 3 (fun i1 => .qt (oneQ (padZ (k i0) (p i0) i1) (padZ (k i0) (d i0) i1))) (z % 7)))], .reg 5 [(1, .z ((g + 1 : Nat) : Int))]])]) Tryz.func10 ((∀ j0, j0 < l → (∀ j1, j1 < (k j0) → True)) ∧ _ ∧ (((fun X1 X2 X3 X4 X5 X6 X7 X8 X9 : Prop => ∃ g0 : Nat, X1 ∧ X2 ∧ X3 ∧ X4 ∧ ((0 : Int) = (g0 : Int)) ∧ X5 ∧ X6 ∧ X7 ∧ ((.agg #[.slice none 0 0, .int .i64 0] : Value) = .agg #[.slice none 0 0, .int .i64 0]) ∧ X8 ∧ X9 ∧ ((g0 : Nat) = 0) ∧ (g0 ≤ (min l 6))) _ _ _ _ _ _ _ _ _) ∧ ∀ g : Nat, (g ≤ (min l 6)) → (((decide ((g : Int) < ((min l 6 : Nat) : Int))) = true → _ ∧ (g < (min l 6)) ∧ _ ∧ (g + 1 ≤ 68719476736) ∧ _ ∧ _ ∧ _ ∧ ((fun X1 X2 X3 X4 X5 X6 X7 X8 X9 X10 : Prop => ∃ g1 : Nat, X1 ∧ X2 ∧ X3 ∧ X4 ∧ (((g + 1 : Nat) : Int) = (g1 : Int)) ∧ X5 ∧ X6 ∧ X7 ∧ ((.agg #[.slice none 0 0, .int .i64 0] : Value) = .agg #[.slice none 0 0, .int .i64 0]) ∧ X8 ∧ X9 ∧ ((g + 1 : Nat) = g1) ∧ X10 ∧ (g1 ≤ (min l 6)) ∧ (min l 6 - g1 < min l 6 - g)) _ _ _ _ _ _ _ _ _ _)) ∧ ((decide ((g : Int) < ((min l 6 : Nat) : Int))) = false → (((g : Nat) = (min l 6)) ∧ _ ∧ _)))))
  ⟨(fun _ _ => (fun _ _ => trivial)), sRows11 (z := z) (l := l) (k := k) (p := p) (d := d), ⟨0, (rf 0), (rf (min l 6 : Nat)), (leS (fun i0 => .sl 2 (fun i1 => .agg (.cn (.ex (.int .i64 (padZ (k i0) (p i0) i1))) (.cn (.ex (.int .i64 (padZ (k i0) (d i0) i1))) (.nl)))) (z % 7)) (min l 6)), (rf 0), zo, (rf (z : Int)), (rf l), (leS (fun i0 => .sl 2 (fun i1 => .agg (.cn (.ex (.int .i64 (p i0 i1))) (.cn (.ex (.int .i64 (d i0 i1))) (.nl)))) (k i0)) l), rfl, (rf 0), (rf ((z % 7 : Nat) : Int)), zo, zo⟩, fun g hg => ⟨fun hc17 => have hc17 := dT hc17; have hg2 := hw g zo; ⟨(rf (g : Int)), zo, sRef10 (n := z % 7) (p := fun i => padZ (k g) (p g) i) (d := fun i => padZ (k g) (d g) i) zo hg2, zo, (oldS (fun i0 => .sl 3 (fun i1 => .qt (oneQ (padZ (k i0) (p i0) i1) (padZ (k i0) (d i0) i1))) (z % 7)) g), (newS (fun i0 => .sl 3 (fun i1 => .qt (oneQ (padZ (k i0) (p i0) i1) (padZ (k i0) (d i0) i1))) (z % 7)) g), (wI (g := g) zo), g + 1, (rf 0), (rf (min l 6 : Nat)), (leS (fun i0 => .sl 2 (fun i1 => .agg (.cn (.ex (.int .i64 (padZ (k i0) (p i0) i1))) (.cn (.ex (.int .i64 (padZ (k i0) (d i0) i1))) (.nl)))) (z % 7)) (min l 6)), (rf 0), zo, (rf (z : Int)), (rf l), (leS (fun i0 => .sl 2 (fun i1 => .agg (.cn (.ex (.int .i64 (p i0 i1))) (.cn (.ex (.int .i64 (d i0 i1))) (.nl)))) (k i0)) l), rfl, (rf 0), (rf ((z % 7 : Nat) : Int)), zo, (leS (fun i0 => .sl 3 (fun i1 => .qt (oneQ (padZ (k i0) (p i0) i1) (padZ (k i0) (d i0) i1))) (z % 7)) (g + 1)), zo, zo⟩, fun hc17 => have hc17 := dF hc17; have hi2 : g = min l 6 := zo; ⟨hi2, (leS (fun i0 => .sl 3 (fun i1 => .qt (oneQ (padZ (k i0) (p i0) i1) (padZ (k i0) (d i0) i1))) (z % 7)) g), (rf ((z % 7 : Nat) : Int))⟩⟩⟩
def sumQ (f : Nat → Rat) : Nat → Rat
 | 0 => 0
 | n + 1 => sumQ f n + f n
theorem sumQ_congr {f g : Nat → Rat} : ∀ n, (∀ i, i < n → f i = g i) → sumQ f n = sumQ g n
 | 0, _ => rfl
 | n + 1, h => by show sumQ f n + f n = sumQ g n + g n; rw [sumQ_congr n fun i hi => h i zo, h n zo]
theorem sumQ_add (f g : Nat → Rat) : ∀ n, sumQ (fun i => f i + g i) n = sumQ f n + sumQ g n
 | 0 => by show (0 : Rat) = 0 + 0; grind
 | n + 1 => by show sumQ (fun i => f i + g i) n + (f n + g n) = _ + f n + (_ + g n); rw [sumQ_add f g n]; grind
theorem sumQ_mul (t : Rat) (f : Nat → Rat) : ∀ n, sumQ (fun i => t * f i) n = t * sumQ f n
 | 0 => by show (0 : Rat) = t * 0; grind
 | n + 1 => by show sumQ (fun i => t * f i) n + t * f n = t * (_ + f n); rw [sumQ_mul t f n]; grind
theorem sumQ_zero : ∀ n, sumQ (fun _ => 0) n = 0
 | 0 => rfl
 | n + 1 => by show sumQ (fun _ => 0) n + 0 = 0; rw [sumQ_zero n]; grind
theorem sumQ_head (f : Nat → Rat) : ∀ n, sumQ f (n + 1) = f 0 + sumQ (fun i => f (i + 1)) n
 | 0 => by show (0 : Rat) + f 0 = f 0 + 0; grind
 | n + 1 => by show sumQ f (n + 1) + f (n + 1) = f 0 + (sumQ (fun i => f (i + 1)) n + f (n + 1)); rw [sumQ_head f n]; grind
theorem sumQ_comm (f : Nat → Nat → Rat) (m : Nat) : ∀ n, sumQ (fun i => sumQ (f i) m) n = sumQ (fun j => sumQ (fun i => f i j) n) m
 | 0 => by show 0 = sumQ (fun _ => 0) m; rw [sumQ_zero]
 | n + 1 => by
  show sumQ (fun i => sumQ (f i) m) n + sumQ (f n) m = sumQ (fun j => sumQ (fun i => f i j) n + f n j) m
  rw [sumQ_comm f m n, sumQ_add]
theorem sumQ_one {f : Nat → Rat} {k : Nat} : ∀ n, k < n → (∀ i, i < n → i ≠ k → f i = 0) → sumQ f n = f k
 | 0, h, _ => absurd h (Nat.not_lt_zero k)
 | n + 1, h, hz => by
  show sumQ f n + f n = f k
  by_cases e : k = n
  ·subst e
   rw [sumQ_congr k (g := fun _ => 0) (fun i hi => hz i zo zo), sumQ_zero]; grind
  ·rw [sumQ_one n zo (fun i hi => hz i zo), hz n zo zo]; grind
def sgn : Nat → Rat
 | 0 => 1
 | n + 1 => - sgn n
def skp (k i : Nat) : Nat := if i < k then i else i + 1
def minor (A : Nat → Nat → Rat) (r c : Nat) : Nat → Nat → Rat := fun i j => A (skp r i) (skp c j)
def trM (A : Nat → Nat → Rat) : Nat → Nat → Rat := fun i j => A j i
def det : Nat → (Nat → Nat → Rat) → Rat
 | 0, _ => 1
 | n + 1, A => sumQ (fun c => sgn c * A 0 c * det n (minor A 0 c)) (n + 1)
def cdet : Nat → (Nat → Nat → Rat) → Rat
 | 0, _ => 1
 | n + 1, A => sumQ (fun r => sgn r * A r 0 * cdet n (minor A r 0)) (n + 1)
theorem skp_lt {k i n : Nat} (hi : i < n) : skp k i < n + 1 := by unfold skp; split <;> omega
theorem det_congr : ∀ n {A B : Nat → Nat → Rat}, (∀ i, i < n → ∀ j, j < n → A i j = B i j) → det n A = det n B
 | 0, _, _, _ => rfl
 | n + 1, A, B, h => sumQ_congr _ fun c hc => by
  rw [h 0 zo c hc, det_congr n (A := minor A 0 c) (B := minor B 0 c) fun i hi j hj => h _ (skp_lt hi) _ (skp_lt hj)]
theorem cdet_congr : ∀ n {A B : Nat → Nat → Rat}, (∀ i, i < n → ∀ j, j < n → A i j = B i j) → cdet n A = cdet n B
 | 0, _, _, _ => rfl
 | n + 1, A, B, h => sumQ_congr _ fun c hc => by
  rw [h c hc 0 zo, cdet_congr n (A := minor A c 0) (B := minor B c 0) fun i hi j hj => h _ (skp_lt hi) _ (skp_lt hj)]
theorem det_tr : ∀ n (A : Nat → Nat → Rat), det n (trM A) = cdet n A
 | 0, _ => rfl
 | n + 1, A => sumQ_congr _ fun c _ => by
  show sgn c * A c 0 * det n (minor (trM A) 0 c) = _
  rw [← det_tr n (minor A c 0)]; rfl
theorem minor_minor (A : Nat → Nat → Rat) (r c : Nat) : minor (minor A 0 (c + 1)) r 0 = minor (minor A (r + 1) 0) 0 c := by
 funext i j
 show A (skp 0 (skp r i)) (skp (c + 1) (skp 0 j)) = A (skp (r + 1) (skp 0 i)) (skp 0 (skp c j))
 have e1 : skp 0 (skp r i) = skp (r + 1) (skp 0 i) := by unfold skp; repeat (first | split | omega)
 have e2 : skp (c + 1) (skp 0 j) = skp 0 (skp c j) := by unfold skp; repeat (first | split | omega)
 rw [e1, e2]
theorem det_cdet : ∀ n (A : Nat → Nat → Rat), det n A = cdet n A
 | 0, _ => rfl
 | 1, A => by show (0 : Rat) + sgn 0 * A 0 0 * 1 = 0 + sgn 0 * A 0 0 * 1; rfl
 | n + 2, A => by
  refine (sumQ_head (fun c => sgn c * A 0 c * det (n + 1) (minor A 0 c)) (n + 1)).trans (Eq.trans ?_ (sumQ_head (fun r => sgn r * A r 0 * cdet (n + 1) (minor A r 0)) (n + 1)).symm)
  show sgn 0 * A 0 0 * det (n + 1) (minor A 0 0) + _ = sgn 0 * A 0 0 * cdet (n + 1) (minor A 0 0) + _
  rw [det_cdet (n + 1) (minor A 0 0)]
  congr 1
  have h1 : ∀ c, c < n + 1 → sgn (c + 1) * A 0 (c + 1) * det (n + 1) (minor A 0 (c + 1)) = sumQ (fun r => sgn (c + 1) * sgn r * A 0 (c + 1) * A (r + 1) 0 * det n (minor (minor A 0 (c + 1)) r 0)) (n + 1) := fun c _ => by
   rw [det_cdet (n + 1) (minor A 0 (c + 1))]
   show _ * sumQ _ (n + 1) = _
   rw [← sumQ_mul]
   refine sumQ_congr _ fun r _ => ?_
   rw [← det_cdet n]
   show sgn (c + 1) * A 0 (c + 1) * (sgn r * A (skp 0 r) (skp (c + 1) 0) * _) = _
   have e1 : skp 0 r = r + 1 := by unfold skp; rw [if_neg (Nat.not_lt_zero r)]
   have e2 : skp (c + 1) 0 = 0 := by unfold skp; rw [if_pos (Nat.succ_pos c)]
   rw [e1, e2]; grind
  have h2 : ∀ r, r < n + 1 → sgn (r + 1) * A (r + 1) 0 * cdet (n + 1) (minor A (r + 1) 0) = sumQ (fun c => sgn (c + 1) * sgn r * A 0 (c + 1) * A (r + 1) 0 * det n (minor (minor A 0 (c + 1)) r 0)) (n + 1) := fun r _ => by
   rw [← det_cdet (n + 1) (minor A (r + 1) 0)]
   show _ * sumQ _ (n + 1) = _
   rw [← sumQ_mul]
   refine sumQ_congr _ fun c _ => ?_
   rw [minor_minor]
   show sgn (r + 1) * A (r + 1) 0 * (sgn c * A (skp (r + 1) 0) (skp 0 c) * _) = _
   have e1 : skp 0 c = c + 1 := by unfold skp; rw [if_neg (Nat.not_lt_zero c)]
   have e2 : skp (r + 1) 0 = 0 := by unfold skp; rw [if_pos (Nat.succ_pos r)]
   rw [e1, e2]
   show (- sgn r) * _ * _ = (- sgn c) * _ * _ * _ * _
   grind
  exact (sumQ_congr _ h1).trans ((sumQ_comm _ _ _).trans (sumQ_congr _ h2).symm)
def setR (A : Nat → Nat → Rat) (r : Nat) (x : Nat → Rat) : Nat → Nat → Rat := fun i j => if i = r then x j else A i j
def unsk (k i : Nat) : Nat := if i < k then i else i - 1
theorem minor_setR_self (A : Nat → Nat → Rat) (r : Nat) (x : Nat → Rat) (c : Nat) : minor (setR A r x) r c = minor A r c := by
 funext i j
 show (if skp r i = r then _ else _) = _
 rw [if_neg (by unfold skp; split <;> omega)]; rfl
theorem minor_setR (A : Nat → Nat → Rat) {r i : Nat} (h : i ≠ r) (x : Nat → Rat) (c : Nat) : minor (setR A r x) i c = setR (minor A i c) (unsk i r) (fun j => x (skp c j)) := by
 funext k j
 show (if skp i k = r then _ else _) = (if k = unsk i r then _ else _)
 have e : skp i k = r ↔ k = unsk i r := by unfold skp unsk; split <;> split <;> omega
 by_cases q : skp i k = r
 ·rw [if_pos q, if_pos (e.1 q)]
 ·rw [if_neg q, if_neg fun q' => q (e.2 q')]; rfl
theorem cdet_lin : ∀ n (A : Nat → Nat → Rat) (r : Nat) (x y : Nat → Rat) (s t : Rat), r < n → cdet n (setR A r (fun j => s * x j + t * y j)) = s * cdet n (setR A r x) + t * cdet n (setR A r y)
 | 0, _, _, _, _, _, _, h => absurd h (Nat.not_lt_zero _)
 | n + 1, A, r, x, y, s, t, h => by
  show sumQ _ (n + 1) = s * sumQ _ (n + 1) + t * sumQ _ (n + 1)
  rw [← sumQ_mul, ← sumQ_mul, ← sumQ_add]
  refine sumQ_congr _ fun i hi => ?_
  by_cases e : i = r
  ·subst e
   rw [minor_setR_self, minor_setR_self, minor_setR_self]
   show sgn i * (if i = i then _ else _) * _ = s * (sgn i * (if i = i then _ else _) * _) + t * (sgn i * (if i = i then _ else _) * _)
   rw [if_pos rfl, if_pos rfl, if_pos rfl]; grind
  ·rw [minor_setR A e, minor_setR A e, minor_setR A e, cdet_lin n _ _ (fun j => x (skp 0 j)) (fun j => y (skp 0 j)) s t (by unfold unsk; split <;> omega)]
   show sgn i * (if i = r then _ else _) * _ = s * (sgn i * (if i = r then _ else _) * _) + t * (sgn i * (if i = r then _ else _) * _)
   rw [if_neg e, if_neg e, if_neg e]; grind
def swapR (A : Nat → Nat → Rat) (k l : Nat) : Nat → Nat → Rat := fun i j => A (if i = k then l else if i = l then k else i) j
theorem cdet_adj : ∀ n (A : Nat → Nat → Rat) (k : Nat), k + 1 < n → cdet n (swapR A k (k + 1)) = - cdet n A
 | 0, _, _, h => absurd h (Nat.not_lt_zero _)
 | n + 1, A, k, h => by
  show sumQ _ (n + 1) = - sumQ _ (n + 1)
  have e : ∀ f : Nat → Rat, - sumQ f (n + 1) = (-1 : Rat) * sumQ f (n + 1) := fun f => by grind
  rw [e, ← sumQ_mul]
  have key : ∀ i, i < n + 1 → (fun r => sgn r * swapR A k (k + 1) r 0 * cdet n (minor (swapR A k (k + 1)) r 0)) i = (-1 : Rat) * (fun r => sgn r * A r 0 * cdet n (minor A r 0)) (if i = k then k + 1 else if i = k + 1 then k else i) := fun i hi => by
   by_cases h1 : i = k
   ·subst h1
    rw [if_pos rfl]
    show sgn i * A (if i = i then i + 1 else _) 0 * cdet n (minor (swapR A i (i + 1)) i 0) = -1 * ((- sgn i) * A (i + 1) 0 * cdet n (minor A (i + 1) 0))
    rw [if_pos rfl]
    have : minor (swapR A i (i + 1)) i 0 = minor A (i + 1) 0 := by
     funext a b
     show A (if skp i a = i then i + 1 else if skp i a = i + 1 then i else skp i a) _ = A (skp (i + 1) a) _
     congr 1
     unfold skp; repeat (first | split | omega)
    rw [this]; grind
   ·by_cases h2 : i = k + 1
    ·subst h2
     rw [if_neg h1, if_pos rfl]
     show (- sgn k) * A (if k + 1 = k then k + 1 else if k + 1 = k + 1 then k else _) 0 * cdet n (minor (swapR A k (k + 1)) (k + 1) 0) = -1 * (sgn k * A k 0 * cdet n (minor A k 0))
     rw [if_neg h1, if_pos rfl]
     have : minor (swapR A k (k + 1)) (k + 1) 0 = minor A k 0 := by
      funext a b
      show A (if skp (k + 1) a = k then k + 1 else if skp (k + 1) a = k + 1 then k else skp (k + 1) a) _ = A (skp k a) _
      congr 1
      unfold skp; repeat (first | split | omega)
     rw [this]; grind
    ·rw [if_neg h1, if_neg h2]
     show sgn i * A (if i = k then k + 1 else if i = k + 1 then k else i) 0 * cdet n (minor (swapR A k (k + 1)) i 0) = -1 * (sgn i * A i 0 * cdet n (minor A i 0))
     rw [if_neg h1, if_neg h2]
     have : minor (swapR A k (k + 1)) i 0 = swapR (minor A i 0) (unsk i k) (unsk i k + 1) := by
      funext a b
      show A (if skp i a = k then k + 1 else if skp i a = k + 1 then k else skp i a) _ = A (skp i (if a = unsk i k then unsk i k + 1 else if a = unsk i k + 1 then unsk i k else a)) _
      congr 1
      unfold skp unsk; repeat (first | split | omega)
     rw [this, cdet_adj n (minor A i 0) (unsk i k) (by unfold unsk; split <;> omega)]; grind
  rw [sumQ_congr _ key]
  show sumQ (fun i => (-1 : Rat) * (fun r => sgn r * A r 0 * cdet n (minor A r 0)) (if i = k then k + 1 else if i = k + 1 then k else i)) (n + 1) = _
  rw [sumQ_mul, sumQ_mul]
  congr 1
  exact sumQ_swap (fun r => sgn r * A r 0 * cdet n (minor A r 0)) _ h
where sumQ_swap (f : Nat → Rat) {k : Nat} : ∀ n, k + 1 < n → sumQ (fun i => f (if i = k then k + 1 else if i = k + 1 then k else i)) n = sumQ f n
 | 0, h => absurd h (Nat.not_lt_zero _)
 | n + 1, h => by
  by_cases e : k + 1 = n
  ·subst e
   show sumQ _ k + f (if k = k then _ else _) + f (if k + 1 = k then _ else _) = sumQ f k + f k + f (k + 1)
   rw [if_pos rfl, if_neg zo, if_pos rfl, sumQ_congr k (g := f) fun i hi => by rw [if_neg zo, if_neg zo]]
   grind
  ·show sumQ _ n + f (if n = k then _ else _) = sumQ f n + f n
   rw [sumQ_swap f n zo, if_neg zo, if_neg zo]
theorem cdet_eq0 : ∀ (d n : Nat) (A : Nat → Nat → Rat) (k : Nat), k + d + 1 < n → (∀ j, j < n → A k j = A (k + d + 1) j) → cdet n A = 0
 | 0, n, A, k, h, e => by
  have h1 := cdet_adj n A k h
  have h2 : cdet n (swapR A k (k + 1)) = cdet n A := cdet_congr n fun i _ j hj => by
   show A (if i = k then k + 1 else if i = k + 1 then k else i) j = A i j
   by_cases a : i = k
   ·rw [if_pos a, a]; exact (e j hj).symm
   ·by_cases b : i = k + 1
    ·rw [if_neg a, if_pos b, b]; exact e j hj
    ·rw [if_neg a, if_neg b]
  grind
 | d + 1, n, A, k, h, e => by
  have h1 := cdet_adj n A (k + d + 1) zo
  have h2 := cdet_eq0 d n (swapR A (k + d + 1) (k + d + 1 + 1)) k zo fun j hj => by
   show A (if k = k + d + 1 then _ else if k = k + d + 1 + 1 then _ else k) j = A (if k + d + 1 = k + d + 1 then _ else _) j
   rw [if_neg zo, if_neg zo, if_pos rfl]
   exact e j hj
  grind
theorem cdet_eq {n : Nat} {A : Nat → Nat → Rat} {k l : Nat} (hk : k < n) (hl : l < n) (hkl : k ≠ l) (e : ∀ j, j < n → A k j = A l j) : cdet n A = 0 := by
 by_cases h : k < l
 ·obtain ⟨d, rfl⟩ : ∃ d, l = k + d + 1 := ⟨l - k - 1, by omega⟩
  exact cdet_eq0 d n A k hl e
 ·obtain ⟨d, rfl⟩ : ∃ d, k = l + d + 1 := ⟨k - l - 1, by omega⟩
  exact cdet_eq0 d n A l hk fun j hj => (e j hj).symm
theorem setR_self {A : Nat → Nat → Rat} {r : Nat} : setR A r (A r) = A := by
 funext i j
 show (if i = r then A r j else A i j) = A i j
 by_cases e : i = r
 ·rw [if_pos e, e]
 ·rw [if_neg e]
theorem cdet_addR {n : Nat} (A : Nat → Nat → Rat) {r k : Nat} (t : Rat) (hr : r < n) (hk : k < n) (h : r ≠ k) : cdet n (setR A r (fun j => A r j + t * A k j)) = cdet n A := by
 have h1 := cdet_lin n A r (A r) (A k) 1 t hr
 have h2 : cdet n (setR A r (A k)) = 0 := cdet_eq hr hk h fun j _ => by
  show (if r = r then _ else _) = (if k = r then _ else _)
  rw [if_pos rfl, if_neg (Ne.symm h)]
 have h3 : setR A r (fun j => A r j + t * A k j) = setR A r (fun j => 1 * A r j + t * A k j) := by congr 1; funext j; grind
 rw [h3, h1, h2, setR_self]; grind
theorem cdet_swap {n : Nat} (A : Nat → Nat → Rat) {k l : Nat} (hk : k < n) (hl : l < n) (h : k ≠ l) : cdet n (swapR A k l) = - cdet n A := by
 have S : ∀ x y x' y' : Nat → Rat, cdet n (setR (setR A k x) l (fun j => 1 * y j + 1 * y' j)) = 1 * cdet n (setR (setR A k x) l y) + 1 * cdet n (setR (setR A k x) l y') := fun x y _ y' => cdet_lin n _ l y y' 1 1 hl
 have C : ∀ x y : Nat → Rat, setR (setR A k x) l y = setR (setR A l y) k x := fun x y => by
  funext i j
  show (if i = l then y j else if i = k then x j else A i j) = (if i = k then x j else if i = l then y j else A i j)
  by_cases a : i = l
  ·subst a; rw [if_pos rfl, if_neg (Ne.symm h), if_pos rfl]
  ·rw [if_neg a, if_neg a]
 have Z : ∀ x : Nat → Rat, cdet n (setR (setR A k x) l x) = 0 := fun x => cdet_eq hk hl h fun j _ => by
  show (if k = l then _ else if k = k then _ else _) = (if l = l then _ else _)
  rw [if_neg h, if_pos rfl, if_pos rfl]
 have z := fun j => (1 : Rat) * A k j + 1 * A l j
 have e0 := Z (fun j => 1 * A k j + 1 * A l j)
 have e1 := cdet_lin n (setR A k (fun j => 1 * A k j + 1 * A l j)) l (A k) (A l) 1 1 hl
 have e2 : ∀ y, cdet n (setR (setR A k (fun j => 1 * A k j + 1 * A l j)) l y) = cdet n (setR (setR A k (A k)) l y) + cdet n (setR (setR A k (A l)) l y) := fun y => by
  rw [C, cdet_lin n (setR A l y) k (A k) (A l) 1 1 hk, ← C, ← C]; grind
 rw [e0, e2, e2, Z, Z, setR_self] at e1
 have e3 : setR A l (A l) = A := setR_self
 have e4 : swapR A k l = setR (setR A k (A l)) l (A k) := by
  funext i j
  show A (if i = k then l else if i = l then k else i) j = (if i = l then A k j else if i = k then A l j else A i j)
  by_cases a : i = k
  ·subst a; rw [if_pos rfl, if_neg h, if_pos rfl]
  ·by_cases b : i = l
   ·rw [if_neg a, if_pos b, if_pos b]
   ·rw [if_neg a, if_neg b, if_neg b, if_neg a]
 rw [e3] at e1
 rw [e4]; grind
theorem cdet_mulR {n : Nat} (A : Nat → Nat → Rat) {r : Nat} (t : Rat) (hr : r < n) : cdet n (setR A r (fun j => t * A r j)) = t * cdet n A := by
 have h1 := cdet_lin n A r (A r) (A r) t 0 hr
 rw [setR_self] at h1
 have h3 : setR A r (fun j => t * A r j) = setR A r (fun j => t * A r j + 0 * A r j) := by congr 1; funext j; grind
 rw [h3, h1]; grind
def blk (c : Nat) (A : Nat → Nat → Rat) : Nat → Nat → Rat := fun i j => A (c + i) (c + j)
theorem cdet_col0 {n : Nat} {A : Nat → Nat → Rat} (h : ∀ i, 0 < i → i < n + 1 → A i 0 = 0) : cdet (n + 1) A = A 0 0 * cdet n (blk 1 A) := by
 show sumQ _ (n + 1) = _
 rw [sumQ_one (k := 0) (n + 1) zo (fun i hi h0 => by rw [h i zo hi]; grind)]
 have : minor A 0 0 = blk 1 A := by
  funext i j
  show A (skp 0 i) (skp 0 j) = A (1 + i) (1 + j)
  unfold skp; rw [if_neg (Nat.not_lt_zero i), if_neg (Nat.not_lt_zero j), Nat.add_comm, Nat.add_comm j]
 rw [this]
 show (1 : Rat) * A 0 0 * _ = _
 grind
theorem cdet_zero0 {n : Nat} {A : Nat → Nat → Rat} (h : ∀ i, i < n + 1 → A i 0 = 0) : cdet (n + 1) A = 0 := by
 rw [cdet_col0 fun i _ hi => h i hi, h 0 zo]; grind
def elimQ (B : Nat → Nat → Rat) (c h : Nat) : Nat → Nat → Rat := fun i j => if c < i ∧ i < h then B i j + - (B i c / B c c) * B c j else B i j
theorem elimQ_zero {B : Nat → Nat → Rat} {c i j : Nat} : B i j = elimQ B c (c + 1) i j := (if_neg zo).symm
theorem elimQ_at {B : Nat → Nat → Rat} {c h j : Nat} (hc : c < h) : B h j + - (B h c / B c c) * B c j = elimQ B c (h + 1) h j := (if_pos ⟨hc, Nat.lt_succ_self h⟩).symm
theorem elimQ_ne {B : Nat → Nat → Rat} {c h i : Nat} (hi : i ≠ h) : elimQ B c (h + 1) i = elimQ B c h i := by
 funext j
 unfold elimQ
 by_cases e : c < i ∧ i < h
 ·rw [if_pos e, if_pos ⟨e.1, by omega⟩]
 ·rw [if_neg e, if_neg fun e' => e ⟨e'.1, by omega⟩]
theorem elimQ_top {B : Nat → Nat → Rat} {c h i : Nat} (hi : i ≤ c) : elimQ B c h i = B i := by
 funext j; exact if_neg zo
theorem elimQ_end {B : Nat → Nat → Rat} {c h i : Nat} (hi : h ≤ i) : elimQ B c h i = B i := by
 funext j; exact if_neg zo
theorem elimQ_det {B : Nat → Nat → Rat} {c n : Nat} : ∀ d, c + 1 + d ≤ n → cdet (n - c) (blk c (elimQ B c (c + 1 + d))) = cdet (n - c) (blk c B)
 | 0, _ => cdet_congr _ fun i _ j _ => (elimQ_zero (B := B) (c := c) (i := c + i) (j := c + j)).symm
 | d + 1, h => by
  refine Eq.trans ?_ (elimQ_det (B := B) d zo)
  have h1 := cdet_addR (n := n - c) (blk c (elimQ B c (c + 1 + d))) (r := d + 1) (k := 0) (- (B (c + (d + 1)) c / B c c)) zo zo zo
  rw [← h1]
  refine cdet_congr _ fun i hi j hj => ?_
  show elimQ B c (c + 1 + d + 1) (c + i) (c + j) = (if i = d + 1 then elimQ B c (c + 1 + d) (c + (d + 1)) (c + j) + - (B (c + (d + 1)) c / B c c) * elimQ B c (c + 1 + d) (c + 0) (c + j) else elimQ B c (c + 1 + d) (c + i) (c + j))
  by_cases e : i = d + 1
  ·subst e
   rw [if_pos rfl, elimQ_end (B := B) (h := c + 1 + d) (i := c + (d + 1)) zo, elimQ_top (B := B) (h := c + 1 + d) (i := c + 0) zo]
   exact if_pos ⟨by omega, by omega⟩
  ·rw [if_neg e, elimQ_ne zo]
theorem swap_det {B : Nat → Nat → Rat} {c k n : Nat} (hc : c < k) (hk : k < n) : cdet (n - c) (blk c (swapR B c k)) = - cdet (n - c) (blk c B) := by
 rw [← cdet_swap (blk c B) (k := 0) (l := k - c) zo zo zo]
 refine cdet_congr _ fun i _ j _ => ?_
 show B (if c + i = c then k else if c + i = k then c else c + i) (c + j) = B (c + (if i = 0 then k - c else if i = k - c then 0 else i)) (c + j)
 congr 1
 by_cases a : i = 0
 ·rw [if_pos zo, if_pos a]; omega
 ·by_cases b : i = k - c
  ·rw [if_neg zo, if_pos zo, if_neg a, if_pos b]; rfl
  ·rw [if_neg zo, if_neg zo, if_neg a, if_neg b]
theorem det_none {B : Nat → Nat → Rat} {c n : Nat} {o : Rat} (hc : c < n) (h : ∀ i, c ≤ i → i < n → B i c = 0) : o * cdet (n - c) (blk c B) = 0 := by
 obtain ⟨m, hm⟩ : ∃ m, n - c = m + 1 := ⟨n - c - 1, by omega⟩
 rw [hm, cdet_zero0 fun i hi => h (c + i) zo zo]; grind
theorem det_step {B : Nat → Nat → Rat} {c n : Nat} {o D : Rat} (hc : c < n) (hp : B c c ≠ 0) (h : o * cdet (n - c) (blk c B) = D) : o * B c c * cdet (n - (c + 1)) (blk (c + 1) (elimQ B c n)) = D := by
 obtain ⟨m, hm⟩ : ∃ m, n - c = m + 1 := ⟨n - c - 1, by omega⟩
 have h1 := elimQ_det (B := B) (c := c) (n := n) (n - c - 1) zo
 rw [show c + 1 + (n - c - 1) = n by omega, hm, cdet_col0 fun i h0 hi => by
  show elimQ B c n (c + i) (c + 0) = 0
  unfold elimQ
  rw [if_pos ⟨by omega, by omega⟩]
  show B (c + i) c + - (B (c + i) c / B c c) * B c c = 0
  rw [Rat.neg_mul, Rat.div_mul_cancel hp]; grind] at h1
 have h2 : blk c (elimQ B c n) 0 0 = B c c := by show elimQ B c n (c + 0) (c + 0) = _; rw [elimQ_top zo]; rfl
 have h3 : cdet m (blk 1 (blk c (elimQ B c n))) = cdet (n - (c + 1)) (blk (c + 1) (elimQ B c n)) := by
  rw [show n - (c + 1) = m by omega]
  refine cdet_congr _ fun i _ j _ => ?_
  show elimQ B c n (c + (1 + i)) (c + (1 + j)) = elimQ B c n (c + 1 + i) (c + 1 + j)
  rw [Nat.add_assoc, Nat.add_assoc]
 rw [h2, h3] at h1
 rw [← h, hm, ← h1]; grind
def leadK (B : Nat → Nat → Rat) (c : Nat) : Nat → Nat → Nat
 | a, 0 => a
 | a, d + 1 => if B a c = 0 then leadK B c (a + 1) d else a
theorem leadK_le {B : Nat → Nat → Rat} {c : Nat} : ∀ d a, a ≤ leadK B c a d ∧ leadK B c a d ≤ a + d
 | 0, a => ⟨Nat.le_refl a, Nat.le_refl a⟩
 | d + 1, a => by
  unfold leadK
  split
  ·have := leadK_le (B := B) (c := c) d (a + 1); omega
  ·omega
theorem leadK_at {B : Nat → Nat → Rat} {c : Nat} : ∀ d a, leadK B c a d < a + d → B (leadK B c a d) c ≠ 0
 | 0, a, h => absurd h (Nat.lt_irrefl a)
 | d + 1, a, h => by
  unfold leadK at h ⊢
  split
  ·rename_i e; rw [if_pos e] at h; exact leadK_at d (a + 1) zo
  ·assumption
theorem leadK_none {B : Nat → Nat → Rat} {c : Nat} : ∀ d a i, a ≤ i → i < leadK B c a d → B i c = 0
 | 0, a, i, h, h2 => absurd h2 (Nat.not_lt.2 h)
 | d + 1, a, i, h, h2 => by
  unfold leadK at h2
  split at h2
  ·rename_i e
   by_cases q : i = a
   ·rw [q]; exact e
   ·exact leadK_none d (a + 1) i zo h2
  ·omega
def scaleQ (B : Nat → Nat → Rat) (a c : Nat) : Nat → Nat → Rat := setR B a (fun j => (B a c)⁻¹ * B a j)
def clearQ (B : Nat → Nat → Rat) (a c : Nat) : Nat → Nat → Rat := fun r j => if r = a then B a j else B r j + -(B r c) * B a j
abbrev RedS := (Nat → Nat → Rat) × Nat × (Nat → Nat)
def redStep (m : Nat) (s : RedS) (c : Nat) : RedS :=
 if leadK s.1 c s.2.1 (m - s.2.1) < m then (clearQ (scaleQ (swapR s.1 s.2.1 (leadK s.1 c s.2.1 (m - s.2.1))) s.2.1 c) s.2.1 c, s.2.1 + 1, fun i => if i = s.2.1 then c else s.2.2 i) else s
def red (m : Nat) (A : Nat → Nat → Rat) : Nat → RedS
 | 0 => (A, 0, fun _ => 0)
 | c + 1 => redStep m (red m A c) c
def Spn (m : Nat) (B : Nat → Nat → Rat) (x : Nat → Rat) : Prop := ∃ t : Nat → Rat, ∀ j, x j = sumQ (fun k => t k * B k j) m
theorem Spn.self {m : Nat} {B : Nat → Nat → Rat} {r : Nat} (hr : r < m) : Spn m B (B r) := ⟨fun k => if k = r then 1 else 0, fun j => by
 rw [sumQ_one (k := r) m hr fun i _ hi => by show (if i = r then (1 : Rat) else 0) * B i j = 0; rw [if_neg hi]; grind]
 show B r j = (if r = r then (1 : Rat) else 0) * B r j
 rw [if_pos rfl]; grind⟩
theorem Spn.lin {m : Nat} {B : Nat → Nat → Rat} {x y : Nat → Rat} (s t : Rat) (hx : Spn m B x) (hy : Spn m B y) : Spn m B (fun j => s * x j + t * y j) := by
 obtain ⟨u, hu⟩ := hx
 obtain ⟨v, hv⟩ := hy
 refine ⟨fun k => s * u k + t * v k, fun j => ?_⟩
 show s * x j + t * y j = sumQ (fun k => (s * u k + t * v k) * B k j) m
 rw [hu, hv, ← sumQ_mul, ← sumQ_mul, ← sumQ_add]
 exact sumQ_congr m fun i _ => by grind
theorem Spn.sum {m p : Nat} {B : Nat → Nat → Rat} {X : Nat → Nat → Rat} {t : Nat → Rat} (h : ∀ k, k < p → Spn m B (X k)) : Spn m B (fun j => sumQ (fun k => t k * X k j) p) := by
 induction p with
 | zero => exact ⟨fun _ => 0, fun j => by show 0 = sumQ (fun k => 0 * B k j) m; rw [sumQ_congr m (g := fun _ => 0) fun i _ => by grind, sumQ_zero]⟩
 | succ p ih =>
  have h1 := Spn.lin 1 (t p) (ih fun k hk => h k zo) (h p zo)
  obtain ⟨u, hu⟩ := h1
  exact ⟨u, fun j => by rw [← hu]; show sumQ (fun k => t k * X k j) p + t p * X p j = _; grind⟩
theorem Spn.trans {m p : Nat} {B C : Nat → Nat → Rat} {x : Nat → Rat} (hx : Spn p C x) (h : ∀ k, k < p → Spn m B (C k)) : Spn m B x := by
 obtain ⟨t, ht⟩ := hx
 obtain ⟨u, hu⟩ := Spn.sum (t := t) h
 exact ⟨u, fun j => (ht j).trans (hu j)⟩
def Same2 (m : Nat) (A B : Nat → Nat → Rat) : Prop := (∀ r, r < m → Spn m B (A r)) ∧ ∀ r, r < m → Spn m A (B r)
theorem Same2.rfl {m : Nat} {A : Nat → Nat → Rat} : Same2 m A A := ⟨fun _ h => .self h, fun _ h => .self h⟩
theorem Same2.trans {m : Nat} {A B C : Nat → Nat → Rat} (h : Same2 m A B) (k : Same2 m B C) : Same2 m A C := ⟨fun r hr => (h.1 r hr).trans k.1, fun r hr => (k.2 r hr).trans h.2⟩
theorem same_swap {m : Nat} {A : Nat → Nat → Rat} {k l : Nat} (hk : k < m) (hl : l < m) : Same2 m A (swapR A k l) := by
 have h : ∀ r, r < m → (if r = k then l else if r = l then k else r) < m := fun r hr => by split; exact hl; split; exact hk; exact hr
 have inv : ∀ r, swapR A k l (if r = k then l else if r = l then k else r) = A r := fun r => by
  funext j
  show A (if (if r = k then l else if r = l then k else r) = k then l else if (if r = k then l else if r = l then k else r) = l then k else (if r = k then l else if r = l then k else r)) j = A r j
  congr 1
  repeat (first | split | omega)
 exact ⟨fun r hr => by rw [← inv r]; exact Spn.self (h r hr), fun r hr => Spn.self (B := A) (h r hr)⟩
theorem same_scale {m : Nat} {A : Nat → Nat → Rat} {a c : Nat} (ha : a < m) (h : A a c ≠ 0) : Same2 m A (scaleQ A a c) := by
 have e : ∀ r, r ≠ a → scaleQ A a c r = A r := fun r hr => by funext j; exact if_neg hr
 have e2 : ∀ j, scaleQ A a c a j = (A a c)⁻¹ * A a j := fun j => if_pos _root_.rfl
 constructor
 ·intro r hr
  by_cases q : r = a
  ·subst q
   obtain ⟨t, ht⟩ := Spn.lin (A r c) 0 (Spn.self (B := scaleQ A r c) hr) (Spn.self (B := scaleQ A r c) hr)
   refine ⟨t, fun j => ?_⟩
   rw [← ht]; dsimp only; rw [e2]
   have : A r c * (A r c)⁻¹ = 1 := Rat.mul_inv_cancel _ h
   grind
  ·rw [← e r q]; exact Spn.self hr
 ·intro r hr
  by_cases q : r = a
  ·subst q
   obtain ⟨t, ht⟩ := Spn.lin (A r c)⁻¹ 0 (Spn.self (B := A) hr) (Spn.self (B := A) hr)
   exact ⟨t, fun j => by rw [← ht]; dsimp only; rw [e2]; grind⟩
  ·rw [e r q]; exact Spn.self hr
theorem same_clear {m : Nat} {A : Nat → Nat → Rat} {a c : Nat} (ha : a < m) : Same2 m A (clearQ A a c) := by
 have e2 : clearQ A a c a = A a := by funext j; exact if_pos _root_.rfl
 have e : ∀ r, r ≠ a → ∀ j, clearQ A a c r j = A r j + -(A r c) * A a j := fun r hr j => if_neg hr
 constructor
 ·intro r hr
  by_cases q : r = a
  ·subst q
   have := Spn.self (B := clearQ A r c) hr
   rw [e2] at this; exact this
  ·obtain ⟨t, ht⟩ := Spn.lin 1 (A r c) (Spn.self (B := clearQ A a c) hr) (Spn.self (B := clearQ A a c) ha)
   exact ⟨t, fun j => by rw [← ht]; dsimp only; rw [e r q, e2]; grind⟩
 ·intro r hr
  by_cases q : r = a
  ·subst q; rw [e2]; exact Spn.self hr
  ·obtain ⟨t, ht⟩ := Spn.lin 1 (-(A r c)) (Spn.self (B := A) hr) (Spn.self (B := A) ha)
   exact ⟨t, fun j => by rw [← ht]; dsimp only; rw [e r q]; grind⟩
structure RedInv (m : Nat) (A : Nat → Nat → Rat) (c : Nat) (s : RedS) : Prop where
 am : s.2.1 ≤ m
 ac : s.2.1 ≤ c
 lt : ∀ i, i < s.2.1 → s.2.2 i < c
 inc : ∀ i j, i < j → j < s.2.1 → s.2.2 i < s.2.2 j
 one : ∀ i, i < s.2.1 → s.1 i (s.2.2 i) = 1
 zero : ∀ i, i < s.2.1 → ∀ r, r < m → r ≠ i → s.1 r (s.2.2 i) = 0
 left : ∀ i, i < s.2.1 → ∀ j, j < s.2.2 i → s.1 i j = 0
 low : ∀ r, s.2.1 ≤ r → r < m → ∀ j, j < c → s.1 r j = 0
 same : Same2 m A s.1
theorem red_inv (m : Nat) (A : Nat → Nat → Rat) : ∀ c, RedInv m A c (red m A c)
 | 0 => ⟨Nat.zero_le _, Nat.le_refl _, fun _ h => absurd h (Nat.not_lt_zero _), fun _ _ _ h => absurd h (Nat.not_lt_zero _), fun _ h => absurd h (Nat.not_lt_zero _), fun _ h => absurd h (Nat.not_lt_zero _), fun _ h => absurd h (Nat.not_lt_zero _), fun _ _ _ _ h => absurd h (Nat.not_lt_zero _), .rfl⟩
 | c + 1 => by
  have H := red_inv m A c
  show RedInv m A (c + 1) (redStep m (red m A c) c)
  generalize red m A c = s at H
  obtain ⟨B, a, L⟩ := s
  have h1 := leadK_le (B := B) (c := c) (m - a) a
  have hn := leadK_none (B := B) (c := c) (m - a) a
  have ha := leadK_at (B := B) (c := c) (m - a) a
  unfold redStep
  have am := H.am; have ac := H.ac
  simp only at am ac h1 hn ha ⊢
  generalize leadK B c a (m - a) = k at h1 hn ha
  by_cases hk : k < m
  ·rw [if_pos hk]
   have hp := ha zo
   have am' : a < m := by omega
   have hS : ∀ r j, swapR B a k r j = B (if r = a then k else if r = k then a else r) j := fun _ _ => rfl
   have p0 : swapR B a k a c ≠ 0 := by rw [hS, if_pos rfl]; exact hp
   have lowS : ∀ r, a ≤ r → r < m → ∀ j, j < c → swapR B a k r j = 0 := fun r h2 h3 j hj => by
    rw [hS]
    refine H.low _ ?_ ?_ j hj
    ·show a ≤ _; split; omega; split <;> omega
    ·split; omega; split <;> omega
   have topS : ∀ r, r < a → swapR B a k r = B r := fun r hr => by funext j; rw [hS, if_neg zo, if_neg zo]
   have zS : ∀ i, i < a → ∀ r, r < m → r ≠ i → swapR B a k r (L i) = 0 := fun i hi r hr hne => by
    rw [hS]
    refine H.zero i hi _ ?_ ?_
    ·split; omega; split <;> omega
    ·split; omega; split <;> omega
   have hC : ∀ r, r ≠ a → ∀ j, clearQ (scaleQ (swapR B a k) a c) a c r j = swapR B a k r j + -(swapR B a k r c) * ((swapR B a k a c)⁻¹ * swapR B a k a j) := fun r hr j => by
    show (if r = a then _ else (if r = a then _ else swapR B a k r j) + -(if r = a then _ else swapR B a k r c) * (if a = a then _ else _)) = _
    rw [if_neg hr, if_neg hr, if_neg hr, if_pos rfl]
   have hD : ∀ j, clearQ (scaleQ (swapR B a k) a c) a c a j = (swapR B a k a c)⁻¹ * swapR B a k a j := fun j => by
    show (if a = a then (if a = a then _ else _) else _) = _
    rw [if_pos rfl, if_pos rfl]
   have inv1 : (swapR B a k a c)⁻¹ * swapR B a k a c = 1 := Rat.inv_mul_cancel _ p0
   refine ⟨am', by show a + 1 ≤ c + 1; omega, fun i hi => ?_, fun i j hij hj => ?_, fun i hi => ?_, fun i hi r hr hne => ?_, fun i hi j hj => ?_, fun r h2 h3 j hj => ?_, ?_⟩
   ·show (if i = a then c else L i) < c + 1
    have hi : i < a + 1 := hi
    split
    ·omega
    ·have := H.lt i (show i < a by omega); simp only at this; omega
   ·show (if i = a then c else L i) < (if j = a then c else L j)
    have hj : j < a + 1 := hj
    rw [if_neg zo]
    split
    ·exact H.lt i (show i < a by omega)
    ·exact H.inc i j hij (show j < a by omega)
   ·show clearQ _ a c i (if i = a then c else L i) = 1
    have hi : i < a + 1 := hi
    by_cases q : i = a
    ·subst q; rw [if_pos rfl, hD]; exact inv1
    ·rw [if_neg q, hC i q, topS i zo, zS i zo a am' zo]
     have := H.one i (show i < a by omega); simp only at this
     rw [this]; grind
   ·show clearQ _ a c r (if i = a then c else L i) = 0
    have hi : i < a + 1 := hi
    by_cases q : i = a
    ·subst q
     rw [if_pos rfl, hC r hne]; grind
    ·rw [if_neg q]
     by_cases q2 : r = a
     ·subst q2; rw [hD, zS i zo r am' hne]; grind
     ·rw [hC r q2, zS i zo a am' zo, zS i zo r hr hne]; grind
   ·have hi : i < a + 1 := hi
    have hj : j < (if i = a then c else L i) := hj
    show clearQ _ a c i j = 0
    by_cases q : i = a
    ·subst q
     rw [if_pos rfl] at hj
     rw [hD, lowS i (Nat.le_refl i) am' j hj]; grind
    ·rw [if_neg q] at hj
     have h5 := H.lt i (show i < a by omega); simp only at h5
     have h6 := H.left i (show i < a by omega) j hj; simp only at h6
     rw [hC i q, lowS a (Nat.le_refl a) am' j zo, topS i zo, h6]; grind
   ·have h2 : a + 1 ≤ r := h2
    show clearQ _ a c r j = 0
    rw [hC r zo]
    by_cases q : j = c
    ·subst q; grind
    ·rw [lowS r zo h3 j zo, lowS a (Nat.le_refl a) am' j zo]; grind
   ·exact H.same.trans ((same_swap am' hk).trans ((same_scale am' p0).trans (same_clear am')))
  ·rw [if_neg hk]
   refine ⟨H.am, by show a ≤ c + 1; omega, fun i hi => Nat.lt_succ_of_lt (H.lt i hi), H.inc, H.one, H.zero, H.left, fun r h2 h3 j hj => ?_, H.same⟩
   by_cases q : j = c
   ·rw [q]; exact hn r h2 zo
   ·exact H.low r h2 h3 j zo
theorem sumQ_cut {f : Nat → Rat} {a : Nat} : ∀ m, a ≤ m → (∀ k, a ≤ k → k < m → f k = 0) → sumQ f m = sumQ f a
 | 0, h, _ => by rw [Nat.le_zero.1 h]
 | m + 1, h, hz => by
  by_cases e : a = m + 1
  ·rw [e]
  ·show sumQ f m + f m = _
   rw [sumQ_cut m zo (fun k h1 h2 => hz k h1 zo), hz m zo zo]; grind
theorem RedInv.row {m n : Nat} {A : Nat → Nat → Rat} {s : RedS} (H : RedInv m A n s) {r : Nat} (hr : r < m) : ∀ j, j < n → A r j = sumQ (fun k => A r (s.2.2 k) * s.1 k j) s.2.1 := by
 obtain ⟨t, ht⟩ := H.same.1 r hr
 have h1 : ∀ j, j < n → A r j = sumQ (fun k => t k * s.1 k j) s.2.1 := fun j hj => by
  rw [ht, sumQ_cut m H.am fun k h1 h2 => by rw [H.low k h1 h2 j hj]; grind]
 intro j hj
 rw [h1 j hj]
 refine sumQ_congr _ fun k hk => ?_
 have hl := H.lt k hk
 rw [h1 _ hl, sumQ_one (k := k) _ hk fun i hi hne => by rw [H.zero k hk i (Nat.lt_of_lt_of_le hi H.am) hne]; grind, H.one k hk]; grind
def cntL (a : Nat) (L : Nat → Nat) (c : Nat) : Nat := match a with
 | 0 => 0
 | a + 1 => if L a < c then a + 1 else cntL a L c
theorem cntL_le {L : Nat → Nat} {c : Nat} : ∀ a, cntL a L c ≤ a
 | 0 => Nat.le_refl 0
 | a + 1 => by
  unfold cntL
  split
  ·omega
  ·have := cntL_le (L := L) (c := c) a; omega
theorem cntL_lt {L : Nat → Nat} {c : Nat} : ∀ a, (∀ i j, i < j → j < a → L i < L j) → ∀ i, i < a → (i < cntL a L c ↔ L i < c)
 | 0, _, i, h => absurd h (Nat.not_lt_zero i)
 | a + 1, hm, i, h => by
  unfold cntL
  by_cases e : L a < c
  ·rw [if_pos e]
   refine ⟨fun _ => ?_, fun _ => h⟩
   by_cases q : i = a
   ·rw [q]; exact e
   ·exact Nat.lt_trans (hm i a zo zo) e
  ·rw [if_neg e]
   have ih := cntL_lt a (fun i j h1 h2 => hm i j h1 zo) (c := c)
   by_cases q : i = a
   ·subst q
    have : cntL i L c ≤ i := cntL_le i
    exact ⟨fun h2 => by omega, fun h2 => absurd h2 e⟩
   ·exact ih i zo
def kerQ (s : RedS) (c j : Nat) : Rat := (if j = c then 1 else 0) + sumQ (fun r => if s.2.2 r = j then - s.1 r c else 0) s.2.1
theorem kerQ_self {s : RedS} {c : Nat} (h : ∀ i, i < s.2.1 → s.2.2 i ≠ c) : kerQ s c c = 1 := by
 unfold kerQ
 rw [if_pos rfl, sumQ_congr _ (g := fun _ => 0) fun i hi => if_neg (h i hi), sumQ_zero]; grind
theorem RedInv.inj {m n : Nat} {A : Nat → Nat → Rat} {s : RedS} (H : RedInv m A n s) {i k : Nat} (hi : i < s.2.1) (hk : k < s.2.1) (e : s.2.2 i = s.2.2 k) : i = k := by
 rcases Nat.lt_trichotomy i k with h | h | h
 ·have := H.inc i k h hk; omega
 ·exact h
 ·have := H.inc k i h hi; omega
theorem RedInv.ker {m n : Nat} {A : Nat → Nat → Rat} {s : RedS} (H : RedInv m A n s) {c : Nat} (hc : c < n) (_ : ∀ i, i < s.2.1 → s.2.2 i ≠ c) {r : Nat} (hr : r < m) : sumQ (fun j => A r j * kerQ s c j) n = 0 := by
 have h1 : ∀ k, k < s.2.1 → sumQ (fun j => s.1 k j * kerQ s c j) n = 0 := fun k hk => by
  have e : ∀ j, j < n → s.1 k j * kerQ s c j = s.1 k j * (if j = c then 1 else 0) + sumQ (fun i => s.1 k j * (if s.2.2 i = j then - s.1 i c else 0)) s.2.1 := fun j _ => by
   rw [sumQ_mul]; unfold kerQ; grind
  rw [sumQ_congr n e, sumQ_add, sumQ_one (k := c) n hc fun i _ hi => by rw [if_neg hi]; grind]
  rw [sumQ_comm (fun j i => s.1 k j * (if s.2.2 i = j then - s.1 i c else 0)) s.2.1 n]
  have e2 : ∀ i, i < s.2.1 → sumQ (fun j => s.1 k j * (if s.2.2 i = j then - s.1 i c else 0)) n = (if i = k then - s.1 k c else 0) := fun i hi => by
   rw [sumQ_one (k := s.2.2 i) n (H.lt i hi) fun j _ hj => by rw [if_neg (Ne.symm hj)]; grind]
   rw [if_pos rfl]
   by_cases q : i = k
   ·subst q; rw [if_pos rfl, H.one i hi]; grind
   ·rw [if_neg q, H.zero i hi k (Nat.lt_of_lt_of_le hk H.am) (Ne.symm q)]; grind
  rw [sumQ_congr _ e2, sumQ_one (k := k) _ hk fun i _ hi => if_neg hi, if_pos rfl, if_pos rfl]; grind
 have e : ∀ j, j < n → A r j * kerQ s c j = sumQ (fun k => A r (s.2.2 k) * (s.1 k j * kerQ s c j)) s.2.1 := fun j hj => by
  rw [H.row hr j hj]
  have : sumQ (fun k => A r (s.2.2 k) * s.1 k j) s.2.1 * kerQ s c j = kerQ s c j * sumQ (fun k => A r (s.2.2 k) * s.1 k j) s.2.1 := by grind
  rw [this, ← sumQ_mul]
  exact sumQ_congr _ fun k _ => by grind
 rw [sumQ_congr n e, sumQ_comm (fun j k => A r (s.2.2 k) * (s.1 k j * kerQ s c j)) s.2.1 n]
 rw [sumQ_congr _ (g := fun _ => 0) fun k hk => by rw [sumQ_mul, h1 k hk]; grind, sumQ_zero]
theorem RedInv.free {m n : Nat} {A : Nat → Nat → Rat} {s : RedS} (H : RedInv m A n s) (hn : s.2.1 < n) : ∃ c, c < n ∧ ∀ i, i < s.2.1 → s.2.2 i ≠ c := by
 refine Classical.byContradiction fun hc => ?_
 have all : ∀ c, c < n → ∃ i, i < s.2.1 ∧ s.2.2 i = c := fun c hcn => Classical.byContradiction fun k => hc ⟨c, hcn, fun i hi e => k ⟨i, hi, e⟩⟩
 have key : ∀ c, c < n → c < s.2.1 ∧ s.2.2 c = c := by
  intro c
  induction c using Nat.strongRecOn with
  | _ c ih =>
   intro hcn
   obtain ⟨i, hi, e⟩ := all c hcn
   rcases Nat.lt_trichotomy i c with q | q | q
   ·have := (ih i q zo).2; omega
   ·subst q; exact ⟨hi, e⟩
   ·have h1 := H.inc c i q hi
    by_cases c0 : c = 0
    ·omega
    ·have h2 := (ih (c - 1) zo zo).2
     have h3 := H.inc (c - 1) c zo zo
     omega
 have := (key s.2.1 hn).1
 omega
theorem rank_le {a p : Nat} {T C : Nat → Nat → Rat} (h : ∀ i, i < a → ∀ l, l < a → sumQ (fun k => T i k * C k l) p = if i = l then 1 else 0) : a ≤ p := by
 refine Nat.le_of_not_lt fun hlt => ?_
 have H := red_inv p (fun k i => T i k) a
 obtain ⟨c, hc, hf⟩ := H.free (Nat.lt_of_le_of_lt H.am hlt)
 have h1 : ∀ k, k < p → sumQ (fun i => T i k * kerQ (red p (fun k i => T i k) a) c i) a = 0 := fun k hk => H.ker hc hf hk
 have h2 := kerQ_self hf
 generalize kerQ (red p (fun k i => T i k) a) c = x at h1 h2
 have h3 : sumQ (fun i => x i * (if i = c then 1 else 0)) a = x c := by
  rw [sumQ_one (k := c) a hc fun i _ hi => by rw [if_neg hi]; grind, if_pos rfl]; grind
 have h4 : sumQ (fun i => x i * (if i = c then 1 else 0)) a = 0 := by
  rw [sumQ_congr a (g := fun i => sumQ (fun k => x i * (T i k * C k c)) p) fun i hi => by rw [← h i hi c hc, sumQ_mul]]
  rw [sumQ_comm (fun i k => x i * (T i k * C k c)) p a]
  rw [sumQ_congr p (g := fun _ => 0) fun k hk => by
   rw [sumQ_congr a (g := fun i => C k c * (T i k * x i)) fun i _ => by grind, sumQ_mul, h1 k hk]; grind, sumQ_zero]
 rw [h3, h2] at h4
 exact absurd h4 (by decide)
theorem cntL_eq {a x : Nat} {L : Nat → Nat} {c : Nat} (hm : ∀ i j, i < j → j < a → L i < L j) (hx : x ≤ a) (h : ∀ i, i < a → (i < x ↔ L i < c)) : cntL a L c = x := by
 have h1 := cntL_lt (c := c) a hm
 have h2 := cntL_le (L := L) (c := c) a
 rcases Nat.lt_trichotomy (cntL a L c) x with q | q | q
 ·have := (h1 _ zo).2 ((h _ zo).1 q); omega
 ·exact q
 ·have := (h x zo).2 ((h1 x zo).1 q); omega
def htq (q : Rat) : Nat := max (nw q.num.natAbs) (nw q.den)
theorem ht_sz (q : Rat) : htq q ≤ szq q := by unfold htq szq; omega
theorem sz_ht (q : Rat) : szq q ≤ 2 * htq q := by unfold htq szq; omega
theorem ht_divInt (a b : Int) (hb : b ≠ 0) : htq (Rat.divInt a b) ≤ max (nw a.natAbs) (nw b.natAbs) := by
 unfold htq
 rw [new_den a b hb, new_num a b hb]
 have e : ∀ (s : Bool) (x : Nat), (signed s x).natAbs = x := fun s x => by cases s <;> simp [signed]
 rw [e]
 have h1 := nw_mono' (Nat.div_le_self a.natAbs (Nat.gcd a.natAbs b.natAbs))
 have h2 := nw_mono' (Nat.div_le_self b.natAbs (Nat.gcd a.natAbs b.natAbs))
 omega
theorem ht_mul (p q : Rat) : htq (p * q) ≤ htq p + htq q := by
 rw [mul_as]
 have h := ht_divInt (p.num * q.num) ((p.den * q.den : Nat) : Int) (den2_ne p q)
 rw [Int.natAbs_mul, Int.natAbs_natCast] at h
 have h1 := nw_mul p.num.natAbs q.num.natAbs
 have h2 := nw_mul p.den q.den
 unfold htq at *
 omega
theorem ht_add (p q : Rat) : htq (p + q) ≤ htq p + htq q + 1 := by
 rw [add_as]
 have h := ht_divInt (p.num * q.den + q.num * p.den) ((p.den * q.den : Nat) : Int) (den2_ne p q)
 rw [Int.natAbs_natCast] at h
 have h0 := nw_mono' (natAbs_add_nat (p.num * q.den) (q.num * p.den))
 rw [Int.natAbs_mul, Int.natAbs_mul, Int.natAbs_natCast, Int.natAbs_natCast] at h0
 have h3 := nw_add (p.num.natAbs * q.den) (q.num.natAbs * p.den)
 have h4 := nw_mul p.num.natAbs q.den
 have h5 := nw_mul q.num.natAbs p.den
 have h2 := nw_mul p.den q.den
 unfold htq at *
 omega
theorem ht_neg (p : Rat) : htq (-p) = htq p := by unfold htq; rw [Rat.neg_num, Rat.neg_den, Int.natAbs_neg]
theorem ht_zero : htq 0 = 1 := by decide +kernel
theorem ht_one : htq 1 = 1 := by decide +kernel
theorem ht_inv (p : Rat) : htq p⁻¹ ≤ htq p := by
 by_cases h : p = 0
 ·rw [h, Rat.inv_zero]; exact Nat.le_refl _
 ·rw [Rat.inv_def]
  have h1 : p.num ≠ 0 := fun e => h (Rat.num_eq_zero.1 e)
  have := ht_divInt p.den p.num h1
  rw [Int.natAbs_natCast] at this
  unfold htq at *
  omega
theorem ht_div (p q : Rat) : htq (p / q) ≤ htq p + htq q := by
 rw [Rat.div_def]
 have := ht_mul p q⁻¹
 have := ht_inv q
 omega
theorem ht_room {a b : Rat} {S : Nat} (ha : htq a ≤ S) (hb : htq b ≤ S) (hS : S ≤ 4294967296) : szq a + szq b ≤ 17179869184 := by
 have := sz_ht a
 have := sz_ht b
 omega
theorem ht_room2 {a b r : Rat} {S : Nat} (ha : htq a ≤ S) (hb : htq b ≤ S) (hr : htq r ≤ S) (hS : S ≤ 1073741824) : szq r + szq b ≤ 17179869184 ∧ szq a + szq (r * b) ≤ 17179869184 := by
 have := sz_ht a
 have := sz_ht b
 have := sz_ht r
 have := sz_ht (r * b)
 have := ht_mul r b
 omega
def hE (s c : Nat) : Nat := (s + 1) * 4 ^ c
theorem hE_succ (s c : Nat) : hE s (c + 1) = 4 * hE s c := by unfold hE; rw [Nat.pow_succ, ← Nat.mul_assoc, Nat.mul_comm]
theorem hE_zero (s : Nat) : hE s 0 = s + 1 := by unfold hE; omega
theorem hE_mono {s c d : Nat} (h : c ≤ d) : hE s c ≤ hE s d := Nat.mul_le_mul_left _ (Nat.pow_le_pow_right (by decide) h)
theorem hE_top {s c d : Nat} (hc : c ≤ d) (t : Nat) (ht : (s + 1) * 4 ^ d ≤ t) : hE s c ≤ t := Nat.le_trans (hE_mono hc) ht
def HtB (m n B : Nat) (A : Nat → Nat → Rat) : Prop := ∀ i, i < m → ∀ j, j < n → htq (A i j) + 1 ≤ B
theorem HtB.swap {m n B k l : Nat} {A : Nat → Nat → Rat} (hk : k < m) (hl : l < m) (h : HtB m n B A) : HtB m n B (swapR A k l) := fun i hi j hj => by
 show htq (A (if i = k then l else if i = l then k else i) j) + 1 ≤ B
 refine h _ ?_ j hj
 split
 ·exact hl
 ·split
  ·exact hk
  ·exact hi
theorem HtB.scale {m n B a c : Nat} {A : Nat → Nat → Rat} (ha : a < m) (hc : c < n) (h : HtB m n B A) {j : Nat} (hj : j < n) : htq ((A a c)⁻¹ * A a j) + 2 ≤ 2 * B := by
 have h1 := h a ha c hc
 have h2 := h a ha j hj
 have h3 := ht_mul (A a c)⁻¹ (A a j)
 have h4 := ht_inv (A a c)
 omega
theorem HtB.clear {m n B a c : Nat} {A : Nat → Nat → Rat} (ha : a < m) (hc : c < n) (h : HtB m n B A) : HtB m n (4 * B) (clearQ (scaleQ A a c) a c) := fun i hi j hj => by
 have h1 := h.scale ha hc hj
 unfold clearQ scaleQ setR
 dsimp only
 rw [if_pos rfl]
 split
 ·omega
 ·have h2 := h i hi j hj
  have h3 := h i hi c hc
  have h4 := ht_add (A i j) (-(A i c) * ((A a c)⁻¹ * A a j))
  have h5 := ht_mul (-(A i c)) ((A a c)⁻¹ * A a j)
  rw [ht_neg] at h5
  omega
theorem red_ht {m n s : Nat} {A : Nat → Nat → Rat} (h : HtB m n (s + 1) A) : ∀ c, c ≤ n → HtB m n (hE s (red m A c).2.1) (red m A c).1
 | 0, _ => by show HtB m n (hE s 0) A; rw [hE_zero]; exact h
 | c + 1, hc => by
  have ih := red_ht h c zo
  have am := (red_inv m A c).am
  show HtB m n (hE s (redStep m (red m A c) c).2.1) (redStep m (red m A c) c).1
  generalize red m A c = S at ih am
  unfold redStep
  have h1 := leadK_le (B := S.1) (c := c) (m - S.2.1) S.2.1
  split
  ·rename_i hk
   show HtB m n (hE s (S.2.1 + 1)) (clearQ (scaleQ _ S.2.1 c) S.2.1 c)
   rw [hE_succ]
   exact HtB.clear zo zo (ih.swap zo hk)
  ·exact ih
theorem red_htT {m n s : Nat} {A : Nat → Nat → Rat} (h : HtB m n (s + 1) A) {d : Nat} (hd : m ≤ d ∨ n ≤ d) (t : Nat) (ht : (s + 1) * 4 ^ d ≤ t) (c : Nat) (hc : c ≤ n) : HtB m n t (red m A c).1 := fun i hi j hj =>
 Nat.le_trans (red_ht h c hc i hi j hj) (hE_top (by have := (red_inv m A c).am; have := (red_inv m A c).ac; omega) t ht)
structure RowFn (n : Nat) (G : (Nat → Nat → Rat) → Rat) : Prop where
 cong : ∀ A B, (∀ i, i < n → ∀ j, j < n → A i j = B i j) → G A = G B
 swap : ∀ A k l, k < n → l < n → k ≠ l → G (swapR A k l) = - G A
 mul : ∀ A r t, r < n → G (setR A r (fun j => t * A r j)) = t * G A
 add : ∀ A r k t, r < n → k < n → r ≠ k → G (setR A r (fun j => A r j + t * A k j)) = G A
theorem rowFn_cdet (n : Nat) : RowFn n (cdet n) := ⟨fun _ _ h => cdet_congr n h, fun A _ _ hk hl h => cdet_swap A hk hl h, fun A _ t hr => cdet_mulR A t hr, fun A _ _ t hr hk h => cdet_addR A t hr hk h⟩
def clrP (B : Nat → Nat → Rat) (a c h : Nat) : Nat → Nat → Rat := fun r j => if r < h ∧ r ≠ a then B r j + -(B r c) * B a j else B r j
theorem clr_fn {n : Nat} {G : (Nat → Nat → Rat) → Rat} (H : RowFn n G) {B : Nat → Nat → Rat} {a c : Nat} (ha : a < n) : ∀ h, h ≤ n → G (clrP B a c h) = G B
 | 0, _ => congrArg G (by funext r j; exact if_neg fun h => absurd h.1 (Nat.not_lt_zero r))
 | h + 1, hn => by
  refine Eq.trans ?_ (clr_fn H (c := c) ha h zo)
  have ea : clrP B a c h a = B a := by funext j; exact if_neg fun h => h.2 rfl
  by_cases e : h = a
  ·congr 1
   funext r j
   unfold clrP
   by_cases q : r < h ∧ r ≠ a
   ·rw [if_pos q, if_pos ⟨by omega, q.2⟩]
   ·rw [if_neg q, if_neg zo]
  ·have eh : clrP B a c h h = B h := by funext j; exact if_neg fun h => absurd h.1 (Nat.lt_irrefl _)
   rw [← H.add (clrP B a c h) h a (-(B h c)) zo ha e]
   congr 1
   funext r j
   show _ = (if r = h then clrP B a c h h j + -(B h c) * clrP B a c h a j else clrP B a c h r j)
   rw [ea, eh]
   unfold clrP
   by_cases q : r = h
   ·subst q; rw [if_pos ⟨by omega, e⟩, if_pos rfl]
   ·rw [if_neg q]
    by_cases q2 : r < h ∧ r ≠ a
    ·rw [if_pos q2, if_pos ⟨by omega, q2.2⟩]
    ·rw [if_neg q2, if_neg zo]
theorem clear_fn {n : Nat} {G : (Nat → Nat → Rat) → Rat} (H : RowFn n G) {B : Nat → Nat → Rat} {a c : Nat} (ha : a < n) : G (clearQ B a c) = G B := by
 rw [← clr_fn H ha n (Nat.le_refl n) (B := B) (c := c)]
 refine H.cong _ _ fun i hi j _ => ?_
 unfold clearQ clrP
 by_cases e : i = a
 ·rw [if_pos e, if_neg fun h => h.2 e, e]
 ·rw [if_neg e, if_pos ⟨hi, e⟩]
theorem rat_mul_ne {x y : Rat} (hx : x ≠ 0) (hy : y ≠ 0) : x * y ≠ 0 := fun h => (Rat.mul_eq_zero.1 h).elim hx hy
theorem red_fn {n : Nat} {A : Nat → Nat → Rat} : ∀ c, c ≤ n → ∃ u : Rat, u ≠ 0 ∧ ∀ G, RowFn n G → G A = u * G (red n A c).1
 | 0, _ => ⟨1, by decide, fun G _ => by show G A = 1 * G A; grind⟩
 | c + 1, hc => by
  obtain ⟨u, hu, hG⟩ := red_fn (n := n) (A := A) c zo
  have am := (red_inv n A c).am
  show ∃ u : Rat, u ≠ 0 ∧ ∀ G, RowFn n G → G A = u * G (redStep n (red n A c) c).1
  generalize red n A c = s at hG am
  unfold redStep
  have h1 := leadK_le (B := s.1) (c := c) (n - s.2.1) s.2.1
  have h2 := leadK_at (B := s.1) (c := c) (n - s.2.1) s.2.1
  generalize leadK s.1 c s.2.1 (n - s.2.1) = k at h1 h2
  by_cases hk : k < n
  ·rw [if_pos hk]
   have ha : s.2.1 < n := by omega
   have hp : swapR s.1 s.2.1 k s.2.1 c ≠ 0 := by
    show s.1 (if s.2.1 = s.2.1 then k else _) c ≠ 0
    rw [if_pos rfl]; exact h2 zo
   have hsw : ∃ v : Rat, v ≠ 0 ∧ ∀ G, RowFn n G → G s.1 = v * G (swapR s.1 s.2.1 k) := by
    by_cases e : s.2.1 = k
    ·refine ⟨1, by decide, fun G _ => ?_⟩
     have : swapR s.1 s.2.1 k = s.1 := by
      funext i j
      show s.1 (if i = s.2.1 then k else if i = k then s.2.1 else i) j = s.1 i j
      by_cases e1 : i = s.2.1
      ·rw [if_pos e1, e1, e]
      ·rw [if_neg e1]
       by_cases e2 : i = k
       ·rw [if_pos e2, e2, e]
       ·rw [if_neg e2]
     rw [this]; grind
    ·exact ⟨-1, by decide, fun G H => by rw [H.swap _ _ _ ha hk e]; grind⟩
   obtain ⟨v, hv, hS⟩ := hsw
   refine ⟨u * v * swapR s.1 s.2.1 k s.2.1 c, ?_, fun G H => ?_⟩
   ·exact rat_mul_ne (rat_mul_ne hu hv) hp
   ·show G A = _ * G (clearQ (scaleQ (swapR s.1 s.2.1 k) s.2.1 c) s.2.1 c)
    rw [clear_fn H ha, hG G H, hS G H]
    unfold scaleQ
    rw [H.mul _ _ _ ha]
    have := Rat.mul_inv_cancel _ hp
    grind
  ·rw [if_neg hk]
   exact ⟨u, hu, hG⟩
def idM (i j : Nat) : Rat := if i = j then 1 else 0
theorem cdet_id : ∀ n, cdet n idM = 1
 | 0 => rfl
 | n + 1 => by
  rw [cdet_col0 fun i h _ => if_neg zo, cdet_congr n (B := idM) fun i _ j _ => by
   show (if 1 + i = 1 + j then (1 : Rat) else 0) = if i = j then 1 else 0
   by_cases e : i = j
   ·rw [if_pos e, if_pos zo]
   ·rw [if_neg e, if_neg zo], cdet_id n]
  show (1 : Rat) * 1 = 1
  grind
theorem RedInv.lead_ge {m n : Nat} {A : Nat → Nat → Rat} {s : RedS} (H : RedInv m A n s) : ∀ i, i < s.2.1 → i ≤ s.2.2 i
 | 0, _ => Nat.zero_le _
 | i + 1, h => by
  have := H.lead_ge i zo
  have := H.inc i (i + 1) zo h
  omega
theorem RedInv.lead_le {m n : Nat} {A : Nat → Nat → Rat} {s : RedS} (H : RedInv m A n s) : ∀ d i, i + d + 1 = s.2.1 → s.2.2 i + d < n
 | 0, i, h => H.lt i zo
 | d + 1, i, h => by
  have := H.lead_le d (i + 1) zo
  have := H.inc i (i + 1) zo zo
  omega
theorem RedInv.lead_eq {m n : Nat} {A : Nat → Nat → Rat} {s : RedS} (H : RedInv m A n s) (e : s.2.1 = n) {i : Nat} (hi : i < n) : s.2.2 i = i := by
 have h1 := H.lead_ge i zo
 have h2 := H.lead_le (n - 1 - i) i zo
 omega
theorem red_full {n : Nat} {A : Nat → Nat → Rat} (e : (red n A n).2.1 = n) : ∀ i, i < n → ∀ j, j < n → (red n A n).1 i j = idM i j := fun i hi j hj => by
 have H := red_inv n A n
 have hl := H.lead_eq e hj
 unfold idM
 by_cases q : i = j
 ·subst q
  rw [if_pos rfl]
  have := H.one i zo
  rw [hl] at this; exact this
 ·rw [if_neg q]
  have := H.zero j zo i hi q
  rw [hl] at this; exact this
theorem red_sing {n : Nat} {A : Nat → Nat → Rat} (e : (red n A n).2.1 < n) {G : (Nat → Nat → Rat) → Rat} (H : RowFn n G) : G (red n A n).1 = 0 := by
 have hz : ∀ j, j < n → (red n A n).1 (n - 1) j = 0 := fun j hj => (red_inv n A n).low (n - 1) zo zo j hj
 have h := H.mul (red n A n).1 (n - 1) 0 zo
 rw [H.cong (setR (red n A n).1 (n - 1) fun j => 0 * (red n A n).1 (n - 1) j) (red n A n).1 fun i _ j hj => by
  unfold setR
  split
  ·rename_i q; rw [q, hz j hj]; grind
  ·rfl] at h
 rw [h]; grind
theorem red_le (n : Nat) (A : Nat → Nat → Rat) : (red n A n).2.1 ≤ n := (red_inv n A n).am
theorem det_lead {n : Nat} {A : Nat → Nat → Rat} : cdet n A = 0 ↔ (red n A n).2.1 < n := by
 obtain ⟨u, hu, hG⟩ := red_fn (n := n) (A := A) n (Nat.le_refl n)
 constructor
 ·intro h
  refine Nat.lt_of_le_of_ne (red_le n A) fun e => ?_
  have h1 := hG _ (rowFn_cdet n)
  rw [h, cdet_congr n (red_full e), cdet_id] at h1
  exact hu (by grind)
 ·intro h
  rw [hG _ (rowFn_cdet n), red_sing h (rowFn_cdet n)]; grind
theorem leadK_cong {B B' : Nat → Nat → Rat} {c : Nat} (h : ∀ r, B r c = B' r c) : ∀ d a, leadK B c a d = leadK B' c a d
 | 0, _ => rfl
 | d + 1, a => by unfold leadK; rw [h a, leadK_cong h d (a + 1)]
theorem red_cong {m n : Nat} {A A' : Nat → Nat → Rat} (h : ∀ r j, j < n → A r j = A' r j) : ∀ c, c ≤ n → (red m A c).2 = (red m A' c).2 ∧ ∀ r j, j < n → (red m A c).1 r j = (red m A' c).1 r j
 | 0, _ => ⟨rfl, h⟩
 | c + 1, hc => by
  obtain ⟨h1, h2⟩ := red_cong (m := m) h c zo
  show (redStep m (red m A c) c).2 = (redStep m (red m A' c) c).2 ∧ ∀ r j, j < n → (redStep m (red m A c) c).1 r j = (redStep m (red m A' c) c).1 r j
  generalize red m A c = s at h1 h2
  generalize red m A' c = s' at h1 h2
  obtain ⟨B, t⟩ := s
  obtain ⟨B', t'⟩ := s'
  obtain rfl : t = t' := h1
  have h2 : ∀ r j, j < n → B r j = B' r j := h2
  unfold redStep
  rw [leadK_cong (fun r => h2 r c zo) (m - t.1) t.1]
  split
  ·refine ⟨rfl, fun r j hj => ?_⟩
   have hS : ∀ k r j, j < n → swapR B t.1 k r j = swapR B' t.1 k r j := fun k r j hj => h2 _ j hj
   have hC : ∀ k r j, j < n → scaleQ (swapR B t.1 k) t.1 c r j = scaleQ (swapR B' t.1 k) t.1 c r j := fun k r j hj => by
    unfold scaleQ setR
    dsimp only
    rw [hS k t.1 c zo, hS k t.1 j hj, hS k r j hj]
   show clearQ _ t.1 c r j = clearQ _ t.1 c r j
   unfold clearQ
   rw [hC _ t.1 j hj, hC _ r j hj, hC _ r c zo]
  ·exact ⟨rfl, h2⟩
def wideQ (n : Nat) (q : Nat → Nat → Rat) (b : Nat → Rat) : Nat → Nat → Rat := fun r j => if j < n then q r j else b r
theorem wideQ_lt {n : Nat} {q : Nat → Nat → Rat} {b : Nat → Rat} {r j : Nat} (h : j < n) : wideQ n q b r j = q r j := if_pos h
theorem wideQ_n {n : Nat} {q : Nat → Nat → Rat} {b : Nat → Rat} {r : Nat} : wideQ n q b r n = b r := if_neg (Nat.lt_irrefl n)
theorem red_wide {m n : Nat} {q : Nat → Nat → Rat} {b : Nat → Rat} {c : Nat} (hc : c ≤ n) : (red m (wideQ n q b) c).2 = (red m q c).2 ∧ ∀ r j, j < n → (red m (wideQ n q b) c).1 r j = (red m q c).1 r j := red_cong (fun _ _ hj => wideQ_lt hj) c hc
def noSol (m n : Nat) (q : Nat → Nat → Rat) (b : Nat → Rat) : Prop := leadK (red m (wideQ n q b) n).1 n (red m (wideQ n q b) n).2.1 (m - (red m (wideQ n q b) n).2.1) < m
instance (m n : Nat) (q : Nat → Nat → Rat) (b : Nat → Rat) : Decidable (noSol m n q b) := inferInstanceAs (Decidable (_ < _))
theorem red_none {m n : Nat} {q : Nat → Nat → Rat} {b : Nat → Rat} (h : noSol m n q b) : (red m (wideQ n q b) (n + 1)).2.1 = (red m q n).2.1 + 1 ∧ (red m (wideQ n q b) (n + 1)).2.2 (red m q n).2.1 = n := by
 have h1 : red m (wideQ n q b) (n + 1) = redStep m (red m (wideQ n q b) n) n := rfl
 have h2 := (red_wide (m := m) (n := n) (q := q) (b := b) (Nat.le_refl n)).1
 unfold redStep at h1
 rw [if_pos (show leadK (red m (wideQ n q b) n).1 n (red m (wideQ n q b) n).2.1 (m - (red m (wideQ n q b) n).2.1) < m from h)] at h1
 rw [h1, h2]
 exact ⟨rfl, if_pos rfl⟩
theorem red_some {m n : Nat} {q : Nat → Nat → Rat} {b : Nat → Rat} (h : ¬ noSol m n q b) : red m (wideQ n q b) (n + 1) = red m (wideQ n q b) n := by
 have h1 : red m (wideQ n q b) (n + 1) = redStep m (red m (wideQ n q b) n) n := rfl
 unfold redStep at h1
 rw [if_neg (show ¬ leadK (red m (wideQ n q b) n).1 n (red m (wideQ n q b) n).2.1 (m - (red m (wideQ n q b) n).2.1) < m from h)] at h1
 exact h1
def solQ (s : RedS) (n j : Nat) : Rat := sumQ (fun r => if s.2.2 r = j then s.1 r n else 0) s.2.1
theorem sol_sum {m n : Nat} {A : Nat → Nat → Rat} {s : RedS} (H : RedInv m A (n + 1) s) (hl : ∀ i, i < s.2.1 → s.2.2 i < n) {r : Nat} (hr : r < m) : sumQ (fun j => A r j * solQ s n j) n = A r n := by
 have e : ∀ j, j < n → A r j * solQ s n j = sumQ (fun k => if s.2.2 k = j then A r j * s.1 k n else 0) s.2.1 := fun j _ => by
  unfold solQ
  rw [← sumQ_mul]
  exact sumQ_congr _ fun k _ => by split <;> grind
 rw [sumQ_congr n e, sumQ_comm (fun j k => if s.2.2 k = j then A r j * s.1 k n else 0) s.2.1 n, H.row hr n zo]
 refine sumQ_congr _ fun k hk => ?_
 rw [sumQ_one (k := s.2.2 k) n (hl k hk) fun j _ hj => if_neg (Ne.symm hj), if_pos rfl]
theorem sol_ok {m n : Nat} {q : Nat → Nat → Rat} {b : Nat → Rat} (h : ¬ noSol m n q b) {r : Nat} (hr : r < m) : sumQ (fun j => q r j * solQ (red m (wideQ n q b) (n + 1)) n j) n = b r := by
 have H := red_inv m (wideQ n q b) (n + 1)
 have hl : ∀ i, i < (red m (wideQ n q b) (n + 1)).2.1 → (red m (wideQ n q b) (n + 1)).2.2 i < n := fun i hi => by
  rw [red_some h] at hi ⊢
  exact (red_inv m (wideQ n q b) n).lt i hi
 have := sol_sum H hl hr
 rw [wideQ_n] at this
 rw [← this]
 exact sumQ_congr n fun j hj => by rw [wideQ_lt hj]
theorem Spn.rel {m n : Nat} {A : Nat → Nat → Rat} {w x : Nat → Rat} (h : ∀ r, r < m → A r n = sumQ (fun j => A r j * w j) n) (hx : Spn m A x) : x n = sumQ (fun j => x j * w j) n := by
 obtain ⟨t, ht⟩ := hx
 rw [ht n, sumQ_congr m (g := fun k => sumQ (fun j => t k * (A k j * w j)) n) fun k hk => by rw [h k hk, sumQ_mul], sumQ_comm (fun k j => t k * (A k j * w j)) n m]
 refine sumQ_congr n fun j _ => ?_
 rw [ht j]
 have : sumQ (fun k => t k * A k j) m * w j = w j * sumQ (fun k => t k * A k j) m := by grind
 rw [this, ← sumQ_mul]
 exact sumQ_congr m fun k _ => by grind
def putC (A : Nat → Nat → Rat) (c : Nat) (b : Nat → Rat) : Nat → Nat → Rat := fun i j => if j = c then b i else A i j
theorem cdet_trM (n : Nat) (A : Nat → Nat → Rat) : cdet n (trM A) = cdet n A := by rw [← det_cdet, det_tr]
theorem cdet_sumR {n : Nat} (A : Nat → Nat → Rat) {r : Nat} (hr : r < n) (X : Nat → Nat → Rat) (t : Nat → Rat) : ∀ m, cdet n (setR A r (fun j => sumQ (fun k => t k * X k j) m)) = sumQ (fun k => t k * cdet n (setR A r (X k))) m
 | 0 => by
  have h := cdet_mulR (setR A r (fun _ => 0)) 0 hr
  show cdet n (setR A r fun _ => 0) = 0
  rw [cdet_congr n (B := setR A r fun _ => 0) fun i _ j _ => by
   unfold setR
   split
   ·dsimp only; rw [if_pos rfl]; grind
   ·rfl] at h
  rw [h]; grind
 | m + 1 => by
  have h := cdet_lin n A r (fun j => sumQ (fun k => t k * X k j) m) (X m) 1 (t m) hr
  have ih := cdet_sumR A hr X t m
  show cdet n (setR A r (fun j => sumQ (fun k => t k * X k j) m + t m * X m j)) = sumQ (fun k => t k * cdet n (setR A r (X k))) m + t m * cdet n (setR A r (X m))
  rw [← ih]
  have e : (fun j => sumQ (fun k => t k * X k j) m + t m * X m j) = fun j => 1 * sumQ (fun k => t k * X k j) m + t m * X m j := by funext j; grind
  rw [e, h]; grind
theorem cramer {n : Nat} {A : Nat → Nat → Rat} {b x : Nat → Rat} (h : ∀ r, r < n → sumQ (fun j => A r j * x j) n = b r) {c : Nat} (hc : c < n) : cdet n (putC A c b) = x c * cdet n A := by
 rw [← cdet_trM n (putC A c b), ← cdet_trM n A]
 rw [cdet_congr n (A := trM (putC A c b)) (B := setR (trM A) c (fun j => sumQ (fun k => x k * trM A k j) n)) fun i _ j hj => by
  show (if i = c then b j else A j i) = if i = c then sumQ (fun k => x k * A j k) n else A j i
  split
  ·rw [← h j hj]; exact sumQ_congr n fun k _ => by grind
  ·rfl]
 rw [cdet_sumR _ hc, sumQ_one (k := c) n hc fun k hk hkc => by
  rw [cdet_eq (k := c) (l := k) hc hk (Ne.symm hkc) fun j _ => by
   show (if c = c then trM A k j else _) = if k = c then _ else trM A k j
   rw [if_pos rfl, if_neg hkc]]
  grind]
 rw [setR_self]
open Go.RowKit
theorem rz_iff {q : Rat} : (decide (((nd q.num.natAbs : Nat) : Int) = 0)) = decide (q = 0) := by
 apply decide_eq_decide.2
 have h := nd_eq_zero q.num.natAbs
 constructor
 ·intro e; exact Rat.num_eq_zero.1 (by have := h.1 zo; omega)
 ·intro e; rw [e]; rfl
theorem rz_zero {q : Rat} (h : (nd q.num.natAbs : Int) = 0) : q = 0 := of_decide_eq_true (rz_iff.symm.trans (decide_eq_true h))
def skl (k g : Nat) : Nat := if g ≤ k then g else g - 1
theorem skl_le (k g : Nat) : skl k g ≤ g := by unfold skl; split <;> omega
theorem skl_zero {k : Nat} : skl k 0 = 0 := if_pos (Nat.zero_le k)
theorem skl_hit {k g : Nat} (h : g ≠ k) : skl k g + 1 = skl k (g + 1) := by unfold skl; split <;> split <;> omega
theorem skl_miss {k g : Nat} (h : g = k) : skl k g = skl k (g + 1) := by unfold skl; split <;> split <;> omega
theorem skl_end {k m : Nat} (h : k ≤ m) : skl k (m + 1) = m := by unfold skl; split <;> omega
theorem skl_skp {k g : Nat} (h : g ≠ k) : skp k (skl k g) = g := by unfold skp skl; split <;> split <;> omega
theorem sRZero {q : Rat}  : CallOK Tryz.prog 21 [.qt q] (.ex (.bool (decide (q = 0)))) [] := by
 exact kP (ch := []) Tryz.func21 ((∀ j0, j0 < (nd q.num.natAbs) → True) ∧ (∀ j0, j0 < (nd q.den) → True) ∧ (((decide (((nd q.num.natAbs : Nat) : Int) = 0) : Bool) = (decide (q = 0)))))
  ⟨(fun _ _ => trivial), (fun _ _ => trivial), rz_iff⟩
theorem sRWithout {q : Nat → Nat → Rat} {m n k : Nat} (hm : m ≤ 64) (hk : k ≤ m) : CallOK Tryz.prog 103 [.sl 1 (fun i0 => .sl 3 (fun i1 => .qt (q i0 i1)) n) (m + 1), .ex (.int .i64 (k : Int))] (.sl 1 (fun i0 => .sl 3 (fun i1 => .qt (q (skp k i0) i1)) n) m) [] := by
 exact kP (ch := [.loop 3 (Nat) (fun g => g ≤ m + 1) (fun g => m + 1 - g) (fun g => ⟨[(0, .sl 1 (fun i0 => .sl 3 (fun i1 => .qt (q i0 i1)) n) (m + 1)), (1, .ex (.int .i64 (k : Int))), (5, .own 0 0), (6, .ex (.int .i64 (g : Int)))], [(0, .one (.row 46 1 (fun i0 => .sl 3 (fun i1 => .qt (q (skp k i0) i1)) n) (skl k g)))], 1⟩) [(0, .nil)] (fun _ => [(0, .id 0)]) (fun g => [.reg 6 [(3, .k g), (6, .row 0 (fun i0 => .sl 3 (fun i1 => .qt (q (skp k i0) i1)) n))], .conv2 4 1 [(0, .id 1)] [(0, .id 0)] ⟨[(0, .sl 1 (fun i0 => .sl 3 (fun i1 => .qt (q i0 i1)) n) (m + 1)), (1, .ex (.int .i64 (k : Int))), (5, .own 0 0), (6, .ex (.int .i64 (g : Int)))], [(0, .one (.row 46 1 (fun i0 => .sl 3 (fun i1 => .qt (q (skp k i0) i1)) n) (skl k (g + 1))))], 2⟩, .reg 4 [(1, .z ((g + 1 : Nat) : Int))], .conv2 4 1 [(0, .id 1)] [(0, .id 0)] ⟨[(0, .sl 1 (fun i0 => .sl 3 (fun i1 => .qt (q i0 i1)) n) (m + 1)), (1, .ex (.int .i64 (k : Int))), (5, .own 0 0), (6, .ex (.int .i64 (g : Int)))], [(0, .one (.row 46 1 (fun i0 => .sl 3 (fun i1 => .qt (q (skp k i0) i1)) n) (skl k (g + 1))))], 2⟩, .reg 4 [(1, .z ((g + 1 : Nat) : Int))]])]) Tryz.func103 ((∀ j0, j0 < (m + 1) → (∀ j1, j1 < n → (∀ j2, j2 < (nd (((q j0 j1).num).natAbs)) → True) ∧ (∀ j2, j2 < (nd ((q j0 j1).den)) → True))) ∧ (((fun X1 X2 X3 X4 : Prop => ∃ g0 : Nat, X1 ∧ X2 ∧ X3 ∧ X4 ∧ ((0 : Int) = (g0 : Int)) ∧ ((skl k g0 : Nat) = 0) ∧ (g0 ≤ m + 1)) _ _ _ _) ∧ ∀ g : Nat, (g ≤ m + 1) → (((decide ((g : Int) < ((m + 1 : Nat) : Int))) = true → (((!decide ((g : Int) = (k : Int))) = true → _ ∧ (g < (m + 1)) ∧ ((skl k g) + 1 ≤ 68719476736) ∧ _ ∧ (∀ j0, j0 < 1 → ((n : Nat) = n) ∧ (∀ j1, j1 < n → ((decide (((q g j1).num) < 0) : Bool) = (decide (((q (skp k ((skl k g) + j0)) j1).num) < 0))) ∧ ((nd (((q g j1).num).natAbs) : Nat) = (nd (((q (skp k ((skl k g) + j0)) j1).num).natAbs))) ∧ (∀ j2, j2 < (nd (((q g j1).num).natAbs)) → (((dg (((q g j1).num).natAbs) j2 : Nat) : Int) = (dg (((q (skp k ((skl k g) + j0)) j1).num).natAbs) j2 : Int))) ∧ ((nd ((q g j1).den) : Nat) = (nd ((q (skp k ((skl k g) + j0)) j1).den))) ∧ (∀ j2, j2 < (nd ((q g j1).den)) → (((dg ((q g j1).den) j2 : Nat) : Int) = (dg ((q (skp k ((skl k g) + j0)) j1).den) j2 : Int))))) ∧ _ ∧ _ ∧ _ ∧ _ ∧ _ ∧ (((skl k g) + 1 : Nat) = (skl k (g + 1))) ∧ _ ∧ _ ∧ ((fun X1 X2 X3 X4 X5 : Prop => ∃ g1 : Nat, X1 ∧ X2 ∧ X3 ∧ X4 ∧ (((g + 1 : Nat) : Int) = (g1 : Int)) ∧ ((skl k (g + 1) : Nat) = (skl k g1)) ∧ X5 ∧ (g1 ≤ m + 1) ∧ (m + 1 - g1 < m + 1 - g)) _ _ _ _ _)) ∧ ((!decide ((g : Int) = (k : Int))) = false → _ ∧ _ ∧ _ ∧ _ ∧ _ ∧ ((skl k g : Nat) = (skl k (g + 1))) ∧ _ ∧ _ ∧ ((fun X1 X2 X3 X4 X5 : Prop => ∃ g1 : Nat, X1 ∧ X2 ∧ X3 ∧ X4 ∧ (((g + 1 : Nat) : Int) = (g1 : Int)) ∧ ((skl k (g + 1) : Nat) = (skl k g1)) ∧ X5 ∧ (g1 ≤ m + 1) ∧ (m + 1 - g1 < m + 1 - g)) _ _ _ _ _)))) ∧ ((decide ((g : Int) < ((m + 1 : Nat) : Int))) = false → (((skl k g : Nat) = m) ∧ _)))))
  ⟨(fun _ _ => (fun _ _ => ⟨(fun _ _ => trivial), (fun _ _ => trivial)⟩)), ⟨0, (rf (m + 1 : Nat)), (leS (fun i0 => .sl 3 (fun i1 => .qt (q i0 i1)) n) (m + 1)), (rf (k : Int)), (rf 0), zo, skl_zero, zo⟩, fun g hg => ⟨fun hc10 => have hc10 := dT hc10; have hsl := skl_le k g; ⟨fun hc15 => have hk2 : g ≠ k := (by simp at hc15; omega); ⟨(rf (g : Int)), zo, zo, (oldS (fun i0 => .sl 3 (fun i1 => .qt (q (skp k i0) i1)) n) (skl k g)), (fun j0 hj0 => by obtain rfl : j0 = 0 := zo; rw [show skp k (skl k g + 0) = g from skl_skp hk2]; exact ⟨rfl, fun _ _ => ⟨rfl, rfl, fun _ _ => rfl, rfl, fun _ _ => rfl⟩⟩), (rf (m + 1 : Nat)), (leS (fun i0 => .sl 3 (fun i1 => .qt (q i0 i1)) n) (m + 1)), (rf (k : Int)), (rf 0), (rf (g : Int)), (by first | exact skl_hit hk2 | exact skl_miss hk2), (leS (fun i0 => .sl 3 (fun i1 => .qt (q (skp k i0) i1)) n) ((skl k g) + 1)), (wI (g := g) zo), g + 1, (rf (m + 1 : Nat)), (leS (fun i0 => .sl 3 (fun i1 => .qt (q i0 i1)) n) (m + 1)), (rf (k : Int)), (rf 0), zo, zo, (leS (fun i0 => .sl 3 (fun i1 => .qt (q (skp k i0) i1)) n) (skl k (g + 1))), zo, zo⟩, fun hc15 => have hk2 : g = k := (by simp at hc15; omega); ⟨(rf (m + 1 : Nat)), (leS (fun i0 => .sl 3 (fun i1 => .qt (q i0 i1)) n) (m + 1)), (rf (k : Int)), (rf 0), (rf (g : Int)), (by first | exact skl_hit hk2 | exact skl_miss hk2), (leS (fun i0 => .sl 3 (fun i1 => .qt (q (skp k i0) i1)) n) (skl k g)), (wI (g := g) zo), g + 1, (rf (m + 1 : Nat)), (leS (fun i0 => .sl 3 (fun i1 => .qt (q i0 i1)) n) (m + 1)), (rf (k : Int)), (rf 0), zo, zo, (leS (fun i0 => .sl 3 (fun i1 => .qt (q (skp k i0) i1)) n) (skl k (g + 1))), zo, zo⟩⟩, fun hc10 => have hc10 := dF hc10; have hi2 : g = m + 1 := zo; ⟨(by rw [hi2]; exact skl_end hk), (leS (fun i0 => .sl 3 (fun i1 => .qt (q (skp k i0) i1)) n) (skl k g))⟩⟩⟩
theorem sRMinor {q : Nat → Nat → Rat} {m n a b : Nat} (hm : m ≤ 64) (hn : n ≤ 64) (hr : a ≤ m) (hc : b ≤ n) : CallOK Tryz.prog 58 [.agg (.cn (.sl 1 (fun i0 => .sl 3 (fun i1 => .qt (q i0 i1)) (n + 1)) (m + 1)) (.cn (.ex (.int .i64 ((n + 1 : Nat) : Int))) (.nl))), .ex (.int .i64 (a : Int)), .ex (.int .i64 (b : Int))] (.agg (.cn (.sl 1 (fun i0 => .sl 3 (fun i1 => .qt ((minor q a b) i0 i1)) n) m) (.cn (.ex (.int .i64 (n : Int))) (.nl)))) [] := by
 exact kP (ch := [.reg 1 [(3, .callS (.sl 1 (fun i0 => .sl 3 (fun i1 => .qt (q (skp a i0) i1)) (n + 1)) m) []), (7, .callS (.agg (.cn (.sl 1 (fun i0 => .sl 3 (fun i1 => .qt (q (skp a i1) i0)) m) (n + 1)) (.cn (.ex (.int .i64 (m : Int))) (.nl)))) [])], .reg 2 [(3, .callS (.sl 1 (fun i0 => .sl 3 (fun i1 => .qt (q (skp a i1) (skp b i0))) m) n) [])], .reg 3 [(1, .callS (.agg (.cn (.sl 1 (fun i0 => .sl 3 (fun i1 => .qt (q (skp a i0) (skp b i1))) n) m) (.cn (.ex (.int .i64 (n : Int))) (.nl)))) [])]]) Tryz.func58 ((∀ j0, j0 < (m + 1) → (∀ j1, j1 < (n + 1) → (∀ j2, j2 < (nd (((q j0 j1).num).natAbs)) → True) ∧ (∀ j2, j2 < (nd ((q j0 j1).den)) → True))) ∧ _ ∧ _ ∧ _ ∧ _ ∧ (_ ∧ (∀ j0, j0 < m → ((n : Nat) = n) ∧ (∀ j1, j1 < n → ((decide (((q (skp a j0) (skp b j1)).num) < 0) : Bool) = (decide ((((minor q a b) j0 j1).num) < 0))) ∧ ((nd (((q (skp a j0) (skp b j1)).num).natAbs) : Nat) = (nd ((((minor q a b) j0 j1).num).natAbs))) ∧ (∀ j2, j2 < (nd (((q (skp a j0) (skp b j1)).num).natAbs)) → (((dg (((q (skp a j0) (skp b j1)).num).natAbs) j2 : Nat) : Int) = (dg ((((minor q a b) j0 j1).num).natAbs) j2 : Int))) ∧ ((nd ((q (skp a j0) (skp b j1)).den) : Nat) = (nd (((minor q a b) j0 j1).den))) ∧ (∀ j2, j2 < (nd ((q (skp a j0) (skp b j1)).den)) → (((dg ((q (skp a j0) (skp b j1)).den) j2 : Nat) : Int) = (dg (((minor q a b) j0 j1).den) j2 : Int))))) ∧ _))
  ⟨(fun _ _ => (fun _ _ => ⟨(fun _ _ => trivial), (fun _ _ => trivial)⟩)), (sRWithout (n := n + 1) (k := a) (q := q) (m := m) zo hr), sRTurned (m := m) (n := n + 1) (q := (fun r c => q (skp a r) c)) zo zo, (sRWithout (n := m) (k := b) (q := (fun r c => q (skp a c) r)) (m := n) zo hc), sRTurned (m := n) (n := m) (q := (fun r c => q (skp a c) (skp b r))) zo zo, (rf m), (fun j0 hj0 => ⟨rfl, (fun j1 hj1 => ⟨rfl, rfl, (fun j2 hj2 => rfl), rfl, (fun j2 hj2 => rfl)⟩)⟩), (rf (n : Int))⟩
theorem sgn_par : ∀ n, sgn n = if n % 2 = 1 then -1 else 1
 | 0 => rfl
 | n + 1 => by
  show - sgn n = _
  rw [sgn_par n]
  by_cases h : n % 2 = 1
  ·rw [if_pos h, if_neg zo]; rfl
  ·rw [if_neg h, if_pos zo]
theorem sgn_odd {g : Nat} (x y : Rat) (h : ((g % 2 : Nat) : Int) = 1) : -(x * y) = sgn g * x * y := by rw [sgn_par, if_pos zo]; grind
theorem sgn_even {g : Nat} (x y : Rat) (h : ¬ ((g % 2 : Nat) : Int) = 1) : x * y = sgn g * x * y := by rw [sgn_par, if_neg zo]; grind
theorem sum_zero {F : Nat → Rat} {g : Nat} (h : F g = 0) : sumQ F g = sumQ F (g + 1) := by show _ = sumQ F g + F g; rw [h]; grind
def dB (E : Nat) : Nat → Nat
 | 0 => 1
 | n + 1 => (n + 1) * (E + dB E n + 2) + 1
theorem ht_sgnm (n : Nat) (x : Rat) : htq (sgn n * x) = htq x := by
 rw [sgn_par]
 split
 ·rw [show (-1 : Rat) * x = -x by grind, ht_neg]
 ·rw [show (1 : Rat) * x = x by grind]
theorem det_ht {E : Nat} : ∀ n {q : Nat → Nat → Rat}, (∀ i, i < n → ∀ j, j < n → htq (q i j) ≤ E) → htq (det n q) ≤ dB E n ∧ ∀ g, g ≤ n → htq (sumQ (fun c => sgn c * q 0 c * det (n - 1) (minor q 0 c)) g) ≤ dB E n
 | 0, q, _ => ⟨by show htq 1 ≤ 1; rw [ht_one]; omega, fun g hg => (by cases Nat.le_zero.1 hg; show htq 0 ≤ 1; rw [ht_zero]; omega)⟩
 | n + 1, q, h => by
  have hs : ∀ g, g ≤ n + 1 → htq (sumQ (fun c => sgn c * q 0 c * det n (minor q 0 c)) g) ≤ g * (E + dB E n + 2) + 1 := by
   intro g
   induction g with
   | zero => intro _; show htq 0 ≤ _; rw [ht_zero]; omega
   | succ g ih =>
    intro hg
    have h1 := ih zo
    have h2 := (det_ht n (q := minor q 0 g) fun i hi j hj => h _ (skp_lt hi) _ (skp_lt hj)).1
    have h3 := ht_add (sumQ (fun c => sgn c * q 0 c * det n (minor q 0 c)) g) (sgn g * q 0 g * det n (minor q 0 g))
    have h4 := ht_mul (sgn g * q 0 g) (det n (minor q 0 g))
    have h5 := ht_sgnm g (q 0 g)
    have h6 := h 0 zo g zo
    have h7 : (g + 1) * (E + dB E n + 2) = g * (E + dB E n + 2) + (E + dB E n + 2) := Nat.succ_mul _ _
    show htq (sumQ (fun c => sgn c * q 0 c * det n (minor q 0 c)) g + sgn g * q 0 g * det n (minor q 0 g)) ≤ _
    omega
  have hm : ∀ g, g ≤ n + 1 → g * (E + dB E n + 2) + 1 ≤ dB E (n + 1) := fun g hg => Nat.succ_le_succ (Nat.mul_le_mul_right _ hg)
  exact ⟨Nat.le_trans (hs (n + 1) (Nat.le_refl _)) (hm _ (Nat.le_refl _)), fun g hg => Nat.le_trans (hs g hg) (hm g hg)⟩
theorem dB_le {E : Nat} (hE : E ≤ 1000) : ∀ n, n ≤ 6 → dB E n ≤ 3000000
 | 0, _ => by show 1 ≤ 3000000; decide
 | 1, _ | 2, _ | 3, _ | 4, _ | 5, _ | 6, _ => by simp only [dB]; omega
 | n + 7, h => by omega
theorem det_room {n E : Nat} {q : Nat → Nat → Rat} (hn : n ≤ 5) (hE : E ≤ 1000) (h : ∀ i, i < n + 1 → ∀ j, j < n + 1 → htq (q i j) ≤ E) : ∀ g, g < n + 1 → szq (q 0 g) + szq (det n (minor q 0 g)) ≤ 16777216 ∧ szq (sumQ (fun c => sgn c * q 0 c * det n (minor q 0 c)) g) + szq (sgn g * q 0 g * det n (minor q 0 g)) ≤ 16777216 := fun g hg => by
 have h1 := (det_ht n (q := minor q 0 g) fun i hi j hj => h _ (skp_lt hi) _ (skp_lt hj)).1
 have h2 := (det_ht (n + 1) h).2 g zo
 have h3 := dB_le hE n zo
 have h4 := dB_le hE (n + 1) zo
 have h5 := ht_mul (sgn g * q 0 g) (det n (minor q 0 g))
 have h6 := ht_sgnm g (q 0 g)
 have h7 := h 0 zo g hg
 have h8 : htq (sumQ (fun c => sgn c * q 0 c * det n (minor q 0 c)) g) ≤ 3000000 := Nat.le_trans h2 h4
 have := sz_ht (q 0 g)
 have := sz_ht (det n (minor q 0 g))
 have := sz_ht (sumQ (fun c => sgn c * q 0 c * det n (minor q 0 c)) g)
 have := sz_ht (sgn g * q 0 g * det n (minor q 0 g))
 omega
theorem sRDet0 {q : Nat → Nat → Rat}  : CallOK Tryz.prog 20 [.agg (.cn (.sl 1 (fun i0 => .sl 3 (fun i1 => .qt (q i0 i1)) 0) 0) (.cn (.ex (.int .i64 ((0 : Nat) : Int))) (.nl)))] (.qt (det 0 q)) [] := by
 exact kP (ch := [.dec 10 true, .reg 2 [(0, .callS (.qt ((1 : Int) : Rat)) [])]]) Tryz.func20 ((∀ j0, j0 < 0 → (∀ j1, j1 < 0 → (∀ j2, j2 < (nd (((q j0 j1).num).natAbs)) → True) ∧ (∀ j2, j2 < (nd ((q j0 j1).den)) → True))) ∧ ((decide (((0 : Nat) : Int) = 0)) = true) ∧ _ ∧ (((decide ((((1 : Int) : Rat).num) < 0) : Bool) = (decide (((det 0 q).num) < 0))) ∧ ((nd ((((1 : Int) : Rat).num).natAbs) : Nat) = (nd (((det 0 q).num).natAbs))) ∧ (∀ j0, j0 < (nd ((((1 : Int) : Rat).num).natAbs)) → (((dg ((((1 : Int) : Rat).num).natAbs) j0 : Nat) : Int) = (dg (((det 0 q).num).natAbs) j0 : Int))) ∧ ((nd (((1 : Int) : Rat).den) : Nat) = (nd ((det 0 q).den))) ∧ (∀ j0, j0 < (nd (((1 : Int) : Rat).den)) → (((dg (((1 : Int) : Rat).den) j0 : Nat) : Int) = (dg ((det 0 q).den) j0 : Int)))))
  ⟨(fun _ _ => (fun _ _ => ⟨(fun _ _ => trivial), (fun _ _ => trivial)⟩)), (by simp), sQInt (x := 1) (by decide) (by decide), rfl, rfl, (fun j0 hj0 => rfl), rfl, (fun j0 hj0 => rfl)⟩
theorem sRDetS {q : Nat → Nat → Rat} {n E : Nat} (hn : n ≤ 5) (hE : E ≤ 1000) (hq : ∀ i, i < n + 1 → ∀ j, j < n + 1 → htq (q i j) ≤ E) (ih : ∀ {q' : Nat → Nat → Rat}, (∀ i, i < n → ∀ j, j < n → htq (q' i j) ≤ E) → CallOK Tryz.prog 20 [.agg (.cn (.sl 1 (fun i0 => .sl 3 (fun i1 => .qt (q' i0 i1)) n) n) (.cn (.ex (.int .i64 (n : Int))) (.nl)))] (.qt (det n q')) []) : CallOK Tryz.prog 20 [.agg (.cn (.sl 1 (fun i0 => .sl 3 (fun i1 => .qt (q i0 i1)) (n + 1)) (n + 1)) (.cn (.ex (.int .i64 ((n + 1 : Nat) : Int))) (.nl)))] (.qt (det (n + 1) q)) [] := by
 have hR := det_room (n := n) (E := E) hn hE hq
 exact kP (ch := [.dec 10 false, .reg 3 [(0, .callS (.qt ((0 : Int) : Rat)) [])], .loop 5 (Nat) (fun g => g ≤ n + 1) (fun g => n + 1 - g) (fun g => ⟨[(1, .own 0 0), (2, .own 1 0), (3, .own 2 0), (4, .ex (.int .i64 (g : Int)))], [(0, .one (.var 34 (.agg (.cn (.sl 1 (fun i0 => .sl 3 (fun i1 => .qt (q i0 i1)) (n + 1)) (n + 1)) (.cn (.ex (.int .i64 ((n + 1 : Nat) : Int))) (.nl)))))), (1, .one (.var 56 (.ex (.agg #[.bool false, .slice none 0 0, .slice none 0 0])))), (2, .one (.var 56 (.qt (sumQ (fun c => sgn c * q 0 c * det n (minor q 0 c)) g))))], 3⟩) [(0, .id 0), (1, .id 1), (2, .id 2)] (fun _ => [(0, .id 0), (1, .id 1), (2, .id 2)]) (fun g => [.reg 7 [(2, .k 0), (5, .k g)], .reg 6 [(1, .z ((g + 1 : Nat) : Int))], .reg 9 [(3, .call [.agg (.cn (.sl 1 (fun i0 => .sl 3 (fun i1 => .qt (q i0 i1)) (n + 1)) (n + 1)) (.cn (.ex (.int .i64 ((n + 1 : Nat) : Int))) (.nl))), .ex (.int .i64 ((0 : Nat) : Int)), .ex (.int .i64 (g : Int))] (.agg (.cn (.sl 1 (fun i0 => .sl 3 (fun i1 => .qt ((minor q 0 g) i0 i1)) n) n) (.cn (.ex (.int .i64 (n : Int))) (.nl)))) []), (4, .callS (.qt (det n (minor q 0 g))) []), (5, .callS (.qt ((q 0 g) * (det n (minor q 0 g)))) [])], .reg 10 [(1, .z ((g % 2 : Nat) : Int))], .reg 11 [(1, .callS (.qt (-((q 0 g) * (det n (minor q 0 g))))) [])], .conv 12 [(0, .id 0), (1, .id 1), (2, .id 2), (3, .id 4)] ⟨[(1, .own 0 0), (2, .own 1 0), (3, .own 2 0), (4, .ex (.int .i64 (g : Int))), (6, .own 3 0)], [(0, .one (.var 34 (.agg (.cn (.sl 1 (fun i0 => .sl 3 (fun i1 => .qt (q i0 i1)) (n + 1)) (n + 1)) (.cn (.ex (.int .i64 ((n + 1 : Nat) : Int))) (.nl)))))), (1, .one (.var 56 (.ex (.agg #[.bool false, .slice none 0 0, .slice none 0 0])))), (2, .one (.var 56 (.qt (sumQ (fun c => sgn c * q 0 c * det n (minor q 0 c)) g)))), (3, .one (.var 56 (.qt (sgn g * q 0 g * det n (minor q 0 g)))))], 5⟩, .reg 12 [(2, .callS (.qt ((sumQ (fun c => sgn c * q 0 c * det n (minor q 0 c)) g) + (sgn g * q 0 g * det n (minor q 0 g)))) [])], .reg 6 [(1, .z ((g + 1 : Nat) : Int))], .conv 12 [(0, .id 0), (1, .id 1), (2, .id 2), (3, .id 4)] ⟨[(1, .own 0 0), (2, .own 1 0), (3, .own 2 0), (4, .ex (.int .i64 (g : Int))), (6, .own 3 0)], [(0, .one (.var 34 (.agg (.cn (.sl 1 (fun i0 => .sl 3 (fun i1 => .qt (q i0 i1)) (n + 1)) (n + 1)) (.cn (.ex (.int .i64 ((n + 1 : Nat) : Int))) (.nl)))))), (1, .one (.var 56 (.ex (.agg #[.bool false, .slice none 0 0, .slice none 0 0])))), (2, .one (.var 56 (.qt (sumQ (fun c => sgn c * q 0 c * det n (minor q 0 c)) g)))), (3, .one (.var 56 (.qt (sgn g * q 0 g * det n (minor q 0 g)))))], 5⟩, .reg 12 [(2, .callS (.qt ((sumQ (fun c => sgn c * q 0 c * det n (minor q 0 c)) g) + (sgn g * q 0 g * det n (minor q 0 g)))) [])], .reg 6 [(1, .z ((g + 1 : Nat) : Int))]])]) Tryz.func20 ((∀ j0, j0 < (n + 1) → (∀ j1, j1 < (n + 1) → (∀ j2, j2 < (nd (((q j0 j1).num).natAbs)) → True) ∧ (∀ j2, j2 < (nd ((q j0 j1).den)) → True))) ∧ ((decide (((n + 1 : Nat) : Int) = 0)) = false) ∧ _ ∧ (((fun X1 X2 X3 X4 X5 X6 : Prop => ∃ g0 : Nat, X1 ∧ X2 ∧ X3 ∧ ((0 : Int) = (g0 : Int)) ∧ X4 ∧ X5 ∧ X6 ∧ ((.agg #[.bool false, .slice none 0 0, .slice none 0 0] : Value) = .agg #[.bool false, .slice none 0 0, .slice none 0 0]) ∧ ((decide ((((0 : Int) : Rat).num) < 0) : Bool) = (decide (((sumQ (fun c => sgn c * q 0 c * det n (minor q 0 c)) g0).num) < 0))) ∧ ((nd ((((0 : Int) : Rat).num).natAbs) : Nat) = (nd (((sumQ (fun c => sgn c * q 0 c * det n (minor q 0 c)) g0).num).natAbs))) ∧ (∀ j0, j0 < (nd ((((0 : Int) : Rat).num).natAbs)) → (((dg ((((0 : Int) : Rat).num).natAbs) j0 : Nat) : Int) = (dg (((sumQ (fun c => sgn c * q 0 c * det n (minor q 0 c)) g0).num).natAbs) j0 : Int))) ∧ ((nd (((0 : Int) : Rat).den) : Nat) = (nd ((sumQ (fun c => sgn c * q 0 c * det n (minor q 0 c)) g0).den))) ∧ (∀ j0, j0 < (nd (((0 : Int) : Rat).den)) → (((dg (((0 : Int) : Rat).den) j0 : Nat) : Int) = (dg ((sumQ (fun c => sgn c * q 0 c * det n (minor q 0 c)) g0).den) j0 : Int))) ∧ (g0 ≤ n + 1)) _ _ _ _ _ _) ∧ ∀ g : Nat, (g ≤ n + 1) → (((decide ((g : Int) < ((n + 1 : Nat) : Int))) = true → ((0 : Int) = ((0 : Nat) : Int)) ∧ (0 < (n + 1)) ∧ _ ∧ (g < (n + 1)) ∧ (((decide (((nd (((q 0 g).num).natAbs) : Nat) : Int) = 0)) = true → _ ∧ ((fun X1 X2 X3 X4 X5 X6 : Prop => ∃ g1 : Nat, X1 ∧ X2 ∧ X3 ∧ (((g + 1 : Nat) : Int) = (g1 : Int)) ∧ X4 ∧ X5 ∧ X6 ∧ ((.agg #[.bool false, .slice none 0 0, .slice none 0 0] : Value) = .agg #[.bool false, .slice none 0 0, .slice none 0 0]) ∧ ((decide (((sumQ (fun c => sgn c * q 0 c * det n (minor q 0 c)) g).num) < 0) : Bool) = (decide (((sumQ (fun c => sgn c * q 0 c * det n (minor q 0 c)) g1).num) < 0))) ∧ ((nd (((sumQ (fun c => sgn c * q 0 c * det n (minor q 0 c)) g).num).natAbs) : Nat) = (nd (((sumQ (fun c => sgn c * q 0 c * det n (minor q 0 c)) g1).num).natAbs))) ∧ (∀ j0, j0 < (nd (((sumQ (fun c => sgn c * q 0 c * det n (minor q 0 c)) g).num).natAbs)) → (((dg (((sumQ (fun c => sgn c * q 0 c * det n (minor q 0 c)) g).num).natAbs) j0 : Nat) : Int) = (dg (((sumQ (fun c => sgn c * q 0 c * det n (minor q 0 c)) g1).num).natAbs) j0 : Int))) ∧ ((nd ((sumQ (fun c => sgn c * q 0 c * det n (minor q 0 c)) g).den) : Nat) = (nd ((sumQ (fun c => sgn c * q 0 c * det n (minor q 0 c)) g1).den))) ∧ (∀ j0, j0 < (nd ((sumQ (fun c => sgn c * q 0 c * det n (minor q 0 c)) g).den)) → (((dg ((sumQ (fun c => sgn c * q 0 c * det n (minor q 0 c)) g).den) j0 : Nat) : Int) = (dg ((sumQ (fun c => sgn c * q 0 c * det n (minor q 0 c)) g1).den) j0 : Int))) ∧ (g1 ≤ n + 1) ∧ (n + 1 - g1 < n + 1 - g)) _ _ _ _ _ _)) ∧ ((decide (((nd (((q 0 g).num).natAbs) : Nat) : Int) = 0)) = false → _ ∧ _ ∧ _ ∧ _ ∧ ((0 : Int) = ((0 : Nat) : Int)) ∧ _ ∧ (CallOK Tryz.prog 20 [.agg (.cn (.sl 1 (fun i0 => .sl 3 (fun i1 => .qt ((minor q 0 g) i0 i1)) n) n) (.cn (.ex (.int .i64 (n : Int))) (.nl)))] (.qt (det n (minor q 0 g))) []) ∧ _ ∧ ((2 : Int) ≠ 0) ∧ ((g : Int).tmod 2 = (((g % 2 : Nat) : Int))) ∧ (((decide (((g % 2 : Nat) : Int) = 1)) = true → _ ∧ _ ∧ _ ∧ _ ∧ _ ∧ _ ∧ _ ∧ _ ∧ _ ∧ ((.agg #[.bool false, .slice none 0 0, .slice none 0 0] : Value) = .agg #[.bool false, .slice none 0 0, .slice none 0 0]) ∧ _ ∧ _ ∧ _ ∧ _ ∧ _ ∧ ((decide (((-((q 0 g) * (det n (minor q 0 g)))).num) < 0) : Bool) = (decide (((sgn g * q 0 g * det n (minor q 0 g)).num) < 0))) ∧ ((nd (((-((q 0 g) * (det n (minor q 0 g)))).num).natAbs) : Nat) = (nd (((sgn g * q 0 g * det n (minor q 0 g)).num).natAbs))) ∧ (∀ j0, j0 < (nd (((-((q 0 g) * (det n (minor q 0 g)))).num).natAbs)) → (((dg (((-((q 0 g) * (det n (minor q 0 g)))).num).natAbs) j0 : Nat) : Int) = (dg (((sgn g * q 0 g * det n (minor q 0 g)).num).natAbs) j0 : Int))) ∧ ((nd ((-((q 0 g) * (det n (minor q 0 g)))).den) : Nat) = (nd ((sgn g * q 0 g * det n (minor q 0 g)).den))) ∧ (∀ j0, j0 < (nd ((-((q 0 g) * (det n (minor q 0 g)))).den)) → (((dg ((-((q 0 g) * (det n (minor q 0 g)))).den) j0 : Nat) : Int) = (dg ((sgn g * q 0 g * det n (minor q 0 g)).den) j0 : Int))) ∧ _ ∧ _ ∧ ((fun X1 X2 X3 X4 X5 X6 : Prop => ∃ g1 : Nat, X1 ∧ X2 ∧ X3 ∧ (((g + 1 : Nat) : Int) = (g1 : Int)) ∧ X4 ∧ X5 ∧ X6 ∧ ((.agg #[.bool false, .slice none 0 0, .slice none 0 0] : Value) = .agg #[.bool false, .slice none 0 0, .slice none 0 0]) ∧ ((decide ((((sumQ (fun c => sgn c * q 0 c * det n (minor q 0 c)) g) + (sgn g * q 0 g * det n (minor q 0 g))).num) < 0) : Bool) = (decide (((sumQ (fun c => sgn c * q 0 c * det n (minor q 0 c)) g1).num) < 0))) ∧ ((nd ((((sumQ (fun c => sgn c * q 0 c * det n (minor q 0 c)) g) + (sgn g * q 0 g * det n (minor q 0 g))).num).natAbs) : Nat) = (nd (((sumQ (fun c => sgn c * q 0 c * det n (minor q 0 c)) g1).num).natAbs))) ∧ (∀ j0, j0 < (nd ((((sumQ (fun c => sgn c * q 0 c * det n (minor q 0 c)) g) + (sgn g * q 0 g * det n (minor q 0 g))).num).natAbs)) → (((dg ((((sumQ (fun c => sgn c * q 0 c * det n (minor q 0 c)) g) + (sgn g * q 0 g * det n (minor q 0 g))).num).natAbs) j0 : Nat) : Int) = (dg (((sumQ (fun c => sgn c * q 0 c * det n (minor q 0 c)) g1).num).natAbs) j0 : Int))) ∧ ((nd (((sumQ (fun c => sgn c * q 0 c * det n (minor q 0 c)) g) + (sgn g * q 0 g * det n (minor q 0 g))).den) : Nat) = (nd ((sumQ (fun c => sgn c * q 0 c * det n (minor q 0 c)) g1).den))) ∧ (∀ j0, j0 < (nd (((sumQ (fun c => sgn c * q 0 c * det n (minor q 0 c)) g) + (sgn g * q 0 g * det n (minor q 0 g))).den)) → (((dg (((sumQ (fun c => sgn c * q 0 c * det n (minor q 0 c)) g) + (sgn g * q 0 g * det n (minor q 0 g))).den) j0 : Nat) : Int) = (dg ((sumQ (fun c => sgn c * q 0 c * det n (minor q 0 c)) g1).den) j0 : Int))) ∧ (g1 ≤ n + 1) ∧ (n + 1 - g1 < n + 1 - g)) _ _ _ _ _ _)) ∧ ((decide (((g % 2 : Nat) : Int) = 1)) = false → _ ∧ _ ∧ _ ∧ _ ∧ _ ∧ _ ∧ _ ∧ _ ∧ ((.agg #[.bool false, .slice none 0 0, .slice none 0 0] : Value) = .agg #[.bool false, .slice none 0 0, .slice none 0 0]) ∧ _ ∧ _ ∧ _ ∧ _ ∧ _ ∧ ((decide ((((q 0 g) * (det n (minor q 0 g))).num) < 0) : Bool) = (decide (((sgn g * q 0 g * det n (minor q 0 g)).num) < 0))) ∧ ((nd ((((q 0 g) * (det n (minor q 0 g))).num).natAbs) : Nat) = (nd (((sgn g * q 0 g * det n (minor q 0 g)).num).natAbs))) ∧ (∀ j0, j0 < (nd ((((q 0 g) * (det n (minor q 0 g))).num).natAbs)) → (((dg ((((q 0 g) * (det n (minor q 0 g))).num).natAbs) j0 : Nat) : Int) = (dg (((sgn g * q 0 g * det n (minor q 0 g)).num).natAbs) j0 : Int))) ∧ ((nd (((q 0 g) * (det n (minor q 0 g))).den) : Nat) = (nd ((sgn g * q 0 g * det n (minor q 0 g)).den))) ∧ (∀ j0, j0 < (nd (((q 0 g) * (det n (minor q 0 g))).den)) → (((dg (((q 0 g) * (det n (minor q 0 g))).den) j0 : Nat) : Int) = (dg ((sgn g * q 0 g * det n (minor q 0 g)).den) j0 : Int))) ∧ _ ∧ _ ∧ ((fun X1 X2 X3 X4 X5 X6 : Prop => ∃ g1 : Nat, X1 ∧ X2 ∧ X3 ∧ (((g + 1 : Nat) : Int) = (g1 : Int)) ∧ X4 ∧ X5 ∧ X6 ∧ ((.agg #[.bool false, .slice none 0 0, .slice none 0 0] : Value) = .agg #[.bool false, .slice none 0 0, .slice none 0 0]) ∧ ((decide ((((sumQ (fun c => sgn c * q 0 c * det n (minor q 0 c)) g) + (sgn g * q 0 g * det n (minor q 0 g))).num) < 0) : Bool) = (decide (((sumQ (fun c => sgn c * q 0 c * det n (minor q 0 c)) g1).num) < 0))) ∧ ((nd ((((sumQ (fun c => sgn c * q 0 c * det n (minor q 0 c)) g) + (sgn g * q 0 g * det n (minor q 0 g))).num).natAbs) : Nat) = (nd (((sumQ (fun c => sgn c * q 0 c * det n (minor q 0 c)) g1).num).natAbs))) ∧ (∀ j0, j0 < (nd ((((sumQ (fun c => sgn c * q 0 c * det n (minor q 0 c)) g) + (sgn g * q 0 g * det n (minor q 0 g))).num).natAbs)) → (((dg ((((sumQ (fun c => sgn c * q 0 c * det n (minor q 0 c)) g) + (sgn g * q 0 g * det n (minor q 0 g))).num).natAbs) j0 : Nat) : Int) = (dg (((sumQ (fun c => sgn c * q 0 c * det n (minor q 0 c)) g1).num).natAbs) j0 : Int))) ∧ ((nd (((sumQ (fun c => sgn c * q 0 c * det n (minor q 0 c)) g) + (sgn g * q 0 g * det n (minor q 0 g))).den) : Nat) = (nd ((sumQ (fun c => sgn c * q 0 c * det n (minor q 0 c)) g1).den))) ∧ (∀ j0, j0 < (nd (((sumQ (fun c => sgn c * q 0 c * det n (minor q 0 c)) g) + (sgn g * q 0 g * det n (minor q 0 g))).den)) → (((dg (((sumQ (fun c => sgn c * q 0 c * det n (minor q 0 c)) g) + (sgn g * q 0 g * det n (minor q 0 g))).den) j0 : Nat) : Int) = (dg ((sumQ (fun c => sgn c * q 0 c * det n (minor q 0 c)) g1).den) j0 : Int))) ∧ (g1 ≤ n + 1) ∧ (n + 1 - g1 < n + 1 - g)) _ _ _ _ _ _)))))) ∧ ((decide ((g : Int) < ((n + 1 : Nat) : Int))) = false → (((decide (((sumQ (fun c => sgn c * q 0 c * det n (minor q 0 c)) g).num) < 0) : Bool) = (decide (((det (n + 1) q).num) < 0))) ∧ ((nd (((sumQ (fun c => sgn c * q 0 c * det n (minor q 0 c)) g).num).natAbs) : Nat) = (nd (((det (n + 1) q).num).natAbs))) ∧ (∀ j0, j0 < (nd (((sumQ (fun c => sgn c * q 0 c * det n (minor q 0 c)) g).num).natAbs)) → (((dg (((sumQ (fun c => sgn c * q 0 c * det n (minor q 0 c)) g).num).natAbs) j0 : Nat) : Int) = (dg (((det (n + 1) q).num).natAbs) j0 : Int))) ∧ ((nd ((sumQ (fun c => sgn c * q 0 c * det n (minor q 0 c)) g).den) : Nat) = (nd ((det (n + 1) q).den))) ∧ (∀ j0, j0 < (nd ((sumQ (fun c => sgn c * q 0 c * det n (minor q 0 c)) g).den)) → (((dg ((sumQ (fun c => sgn c * q 0 c * det n (minor q 0 c)) g).den) j0 : Nat) : Int) = (dg ((det (n + 1) q).den) j0 : Int))))))))
  ⟨(fun _ _ => (fun _ _ => ⟨(fun _ _ => trivial), (fun _ _ => trivial)⟩)), (by simp; omega), sQInt (x := 0) (by decide) (by decide), ⟨0, (rf 0), (rf 0), (rf 0), zo, (rf (n + 1 : Nat)), (leS (fun i0 => .sl 3 (fun i1 => .qt (q i0 i1)) (n + 1)) (n + 1)), (rf ((n + 1 : Nat) : Int)), rfl, rfl, rfl, (fun j0 hj0 => rfl), rfl, (fun j0 hj0 => rfl), zo⟩, fun g hg => ⟨fun hc16 => have hc16 := dT hc16; have hgn : g < n + 1 := zo; ⟨rfl, zo, (rf (g : Int)), zo, fun hc30 => have hc30 := dT hc30; have hz := rz_zero hc30; have hz2 := (sum_zero (F := (fun c => sgn c * q 0 c * det n (minor q 0 c))) (g := g) (by show sgn g * q 0 g * _ = 0; rw [hz]; grind)); ⟨(wI (g := g) zo), g + 1, (rf 0), (rf 0), (rf 0), zo, (rf (n + 1 : Nat)), (leS (fun i0 => .sl 3 (fun i1 => .qt (q i0 i1)) (n + 1)) (n + 1)), (rf ((n + 1 : Nat) : Int)), rfl, (by first | rfl | rw [hz2]), (by first | rfl | rw [hz2]), (fun j0 hj0 => (by first | rfl | rw [hz2])), (by first | rfl | rw [hz2]), (fun j0 hj0 => (by first | rfl | rw [hz2])), zo, zo⟩, fun hc30 => have hc30 := dF hc30; ⟨(sRMinor (m := n) (n := n) (a := 0) (b := g) (q := q) zo zo (Nat.zero_le _) zo), (rf (n + 1 : Nat)), (leS (fun i0 => .sl 3 (fun i1 => .qt (q i0 i1)) (n + 1)) (n + 1)), (rf ((n + 1 : Nat) : Int)), zo, (rf (g : Int)), (ih (fun i hi j hj => hq _ (skp_lt hi) _ (skp_lt hj))), sQMul (p := q 0 g) (q := det n (minor q 0 g)) (hR g zo).1, (by decide), rfl, fun hc39 => have hc39 := dT hc39; have hT := sgn_odd (q 0 g) (det n (minor q 0 g)) hc39; ⟨sQNeg (q := (q 0 g) * (det n (minor q 0 g))), (rf 0), (rf 0), (rf 0), (rf (g : Int)), (rf 0), (rf (n + 1 : Nat)), (leS (fun i0 => .sl 3 (fun i1 => .qt (q i0 i1)) (n + 1)) (n + 1)), (rf ((n + 1 : Nat) : Int)), rfl, (rf (decide (((sumQ (fun c => sgn c * q 0 c * det n (minor q 0 c)) g).num) < 0) : Bool)), (rf (nd (((sumQ (fun c => sgn c * q 0 c * det n (minor q 0 c)) g).num).natAbs) : Nat)), (leS (fun i0 => .ex (.int .i64 (dg (((sumQ (fun c => sgn c * q 0 c * det n (minor q 0 c)) g).num).natAbs) i0 : Int))) (nd (((sumQ (fun c => sgn c * q 0 c * det n (minor q 0 c)) g).num).natAbs))), (rf (nd ((sumQ (fun c => sgn c * q 0 c * det n (minor q 0 c)) g).den) : Nat)), (leS (fun i0 => .ex (.int .i64 (dg ((sumQ (fun c => sgn c * q 0 c * det n (minor q 0 c)) g).den) i0 : Int))) (nd ((sumQ (fun c => sgn c * q 0 c * det n (minor q 0 c)) g).den))), (by rw [hT]), (by rw [hT]), (fun j0 hj0 => (by rw [hT])), (by rw [hT]), (fun j0 hj0 => (by rw [hT])), sQAdd (p := sumQ (fun c => sgn c * q 0 c * det n (minor q 0 c)) g) (q := sgn g * q 0 g * det n (minor q 0 g)) (hR g zo).2, (wI (g := g) zo), g + 1, (rf 0), (rf 0), (rf 0), zo, (rf (n + 1 : Nat)), (leS (fun i0 => .sl 3 (fun i1 => .qt (q i0 i1)) (n + 1)) (n + 1)), (rf ((n + 1 : Nat) : Int)), rfl, (by first | rfl | rw [hz2]), (by first | rfl | rw [hz2]), (fun j0 hj0 => (by first | rfl | rw [hz2])), (by first | rfl | rw [hz2]), (fun j0 hj0 => (by first | rfl | rw [hz2])), zo, zo⟩, fun hc39 => have hc39 := dF hc39; have hT := sgn_even (q 0 g) (det n (minor q 0 g)) hc39; ⟨(rf 0), (rf 0), (rf 0), (rf (g : Int)), (rf 0), (rf (n + 1 : Nat)), (leS (fun i0 => .sl 3 (fun i1 => .qt (q i0 i1)) (n + 1)) (n + 1)), (rf ((n + 1 : Nat) : Int)), rfl, (rf (decide (((sumQ (fun c => sgn c * q 0 c * det n (minor q 0 c)) g).num) < 0) : Bool)), (rf (nd (((sumQ (fun c => sgn c * q 0 c * det n (minor q 0 c)) g).num).natAbs) : Nat)), (leS (fun i0 => .ex (.int .i64 (dg (((sumQ (fun c => sgn c * q 0 c * det n (minor q 0 c)) g).num).natAbs) i0 : Int))) (nd (((sumQ (fun c => sgn c * q 0 c * det n (minor q 0 c)) g).num).natAbs))), (rf (nd ((sumQ (fun c => sgn c * q 0 c * det n (minor q 0 c)) g).den) : Nat)), (leS (fun i0 => .ex (.int .i64 (dg ((sumQ (fun c => sgn c * q 0 c * det n (minor q 0 c)) g).den) i0 : Int))) (nd ((sumQ (fun c => sgn c * q 0 c * det n (minor q 0 c)) g).den))), (by rw [hT]), (by rw [hT]), (fun j0 hj0 => (by rw [hT])), (by rw [hT]), (fun j0 hj0 => (by rw [hT])), sQAdd (p := sumQ (fun c => sgn c * q 0 c * det n (minor q 0 c)) g) (q := sgn g * q 0 g * det n (minor q 0 g)) (hR g zo).2, (wI (g := g) zo), g + 1, (rf 0), (rf 0), (rf 0), zo, (rf (n + 1 : Nat)), (leS (fun i0 => .sl 3 (fun i1 => .qt (q i0 i1)) (n + 1)) (n + 1)), (rf ((n + 1 : Nat) : Int)), rfl, (by first | rfl | rw [hz2]), (by first | rfl | rw [hz2]), (fun j0 hj0 => (by first | rfl | rw [hz2])), (by first | rfl | rw [hz2]), (fun j0 hj0 => (by first | rfl | rw [hz2])), zo, zo⟩⟩⟩, fun hc16 => have hc16 := dF hc16; have hi2 : g = n + 1 := zo; ⟨(by rw [hi2]; rfl), (by rw [hi2]; rfl), (fun j0 hj0 => (by rw [hi2]; rfl)), (by rw [hi2]; rfl), (fun j0 hj0 => (by rw [hi2]; rfl))⟩⟩⟩
theorem sRDet {E : Nat} (hE : E ≤ 1000) : ∀ (n : Nat), n ≤ 6 → ∀ {q : Nat → Nat → Rat}, (∀ i, i < n → ∀ j, j < n → htq (q i j) ≤ E) → CallOK Tryz.prog 20 [.agg (.cn (.sl 1 (fun i0 => .sl 3 (fun i1 => .agg (.cn (.agg (.cn (.ex (.bool (decide (((q i0 i1).num) < 0)))) (.cn (.sl 1 (fun i2 => .ex (.int .i64 (dg (((q i0 i1).num).natAbs) i2 : Int))) (nd (((q i0 i1).num).natAbs))) (.nl)))) (.cn (.sl 1 (fun i2 => .ex (.int .i64 (dg ((q i0 i1).den) i2 : Int))) (nd ((q i0 i1).den))) (.nl)))) n) n) (.cn (.ex (.int .i64 (n : Int))) (.nl)))] (.agg (.cn (.agg (.cn (.ex (.bool (decide (((det n q).num) < 0)))) (.cn (.sl 1 (fun i0 => .ex (.int .i64 (dg (((det n q).num).natAbs) i0 : Int))) (nd (((det n q).num).natAbs))) (.nl)))) (.cn (.sl 1 (fun i0 => .ex (.int .i64 (dg ((det n q).den) i0 : Int))) (nd ((det n q).den))) (.nl)))) []
 | 0, _, _, _ => sRDet0
 | n + 1, h, _, hq => sRDetS zo hE hq fun h2 => sRDet hE n zo h2
theorem sRCopy {q : Nat → Nat → Rat} {m n : Nat} (hm : m ≤ 68719476736) (hn : n ≤ 68719476736) : CallOK Tryz.prog 52 [.agg (.cn (.sl 1 (fun i0 => .sl 3 (fun i1 => .qt (q i0 i1)) n) m) (.cn (.ex (.int .i64 (n : Int))) (.nl)))] (.agg (.cn (.own 0 0) (.cn (.ex (.int .i64 (n : Int))) (.nl)))) [.one (.row 46 1 (fun i0 => .own 1 i0) m), .fam m (fun i0 => .row 56 3 (fun i1 => .qt (q i0 i1)) n)] := by
 exact kP (ch := [.loop 3 (Nat) (fun g => g ≤ m) (fun g => m - g) (fun g => ⟨[(1, .own 0 0), (2, .own 1 0), (3, .own 2 0), (4, .ex (.int .i64 (g : Int)))], [(0, .one (.var 34 (.agg (.cn (.sl 1 (fun i0 => .sl 3 (fun i1 => .qt (q i0 i1)) n) m) (.cn (.ex (.int .i64 (n : Int))) (.nl)))))), (1, .one (.var 34 (.ex (.agg #[.slice none 0 0, .int .i64 0])))), (2, .one (.var 34 (.agg (.cn (.own 3 0) (.cn (.ex (.int .i64 (n : Int))) (.nl)))))), (3, .one (.row 46 1 (fun i0 => .own 4 i0) g)), (4, .fam g (fun i0 => .row 56 3 (fun i1 => .qt (q i0 i1)) n))], 5⟩) [(0, .id 0), (1, .id 1), (2, .id 2), (3, .nil), (4, .emp)] (fun g => [(0, .id 0), (1, .id 1), (2, .id 2), (3, .id 6), (4, .put 4 g 5)]) (fun g => [.reg 6 [(4, .k g), (6, .row 0 (fun i0 => .qt (q g i0)))], .reg 7 [(4, .row 0 (fun i0 => .own (if i0 < g then 4 else 5) (if i0 < g then i0 else 0)))], .reg 4 [(1, .z ((g + 1 : Nat) : Int))], .ret 8 [(0, .id 3), (1, .id 4)]])]) Tryz.func52 ((∀ j0, j0 < m → (∀ j1, j1 < n → (∀ j2, j2 < (nd (((q j0 j1).num).natAbs)) → True) ∧ (∀ j2, j2 < (nd ((q j0 j1).den)) → True))) ∧ (((fun X1 X2 X3 X4 X5 X6 X7 X8 : Prop => ∃ g0 : Nat, X1 ∧ X2 ∧ X3 ∧ ((0 : Int) = (g0 : Int)) ∧ X4 ∧ X5 ∧ X6 ∧ ((.agg #[.slice none 0 0, .int .i64 0] : Value) = .agg #[.slice none 0 0, .int .i64 0]) ∧ X7 ∧ X8 ∧ ((g0 : Nat) = 0) ∧ ((g0 : Nat) = 0) ∧ (g0 ≤ m)) _ _ _ _ _ _ _ _) ∧ ∀ g : Nat, (g ≤ m) → (((decide ((g : Int) < (m : Int))) = true → _ ∧ (g < m) ∧ (n ≤ 68719476736) ∧ _ ∧ (g + 1 ≤ 68719476736) ∧ (∀ j0, j0 < g → (.own (if j0 < g then 4 else 5) (if j0 < g then j0 else 0) : SV) = .own 4 j0) ∧ (∀ j0, j0 < 1 → ((5 : Nat) = (if g + j0 < g then 4 else 5)) ∧ ((0 : Nat) = (if g + j0 < g then g + j0 else 0))) ∧ _ ∧ ((fun X1 X2 X3 X4 X5 X6 X7 X8 X9 : Prop => ∃ g1 : Nat, X1 ∧ X2 ∧ X3 ∧ (((g + 1 : Nat) : Int) = (g1 : Int)) ∧ X4 ∧ X5 ∧ X6 ∧ ((.agg #[.slice none 0 0, .int .i64 0] : Value) = .agg #[.slice none 0 0, .int .i64 0]) ∧ X7 ∧ X8 ∧ ((g + 1 : Nat) = g1) ∧ (∀ j0, j0 < (g + 1) → (((if j0 < g then 4 else 5 : Nat) = 5 ∧ (if j0 < g then j0 else 0 : Nat) = 0 ∧ (j0 : Nat) = g) ∨ ((if j0 < g then 4 else 5 : Nat) = 4 ∧ (if j0 < g then j0 else 0 : Nat) = j0 ∧ (j0 : Nat) ≠ g))) ∧ ((g1 : Nat) = g + 1) ∧ X9 ∧ (((n : Nat) = n) ∧ (∀ j1, j1 < n → ((decide (((q g j1).num) < 0) : Bool) = (decide (((q g j1).num) < 0))) ∧ ((nd (((q g j1).num).natAbs) : Nat) = (nd (((q g j1).num).natAbs))) ∧ (∀ j2, j2 < (nd (((q g j1).num).natAbs)) → (((dg (((q g j1).num).natAbs) j2 : Nat) : Int) = (dg (((q g j1).num).natAbs) j2 : Int))) ∧ ((nd ((q g j1).den) : Nat) = (nd ((q g j1).den))) ∧ (∀ j2, j2 < (nd ((q g j1).den)) → (((dg ((q g j1).den) j2 : Nat) : Int) = (dg ((q g j1).den) j2 : Int))))) ∧ (∀ j0, j0 < g → ((n : Nat) = n) ∧ (∀ j1, j1 < n → ((decide (((q j0 j1).num) < 0) : Bool) = (decide (((q j0 j1).num) < 0))) ∧ ((nd (((q j0 j1).num).natAbs) : Nat) = (nd (((q j0 j1).num).natAbs))) ∧ (∀ j2, j2 < (nd (((q j0 j1).num).natAbs)) → (((dg (((q j0 j1).num).natAbs) j2 : Nat) : Int) = (dg (((q j0 j1).num).natAbs) j2 : Int))) ∧ ((nd ((q j0 j1).den) : Nat) = (nd ((q j0 j1).den))) ∧ (∀ j2, j2 < (nd ((q j0 j1).den)) → (((dg ((q j0 j1).den) j2 : Nat) : Int) = (dg ((q j0 j1).den) j2 : Int))))) ∧ (g1 ≤ m) ∧ (m - g1 < m - g)) _ _ _ _ _ _ _ _ _)) ∧ ((decide ((g : Int) < (m : Int))) = false → (_ ∧ _ ∧ ((g : Nat) = m) ∧ (∀ j0, j0 < g → ((j0 : Nat) = j0)) ∧ ((g : Nat) = m) ∧ (∀ j0, j0 < g → ((n : Nat) = n) ∧ (∀ j1, j1 < n → ((decide (((q j0 j1).num) < 0) : Bool) = (decide (((q j0 j1).num) < 0))) ∧ ((nd (((q j0 j1).num).natAbs) : Nat) = (nd (((q j0 j1).num).natAbs))) ∧ (∀ j2, j2 < (nd (((q j0 j1).num).natAbs)) → (((dg (((q j0 j1).num).natAbs) j2 : Nat) : Int) = (dg (((q j0 j1).num).natAbs) j2 : Int))) ∧ ((nd ((q j0 j1).den) : Nat) = (nd ((q j0 j1).den))) ∧ (∀ j2, j2 < (nd ((q j0 j1).den)) → (((dg ((q j0 j1).den) j2 : Nat) : Int) = (dg ((q j0 j1).den) j2 : Int))))))))))
  ⟨(fun _ _ => (fun _ _ => ⟨(fun _ _ => trivial), (fun _ _ => trivial)⟩)), ⟨0, (rf 0), (rf 0), (rf 0), zo, (rf m), (leS (fun i0 => .sl 3 (fun i1 => .qt (q i0 i1)) n) m), (rf (n : Int)), rfl, (rf 0), (rf (n : Int)), zo, zo, zo⟩, fun g hg => ⟨fun hc13 => have hc13 := dT hc13; ⟨(rf (g : Int)), zo, zo, (leS (fun i0 => .qt (q g i0)) n), zo, (fun j0 hj0 => by rw [if_pos hj0, if_pos hj0]), (fun j0 hj0 => ⟨(by rw [if_neg zo]), (by rw [if_neg zo])⟩), (wI (g := g) zo), g + 1, (rf 0), (rf 0), (rf 0), zo, (rf m), (leS (fun i0 => .sl 3 (fun i1 => .qt (q i0 i1)) n) m), (rf (n : Int)), rfl, (rf 0), (rf (n : Int)), zo, (fun j0 hj0 => (by first | omega | (split <;> omega))), zo, (rf g), ⟨rfl, (fun j1 hj1 => ⟨rfl, rfl, (fun j2 hj2 => rfl), rfl, (fun j2 hj2 => rfl)⟩)⟩, (fun j0 hj0 => ⟨rfl, (fun j1 hj1 => ⟨rfl, rfl, (fun j2 hj2 => rfl), rfl, (fun j2 hj2 => rfl)⟩)⟩), zo, zo⟩, fun hc13 => have hc13 := dF hc13; have hi2 : g = m := zo; ⟨(rf 0), (rf (n : Int)), zo, (fun j0 hj0 => rfl), zo, (fun j0 hj0 => ⟨rfl, (fun j1 hj1 => ⟨rfl, rfl, (fun j2 hj2 => rfl), rfl, (fun j2 hj2 => rfl)⟩)⟩)⟩⟩⟩
def colQ (q : Nat → Nat → Rat) (c : Nat) (b : Nat → Rat) (h : Nat) : Nat → Nat → Rat := fun i j => if j = c ∧ i < h then b i else q i j
section
variable {q : Nat → Nat → Rat} {c h : Nat} {b : Nat → Rat}
theorem colQ_zero {i j : Nat} : colQ q c b 0 i j = q i j := if_neg fun e => Nat.not_lt_zero i e.2
theorem colQ_all {n i j : Nat} (hi : i < n) : colQ q c b n i j = putC q c b i j := by
 unfold colQ putC
 by_cases e : j = c
 ·rw [if_pos ⟨e, hi⟩, if_pos e]
 ·rw [if_neg fun k => e k.1, if_neg e]
theorem colQ_at : b h = colQ q c b (h + 1) h c := (if_pos ⟨rfl, Nat.lt_succ_self h⟩).symm
theorem colQ_ne {t : Nat} (e : t ≠ c) : colQ q c b (h + 1) h t = colQ q c b h h t := by unfold colQ; rw [if_neg fun k => e k.1, if_neg fun k => e k.1]
theorem colQ_row {t : Nat} (e : t ≠ h) : colQ q c b (h + 1) t = colQ q c b h t := by
 funext j
 unfold colQ
 by_cases k : j = c ∧ t < h
 ·rw [if_pos k, if_pos ⟨k.1, by omega⟩]
 ·rw [if_neg k, if_neg fun k2 => k ⟨k2.1, by omega⟩]
theorem putC_ht {n E : Nat} (hq : ∀ i, i < n → ∀ j, j < n → htq (q i j) ≤ E) (hb : ∀ i, i < n → htq (b i) ≤ E) : ∀ i, i < n → ∀ j, j < n → htq (putC q c b i j) ≤ E := fun i hi j hj => by
 unfold putC
 split
 ·exact hb i hi
 ·exact hq i hi j hj
end
theorem cramer_room {n E : Nat} {q : Nat → Nat → Rat} {b : Nat → Rat} (hn : n ≤ 6) (hE : E ≤ 1000) (hq : ∀ i, i < n → ∀ j, j < n → htq (q i j) ≤ E) (hb : ∀ i, i < n → htq (b i) ≤ E) : ∀ g, g < n → szq (det n (putC q g b)) + szq (det n q) ≤ 16777216 := fun g _ => by
 have h1 := (det_ht n hq).1
 have h2 := (det_ht n (putC_ht (c := g) hq hb)).1
 have h3 := dB_le hE n hn
 have := sz_ht (det n q)
 have := sz_ht (det n (putC q g b))
 omega
theorem sRCramer {q : Nat → Nat → Rat} {b : Nat → Rat} {n E : Nat} (hn : n ≤ 6) (hE : E ≤ 1000) (hq : ∀ i, i < n → ∀ j, j < n → htq (q i j) ≤ E) (hb : ∀ i, i < n → htq (b i) ≤ E) (hd : det n q ≠ 0) : CallOK Tryz.prog 17 [.agg (.cn (.sl 1 (fun i0 => .sl 3 (fun i1 => .qt (q i0 i1)) n) n) (.cn (.ex (.int .i64 (n : Int))) (.nl))), .sl 3 (fun i0 => .qt (b i0)) n] (.sl 3 (fun i0 => .qt (det n (putC q i0 b) / det n q)) n) [] := by
 have hR := cramer_room hn hE hq hb
 exact kP (ch := [.reg 1 [(1, .callS (.qt (det n q)) [])], .loop 4 (Nat) (fun g => g ≤ n) (fun g => n - g) (fun g => ⟨[(1, .sl 3 (fun i0 => .qt (b i0)) n), (2, .own 0 0), (5, .own 1 0), (6, .own 2 0), (7, .ex (.int .i64 (g : Int)))], [(0, .one (.var 34 (.agg (.cn (.sl 1 (fun i0 => .sl 3 (fun i1 => .qt (q i0 i1)) n) n) (.cn (.ex (.int .i64 (n : Int))) (.nl)))))), (1, .one (.var 56 (.qt (det n q)))), (2, .one (.row 56 3 (fun i0 => .qt (det n (putC q i0 b) / det n q)) g))], 3⟩) [(0, .id 0), (1, .id 1), (2, .nil)] (fun _ => [(0, .id 0), (1, .id 1), (2, .id 6)]) (fun g => [.reg 6 [(1, .callS (.agg (.cn (.own 0 0) (.cn (.ex (.int .i64 (n : Int))) (.nl)))) [.one (.row 46 1 (fun i0 => .own 1 i0) n), .fam n (fun i0 => .row 56 3 (fun i1 => .qt (q i0 i1)) n)])], .loop 8 (Nat) (fun h => h ≤ n) (fun h => n - h) (fun h => ⟨[(1, .sl 3 (fun i0 => .qt (b i0)) n), (2, .own 0 0), (5, .own 1 0), (6, .own 2 0), (7, .ex (.int .i64 (g : Int))), (8, .own 3 0), (9, .ex (.int .i64 (h : Int)))], [(0, .one (.var 34 (.agg (.cn (.sl 1 (fun i0 => .sl 3 (fun i1 => .qt (q i0 i1)) n) n) (.cn (.ex (.int .i64 (n : Int))) (.nl)))))), (1, .one (.var 56 (.qt (det n q)))), (2, .one (.row 56 3 (fun i0 => .qt (det n (putC q i0 b) / det n q)) g)), (3, .one (.var 34 (.agg (.cn (.own 4 0) (.cn (.ex (.int .i64 (n : Int))) (.nl)))))), (4, .one (.row 46 1 (fun i0 => .own 5 i0) n)), (5, .fam n (fun i0 => .row 56 3 (fun i1 => .qt ((colQ q g b h) i0 i1)) n))], 6⟩) [(0, .id 0), (1, .id 1), (2, .id 2), (3, .id 5), (4, .id 3), (5, .id 4)] (fun _ => [(0, .id 0), (1, .id 1), (2, .id 2), (3, .id 3), (4, .id 4), (5, .id 5)]) (fun h => [.reg 10 [(3, .k h), (8, .k h), (10, .k g), (11, .rowF (fun i0 => .qt ((colQ q g b (h + 1)) h i0)) (fun i0 => .row 56 3 (fun i1 => .qt ((colQ q g b (h + 1)) i0 i1)) n))], .reg 9 [(1, .z ((h + 1 : Nat) : Int))], .conv 11 [(0, .id 0), (1, .id 1), (2, .id 2), (3, .id 3)] ⟨[(1, .sl 3 (fun i0 => .qt (b i0)) n), (2, .own 0 0), (5, .own 1 0), (6, .own 2 0), (7, .ex (.int .i64 (g : Int))), (8, .own 3 0)], [(0, .one (.var 34 (.agg (.cn (.sl 1 (fun i0 => .sl 3 (fun i1 => .qt (q i0 i1)) n) n) (.cn (.ex (.int .i64 (n : Int))) (.nl)))))), (1, .one (.var 56 (.qt (det n q)))), (2, .one (.row 56 3 (fun i0 => .qt (det n (putC q i0 b) / det n q)) g)), (3, .one (.var 34 (.agg (.cn (.sl 1 (fun i0 => .sl 3 (fun i1 => .qt (putC q g b i0 i1)) n) n) (.cn (.ex (.int .i64 (n : Int))) (.nl))))))], 6⟩, .reg 11 [(2, .callS (.qt (det n (putC q g b))) []), (4, .callS (.qt ((det n (putC q g b)) / (det n q))) []), (6, .row 0 (fun i0 => .qt (det n (putC q i0 b) / det n q)))], .reg 5 [(1, .z ((g + 1 : Nat) : Int))]])])]) Tryz.func17 ((∀ j0, j0 < n → (∀ j1, j1 < n → (∀ j2, j2 < (nd (((q j0 j1).num).natAbs)) → True) ∧ (∀ j2, j2 < (nd ((q j0 j1).den)) → True))) ∧ (∀ j0, j0 < n → (∀ j1, j1 < (nd (((b j0).num).natAbs)) → True) ∧ (∀ j1, j1 < (nd ((b j0).den)) → True)) ∧ (CallOK Tryz.prog 20 [.agg (.cn (.sl 1 (fun i0 => .sl 3 (fun i1 => .qt (q i0 i1)) n) n) (.cn (.ex (.int .i64 (n : Int))) (.nl)))] (.qt (det n q)) []) ∧ (((fun X1 X2 X3 X4 X5 X6 X7 X8 X9 X10 X11 X12 X13 : Prop => ∃ g0 : Nat, X1 ∧ X2 ∧ X3 ∧ X4 ∧ X5 ∧ ((0 : Int) = (g0 : Int)) ∧ X6 ∧ X7 ∧ X8 ∧ X9 ∧ X10 ∧ X11 ∧ X12 ∧ X13 ∧ ((g0 : Nat) = 0) ∧ (g0 ≤ n)) _ _ _ _ _ _ _ _ _ _ _ _ _) ∧ ∀ g : Nat, (g ≤ n) → (((decide ((g : Int) < (n : Int))) = true → _ ∧ (((fun X1 X2 X3 X4 X5 X6 X7 X8 X9 X10 X11 X12 X13 X14 X15 X16 X17 X18 X19 X20 X21 : Prop => ∃ h0 : Nat, X1 ∧ X2 ∧ X3 ∧ X4 ∧ X5 ∧ X6 ∧ X7 ∧ ((0 : Int) = (h0 : Int)) ∧ X8 ∧ X9 ∧ X10 ∧ X11 ∧ X12 ∧ X13 ∧ X14 ∧ X15 ∧ X16 ∧ X17 ∧ X18 ∧ X19 ∧ X20 ∧ (∀ j0, j0 < n → ((j0 : Nat) = j0)) ∧ X21 ∧ (∀ j0, j0 < n → ((n : Nat) = n) ∧ (∀ j1, j1 < n → ((decide (((q j0 j1).num) < 0) : Bool) = (decide ((((colQ q g b h0) j0 j1).num) < 0))) ∧ ((nd (((q j0 j1).num).natAbs) : Nat) = (nd ((((colQ q g b h0) j0 j1).num).natAbs))) ∧ (∀ j2, j2 < (nd (((q j0 j1).num).natAbs)) → (((dg (((q j0 j1).num).natAbs) j2 : Nat) : Int) = (dg ((((colQ q g b h0) j0 j1).num).natAbs) j2 : Int))) ∧ ((nd ((q j0 j1).den) : Nat) = (nd (((colQ q g b h0) j0 j1).den))) ∧ (∀ j2, j2 < (nd ((q j0 j1).den)) → (((dg ((q j0 j1).den) j2 : Nat) : Int) = (dg (((colQ q g b h0) j0 j1).den) j2 : Int))))) ∧ (h0 ≤ n)) _ _ _ _ _ _ _ _ _ _ _ _ _ _ _ _ _ _ _ _ _) ∧ ∀ h : Nat, (h ≤ n) → (((decide ((h : Int) < (n : Int))) = true → _ ∧ (h < n) ∧ (h < n) ∧ _ ∧ (h < n) ∧ _ ∧ (g < n) ∧ (h < n) ∧ (g < n) ∧ (((decide (((b h).num) < 0) : Bool) = (decide ((((colQ q g b (h + 1)) h g).num) < 0))) ∧ ((nd (((b h).num).natAbs) : Nat) = (nd ((((colQ q g b (h + 1)) h g).num).natAbs))) ∧ (∀ j0, j0 < (nd (((b h).num).natAbs)) → (((dg (((b h).num).natAbs) j0 : Nat) : Int) = (dg ((((colQ q g b (h + 1)) h g).num).natAbs) j0 : Int))) ∧ ((nd ((b h).den) : Nat) = (nd (((colQ q g b (h + 1)) h g).den))) ∧ (∀ j0, j0 < (nd ((b h).den)) → (((dg ((b h).den) j0 : Nat) : Int) = (dg (((colQ q g b (h + 1)) h g).den) j0 : Int)))) ∧ (∀ t, t < n → t ≠ g → (.qt ((colQ q g b (h + 1)) h t) : SV) = .qt ((colQ q g b h) h t)) ∧ (h < n) ∧ ((.row 56 3 (fun i0 => .qt ((colQ q g b (h + 1)) h i0)) n : OB) = .row 56 3 (fun i0 => .qt ((colQ q g b (h + 1)) h i0)) n) ∧ (∀ t, t < n → t ≠ h → (.row 56 3 (fun i0 => .qt ((colQ q g b (h + 1)) t i0)) n : OB) = .row 56 3 (fun i0 => .qt ((colQ q g b h) t i0)) n) ∧ _ ∧ ((fun X1 X2 X3 X4 X5 X6 X7 X8 X9 X10 X11 X12 X13 X14 X15 X16 X17 X18 X19 X20 X21 : Prop => ∃ h1 : Nat, X1 ∧ X2 ∧ X3 ∧ X4 ∧ X5 ∧ X6 ∧ X7 ∧ (((h + 1 : Nat) : Int) = (h1 : Int)) ∧ X8 ∧ X9 ∧ X10 ∧ X11 ∧ X12 ∧ X13 ∧ X14 ∧ X15 ∧ X16 ∧ X17 ∧ X18 ∧ X19 ∧ X20 ∧ (∀ j0, j0 < n → ((j0 : Nat) = j0)) ∧ X21 ∧ (∀ j0, j0 < n → ((n : Nat) = n) ∧ (∀ j1, j1 < n → ((decide ((((colQ q g b (h + 1)) j0 j1).num) < 0) : Bool) = (decide ((((colQ q g b h1) j0 j1).num) < 0))) ∧ ((nd ((((colQ q g b (h + 1)) j0 j1).num).natAbs) : Nat) = (nd ((((colQ q g b h1) j0 j1).num).natAbs))) ∧ (∀ j2, j2 < (nd ((((colQ q g b (h + 1)) j0 j1).num).natAbs)) → (((dg ((((colQ q g b (h + 1)) j0 j1).num).natAbs) j2 : Nat) : Int) = (dg ((((colQ q g b h1) j0 j1).num).natAbs) j2 : Int))) ∧ ((nd (((colQ q g b (h + 1)) j0 j1).den) : Nat) = (nd (((colQ q g b h1) j0 j1).den))) ∧ (∀ j2, j2 < (nd (((colQ q g b (h + 1)) j0 j1).den)) → (((dg (((colQ q g b (h + 1)) j0 j1).den) j2 : Nat) : Int) = (dg (((colQ q g b h1) j0 j1).den) j2 : Int))))) ∧ (h1 ≤ n) ∧ (n - h1 < n - h)) _ _ _ _ _ _ _ _ _ _ _ _ _ _ _ _ _ _ _ _ _)) ∧ ((decide ((h : Int) < (n : Int))) = false → _ ∧ _ ∧ _ ∧ _ ∧ _ ∧ _ ∧ _ ∧ _ ∧ _ ∧ _ ∧ _ ∧ _ ∧ _ ∧ _ ∧ _ ∧ _ ∧ _ ∧ _ ∧ (∀ j0, j0 < n → ((n : Nat) = n) ∧ (∀ j1, j1 < n → ((decide ((((colQ q g b h) j0 j1).num) < 0) : Bool) = (decide (((putC q g b j0 j1).num) < 0))) ∧ ((nd ((((colQ q g b h) j0 j1).num).natAbs) : Nat) = (nd (((putC q g b j0 j1).num).natAbs))) ∧ (∀ j2, j2 < (nd ((((colQ q g b h) j0 j1).num).natAbs)) → (((dg ((((colQ q g b h) j0 j1).num).natAbs) j2 : Nat) : Int) = (dg (((putC q g b j0 j1).num).natAbs) j2 : Int))) ∧ ((nd (((colQ q g b h) j0 j1).den) : Nat) = (nd ((putC q g b j0 j1).den))) ∧ (∀ j2, j2 < (nd (((colQ q g b h) j0 j1).den)) → (((dg (((colQ q g b h) j0 j1).den) j2 : Nat) : Int) = (dg ((putC q g b j0 j1).den) j2 : Int)))) ∧ (j0 < n)) ∧ _ ∧ (CallOK Tryz.prog 20 [.agg (.cn (.sl 1 (fun i0 => .sl 3 (fun i1 => .qt (putC q g b i0 i1)) n) n) (.cn (.ex (.int .i64 (n : Int))) (.nl)))] (.qt (det n (putC q g b))) []) ∧ _ ∧ (g + 1 ≤ 68719476736) ∧ _ ∧ _ ∧ _ ∧ ((fun X1 X2 X3 X4 X5 X6 X7 X8 X9 X10 X11 X12 X13 X14 : Prop => ∃ g1 : Nat, X1 ∧ X2 ∧ X3 ∧ X4 ∧ X5 ∧ (((g + 1 : Nat) : Int) = (g1 : Int)) ∧ X6 ∧ X7 ∧ X8 ∧ X9 ∧ X10 ∧ X11 ∧ X12 ∧ X13 ∧ ((g + 1 : Nat) = g1) ∧ X14 ∧ (g1 ≤ n) ∧ (n - g1 < n - g)) _ _ _ _ _ _ _ _ _ _ _ _ _ _))))) ∧ ((decide ((g : Int) < (n : Int))) = false → (((g : Nat) = n) ∧ _)))))
  ⟨(fun _ _ => (fun _ _ => ⟨(fun _ _ => trivial), (fun _ _ => trivial)⟩)), (fun _ _ => ⟨(fun _ _ => trivial), (fun _ _ => trivial)⟩), (sRDet (q := q) hE n hn hq), ⟨0, (rf n), (leS (fun i0 => .qt (b i0)) n), (rf 0), (rf 0), (rf 0), zo, (rf n), (leS (fun i0 => .sl 3 (fun i1 => .qt (q i0 i1)) n) n), (rf (n : Int)), (rf (decide (((det n q).num) < 0) : Bool)), (rf (nd (((det n q).num).natAbs) : Nat)), (leS (fun i0 => .ex (.int .i64 (dg (((det n q).num).natAbs) i0 : Int))) (nd (((det n q).num).natAbs))), (rf (nd ((det n q).den) : Nat)), (leS (fun i0 => .ex (.int .i64 (dg ((det n q).den) i0 : Int))) (nd ((det n q).den))), zo, zo⟩, fun g hg => ⟨fun hc15 => have hc15 := dT hc15; have hgn : g < n := zo; ⟨(sRCopy (m := n) (n := n) (q := q) zo zo), ⟨0, (rf n), (leS (fun i0 => .qt (b i0)) n), (rf 0), (rf 0), (rf 0), (rf (g : Int)), (rf 0), zo, (rf n), (leS (fun i0 => .sl 3 (fun i1 => .qt (q i0 i1)) n) n), (rf (n : Int)), (rf (decide (((det n q).num) < 0) : Bool)), (rf (nd (((det n q).num).natAbs) : Nat)), (leS (fun i0 => .ex (.int .i64 (dg (((det n q).num).natAbs) i0 : Int))) (nd (((det n q).num).natAbs))), (rf (nd ((det n q).den) : Nat)), (leS (fun i0 => .ex (.int .i64 (dg ((det n q).den) i0 : Int))) (nd ((det n q).den))), (rf g), (leS (fun i0 => .qt (det n (putC q i0 b) / det n q)) g), (rf 0), (rf (n : Int)), (rf n), (fun j0 hj0 => rfl), (rf n), (fun j0 hj0 => ⟨rfl, (fun j1 hj1 => ⟨(by rw [colQ_zero]), (by rw [colQ_zero]), (fun j2 hj2 => (by rw [colQ_zero])), (by rw [colQ_zero]), (fun j2 hj2 => (by rw [colQ_zero]))⟩)⟩), zo⟩, fun h hh => ⟨fun hc24 => have hc24 := dT hc24; ⟨(rf (h : Int)), zo, zo, (rf (h : Int)), zo, (rf (g : Int)), zo, zo, zo, ⟨(by rw [← colQ_at]), (by rw [← colQ_at]), (fun j0 hj0 => (by rw [← colQ_at])), (by rw [← colQ_at]), (fun j0 hj0 => (by rw [← colQ_at]))⟩, (fun t ht hne => by simp only [colQ_ne hne]), zo, rfl, (fun t ht hne => by simp only [colQ_row hne]), (wI (g := h) zo), h + 1, (rf n), (leS (fun i0 => .qt (b i0)) n), (rf 0), (rf 0), (rf 0), (rf (g : Int)), (rf 0), zo, (rf n), (leS (fun i0 => .sl 3 (fun i1 => .qt (q i0 i1)) n) n), (rf (n : Int)), (rf (decide (((det n q).num) < 0) : Bool)), (rf (nd (((det n q).num).natAbs) : Nat)), (leS (fun i0 => .ex (.int .i64 (dg (((det n q).num).natAbs) i0 : Int))) (nd (((det n q).num).natAbs))), (rf (nd ((det n q).den) : Nat)), (leS (fun i0 => .ex (.int .i64 (dg ((det n q).den) i0 : Int))) (nd ((det n q).den))), (rf g), (leS (fun i0 => .qt (det n (putC q i0 b) / det n q)) g), (rf 0), (rf (n : Int)), (rf n), (fun j0 hj0 => rfl), (rf n), (fun j0 hj0 => ⟨rfl, (fun j1 hj1 => ⟨rfl, rfl, (fun j2 hj2 => rfl), rfl, (fun j2 hj2 => rfl)⟩)⟩), zo, zo⟩, fun hc24 => have hc24 := dF hc24; have hi3 : h = n := zo; ⟨(rf n), (leS (fun i0 => .qt (b i0)) n), (rf 0), (rf 0), (rf 0), (rf (g : Int)), (rf 0), (rf n), (leS (fun i0 => .sl 3 (fun i1 => .qt (q i0 i1)) n) n), (rf (n : Int)), (rf (decide (((det n q).num) < 0) : Bool)), (rf (nd (((det n q).num).natAbs) : Nat)), (leS (fun i0 => .ex (.int .i64 (dg (((det n q).num).natAbs) i0 : Int))) (nd (((det n q).num).natAbs))), (rf (nd ((det n q).den) : Nat)), (leS (fun i0 => .ex (.int .i64 (dg ((det n q).den) i0 : Int))) (nd ((det n q).den))), (rf g), (leS (fun i0 => .qt (det n (putC q i0 b) / det n q)) g), (rf n), (fun j0 hj0 => ⟨rfl, (fun j1 hj1 => ⟨(by rw [hi3, colQ_all (by assumption)]), (by rw [hi3, colQ_all (by assumption)]), (fun j2 hj2 => (by rw [hi3, colQ_all (by assumption)])), (by rw [hi3, colQ_all (by assumption)]), (fun j2 hj2 => (by rw [hi3, colQ_all (by assumption)]))⟩), zo⟩), (rf (n : Int)), (sRDet (q := (putC q g b)) hE n hn (putC_ht hq hb)), sQDiv (p := det n (putC q g b)) (q := det n q) (hR g hgn) hd, zo, (oldS (fun i0 => .qt (det n (putC q i0 b) / det n q)) g), (newS (fun i0 => .qt (det n (putC q i0 b) / det n q)) g), (wI (g := g) zo), g + 1, (rf n), (leS (fun i0 => .qt (b i0)) n), (rf 0), (rf 0), (rf 0), zo, (rf n), (leS (fun i0 => .sl 3 (fun i1 => .qt (q i0 i1)) n) n), (rf (n : Int)), (rf (decide (((det n q).num) < 0) : Bool)), (rf (nd (((det n q).num).natAbs) : Nat)), (leS (fun i0 => .ex (.int .i64 (dg (((det n q).num).natAbs) i0 : Int))) (nd (((det n q).num).natAbs))), (rf (nd ((det n q).den) : Nat)), (leS (fun i0 => .ex (.int .i64 (dg ((det n q).den) i0 : Int))) (nd ((det n q).den))), zo, (leS (fun i0 => .qt (det n (putC q i0 b) / det n q)) (g + 1)), zo, zo⟩⟩⟩, fun hc15 => have hc15 := dF hc15; have hi2 : g = n := zo; ⟨hi2, (leS (fun i0 => .qt (det n (putC q i0 b) / det n q)) g)⟩⟩⟩
open Go.RowKit
def lenW (n g r : Nat) : Nat := if r < g then n + 1 else n
theorem lenW_self {n g : Nat} : lenW n g g = n := if_neg (Nat.lt_irrefl g)
theorem lenW_at {n g : Nat} : lenW n (g + 1) g = n + 1 := if_pos (Nat.lt_succ_self g)
theorem lenW_ne {n g r : Nat} (h : r ≠ g) : lenW n g r = lenW n (g + 1) r := by
 unfold lenW
 by_cases h1 : r < g
 ·rw [if_pos h1, if_pos zo]
 ·rw [if_neg h1, if_neg zo]
theorem lenW_zero {n r : Nat} : n = lenW n 0 r := (if_neg (Nat.not_lt_zero r)).symm
theorem lenW_all {n g r : Nat} (h : r < g) : lenW n g r = n + 1 := if_pos h
theorem wideQ_new {n k : Nat} {q : Nat → Nat → Rat} {v : Nat → Rat} {r : Nat} (h : k = n) : v r = wideQ n q v r k := by rw [h, wideQ_n]
theorem sMatCopyO {q : Nat → Nat → Rat} {m n : Nat} (hm : m ≤ 68719476736) (hn : n ≤ 68719476736) : CallOK Tryz.prog 118 [.agg (.cn (.sl 1 (mE q n) m) (.cn (.ex (.int .i64 (n : Int))) (.nl)))] (.agg (.cn (.own 0 0) (.cn (.ex (.int .i64 (n : Int))) (.nl)))) [.one (.row 40 1 (fun i0 => .own 1 i0) m), .fam m (fun i0 => .row 66 3 (fun i1 => .rat (q i0 i1)) n)] := by
 exact kP (ch := [.loop 3 (Nat) (fun g => g ≤ m) (fun g => m - g) (fun g => ⟨[(1, .own 0 0), (2, .own 1 0), (3, .own 2 0), (10, .sl 1 (mE q n) m), (11, .ex (.int .i64 (m : Int))), (12, .ex (.int .i64 (g : Int)))], [(0, .one (.var 29 (.agg (.cn (.sl 1 (mE q n) m) (.cn (.ex (.int .i64 (n : Int))) (.nl)))))), (1, .one (.var 29 (.ex (.agg #[.slice none 0 0, .int .i64 0])))), (2, .one (.var 29 (.agg (.cn (.own 3 0) (.cn (.ex (.int .i64 (n : Int))) (.nl)))))), (3, .one (.row 40 1 (fun i0 => .own 4 i0) g)), (4, .fam g (fun i0 => .row 66 3 (fun i1 => .rat (q i0 i1)) n))], 5⟩) [(0, .id 0), (1, .id 1), (2, .id 2), (3, .nil), (4, .emp)] (fun g => [(0, .id 0), (1, .id 1), (2, .id 2), (3, .id 6), (4, .put 4 g 5)]) (fun g => [.reg 4 [(0, .k g)], .reg 5 [(3, .callS (.own 0 0) [.one (.row 66 3 (fun i0 => .rat (q g i0)) n)]), (5, .row 0 (fun i0 => .own (if i0 < g then 4 else 5) (if i0 < g then i0 else 0)))], .reg 6 [(0, .z ((g + 1 : Nat) : Int))], .ret 7 [(0, .id 3), (1, .id 4)]])]) Tryz.func118 ((∀ j0, j0 < m → (∀ j1, j1 < n → True)) ∧ (((fun X1 X2 X3 X4 X5 X6 X7 X8 X9 X10 X11 : Prop => ∃ g0 : Nat, X1 ∧ X2 ∧ X3 ∧ X4 ∧ X5 ∧ X6 ∧ ((0 : Int) = (g0 : Int)) ∧ X7 ∧ X8 ∧ X9 ∧ ((.agg #[.slice none 0 0, .int .i64 0] : Value) = .agg #[.slice none 0 0, .int .i64 0]) ∧ X10 ∧ X11 ∧ ((g0 : Nat) = 0) ∧ ((g0 : Nat) = 0) ∧ (g0 ≤ m)) _ _ _ _ _ _ _ _ _ _ _) ∧ ∀ g : Nat, (g ≤ m) → (((decide ((g : Int) < (m : Int))) = true → _ ∧ (g < m) ∧ _ ∧ (g + 1 ≤ 68719476736) ∧ (∀ j0, j0 < g → (.own (if j0 < g then 4 else 5) (if j0 < g then j0 else 0) : SV) = .own 4 j0) ∧ (∀ j0, j0 < 1 → ((5 : Nat) = (if g + j0 < g then 4 else 5)) ∧ ((0 : Nat) = (if g + j0 < g then g + j0 else 0))) ∧ _ ∧ ((fun X1 X2 X3 X4 X5 X6 X7 X8 X9 X10 X11 X12 : Prop => ∃ g1 : Nat, X1 ∧ X2 ∧ X3 ∧ X4 ∧ X5 ∧ X6 ∧ (((g + 1 : Nat) : Int) = (g1 : Int)) ∧ X7 ∧ X8 ∧ X9 ∧ ((.agg #[.slice none 0 0, .int .i64 0] : Value) = .agg #[.slice none 0 0, .int .i64 0]) ∧ X10 ∧ X11 ∧ ((g + 1 : Nat) = g1) ∧ (∀ j0, j0 < (g + 1) → (((if j0 < g then 4 else 5 : Nat) = 5 ∧ (if j0 < g then j0 else 0 : Nat) = 0 ∧ (j0 : Nat) = g) ∨ ((if j0 < g then 4 else 5 : Nat) = 4 ∧ (if j0 < g then j0 else 0 : Nat) = j0 ∧ (j0 : Nat) ≠ g))) ∧ ((g1 : Nat) = g + 1) ∧ X12 ∧ (((n : Nat) = n) ∧ (∀ j1, j1 < n → ((q g j1 : Rat) = (q g j1)))) ∧ (∀ j0, j0 < g → ((n : Nat) = n) ∧ (∀ j1, j1 < n → ((q j0 j1 : Rat) = (q j0 j1)))) ∧ (g1 ≤ m) ∧ (m - g1 < m - g)) _ _ _ _ _ _ _ _ _ _ _ _)) ∧ ((decide ((g : Int) < (m : Int))) = false → (_ ∧ _ ∧ ((g : Nat) = m) ∧ (∀ j0, j0 < g → ((j0 : Nat) = j0)) ∧ ((g : Nat) = m) ∧ (∀ j0, j0 < g → ((n : Nat) = n) ∧ (∀ j1, j1 < n → ((q j0 j1 : Rat) = (q j0 j1)))))))))
  ⟨(fun _ _ => (fun _ _ => trivial)), ⟨0, (rf 0), (rf 0), (rf 0), (rf m), (leS (mE q n) m), (rf (m : Int)), zo, (rf m), (leS (mE q n) m), (rf (n : Int)), rfl, (rf 0), (rf (n : Int)), zo, zo, zo⟩, fun g hg => ⟨fun hc13 => have hc13 := dT hc13; ⟨(rf (g : Int)), zo, sVecCopy (n := n) (q := (fun i => q g i)) zo, zo, (fun j0 hj0 => by rw [if_pos hj0, if_pos hj0]), (fun j0 hj0 => ⟨(by rw [if_neg zo]), (by rw [if_neg zo])⟩), (wI (g := g) zo), g + 1, (rf 0), (rf 0), (rf 0), (rf m), (leS (mE q n) m), (rf (m : Int)), zo, (rf m), (leS (mE q n) m), (rf (n : Int)), rfl, (rf 0), (rf (n : Int)), zo, (fun j0 hj0 => (by first | omega | (split <;> omega))), zo, (rf g), ⟨rfl, (fun j1 hj1 => rfl)⟩, (fun j0 hj0 => ⟨rfl, (fun j1 hj1 => rfl)⟩), zo, zo⟩, fun hc13 => have hc13 := dF hc13; have hi2 : g = m := zo; ⟨(rf 0), (rf (n : Int)), zo, (fun j0 hj0 => rfl), zo, (fun j0 hj0 => ⟨rfl, (fun j1 hj1 => rfl)⟩)⟩⟩⟩
theorem sMatWithCol {q : Nat → Nat → Rat} {v : Nat → Rat} {m n : Nat} (hm : m ≤ 68719476736) (hn : n < 64) : CallOK Tryz.prog 75 [.agg (.cn (.sl 1 (mE q n) m) (.cn (.ex (.int .i64 (n : Int))) (.nl))), .sl 3 (fun i0 => .rat (v i0)) m] (.cn (.agg (.cn (.sl 1 (mE (wideQ n q v) (n + 1)) m) (.cn (.ex (.int .i64 ((n + 1 : Nat) : Int))) (.nl)))) (.cn (.ex (.bool true)) (.nl))) [] := by
 exact kP (ch := [.dec 18 false, .reg 3 [(1, .callS (.agg (.cn (.own 0 0) (.cn (.ex (.int .i64 (n : Int))) (.nl)))) [.one (.row 40 1 (fun i0 => .own 1 i0) m), .fam m (fun i0 => .row 66 3 (fun i1 => .rat (q i0 i1)) n)])], .reg 4 [(2, .z ((n + 1 : Nat) : Int))], .loop 6 (Nat) (fun g => g ≤ m) (fun g => m - g) (fun g => ⟨[(1, .sl 3 (fun i0 => .rat (v i0)) m), (2, .own 0 0), (4, .own 1 0), (6, .own 4 0), (28, .ex (.int .i64 (m : Int))), (29, .ex (.int .i64 (g : Int)))], [(0, .one (.var 29 (.agg (.cn (.sl 1 (mE q n) m) (.cn (.ex (.int .i64 (n : Int))) (.nl)))))), (1, .one (.var 29 (.ex (.agg #[.slice none 0 0, .int .i64 0])))), (2, .one (.row 40 1 (fun i0 => .own 3 i0) m)), (3, .fam m (fun i0 => .row 66 3 (fun i1 => .rat (wideQ n q v i0 i1)) (lenW n g i0))), (4, .one (.var 29 (.agg (.cn (.own 2 0) (.cn (.ex (.int .i64 ((n + 1 : Nat) : Int))) (.nl))))))], 5⟩) [(0, .id 0), (1, .id 1), (2, .id 2), (3, .id 3), (4, .id 4)] (fun g => [(0, .id 0), (1, .id 1), (2, .id 2), (3, .put 3 g 5), (4, .id 4)]) (fun g => [.reg 8 [(6, .k g), (10, .k g), (13, .row 0 (fun i0 => .rat (wideQ n q v g i0))), (14, .k g), (15, .row 0 (fun i0 => .own (if i0 = g then 5 else 3) (if i0 = g then 0 else i0)))], .reg 9 [(0, .z ((g + 1 : Nat) : Int))]])]) Tryz.func75 (let y0 := ((!decide ((m : Int) = (m : Int))) == false); (∀ j0, j0 < m → (∀ j1, j1 < n → True)) ∧ (∀ j0, j0 < m → True) ∧ (y0 = true → y0 = true) ∧ (y0 = true → y0 = true) ∧ ((!(!decide ((m : Int) = (m : Int)))) = true → y0 = true) ∧ ((bif (!decide ((m : Int) = (m : Int))) then true else (decide ((64 : Int) ≤ (n : Int)))) = false) ∧ (CallOK Tryz.prog 118 [.agg (.cn (.sl 1 (mE q n) m) (.cn (.ex (.int .i64 (n : Int))) (.nl)))] (.agg (.cn (.own 0 0) (.cn (.ex (.int .i64 (n : Int))) (.nl)))) [.one (.row 40 1 (fun i0 => .own 1 i0) m), .fam m (fun i0 => .row 66 3 (fun i1 => .rat (q i0 i1)) n)]) ∧ _ ∧ (((fun X1 X2 X3 X4 X5 X6 X7 X8 X9 X10 X11 X12 X13 : Prop => ∃ g0 : Nat, X1 ∧ X2 ∧ X3 ∧ X4 ∧ X5 ∧ X6 ∧ ((0 : Int) = (g0 : Int)) ∧ X7 ∧ X8 ∧ X9 ∧ ((.agg #[.slice none 0 0, .int .i64 0] : Value) = .agg #[.slice none 0 0, .int .i64 0]) ∧ X10 ∧ (∀ j0, j0 < m → ((j0 : Nat) = j0)) ∧ X11 ∧ (∀ j0, j0 < m → ((n : Nat) = (lenW n g0 j0)) ∧ (∀ j1, j1 < n → ((q j0 j1 : Rat) = (wideQ n q v j0 j1)))) ∧ X12 ∧ X13 ∧ (g0 ≤ m)) _ _ _ _ _ _ _ _ _ _ _ _ _) ∧ ∀ g : Nat, (g ≤ m) → (((decide ((g : Int) < (m : Int))) = true → _ ∧ (g < m) ∧ (g < m) ∧ _ ∧ (g < m) ∧ ((lenW n g g) + 1 ≤ 68719476736) ∧ _ ∧ (∀ j0, j0 < 1 → ((v g : Rat) = (wideQ n q v g ((lenW n g g) + j0)))) ∧ (g < m) ∧ _ ∧ (g < m) ∧ (g < m) ∧ (((5 : Nat) = (if g = g then 5 else 3)) ∧ ((0 : Nat) = (if g = g then 0 else g))) ∧ (∀ t, t < m → t ≠ g → (.own (if t = g then 5 else 3) (if t = g then 0 else t) : SV) = .own 3 t) ∧ _ ∧ ((fun X1 X2 X3 X4 X5 X6 X7 X8 X9 X10 X11 X12 X13 X14 : Prop => ∃ g1 : Nat, X1 ∧ X2 ∧ X3 ∧ X4 ∧ X5 ∧ X6 ∧ (((g + 1 : Nat) : Int) = (g1 : Int)) ∧ X7 ∧ X8 ∧ X9 ∧ ((.agg #[.slice none 0 0, .int .i64 0] : Value) = .agg #[.slice none 0 0, .int .i64 0]) ∧ X10 ∧ (∀ j0, j0 < m → (((if j0 = g then 5 else 3 : Nat) = 5 ∧ (if j0 = g then 0 else j0 : Nat) = 0 ∧ (j0 : Nat) = g) ∨ ((if j0 = g then 5 else 3 : Nat) = 3 ∧ (if j0 = g then 0 else j0 : Nat) = j0 ∧ (j0 : Nat) ≠ g))) ∧ X11 ∧ X12 ∧ (g < m) ∧ ((((lenW n g g) + 1 : Nat) = (lenW n g1 g)) ∧ (∀ j1, j1 < ((lenW n g g) + 1) → ((wideQ n q v g j1 : Rat) = (wideQ n q v g j1)))) ∧ (∀ j0, j0 < m → j0 ≠ g → ((lenW n g j0 : Nat) = (lenW n g1 j0)) ∧ (∀ j1, j1 < (lenW n g j0) → ((wideQ n q v j0 j1 : Rat) = (wideQ n q v j0 j1)))) ∧ X13 ∧ X14 ∧ (g1 ≤ m) ∧ (m - g1 < m - g)) _ _ _ _ _ _ _ _ _ _ _ _ _ _)) ∧ ((decide ((g : Int) < (m : Int))) = false → (_ ∧ (∀ j0, j0 < m → ((lenW n g j0 : Nat) = (n + 1)) ∧ (∀ j1, j1 < (lenW n g j0) → ((wideQ n q v j0 j1 : Rat) = ((wideQ n q v) j0 j1))) ∧ (j0 < m)) ∧ _ ∧ _)))))
  ⟨(fun _ _ => (fun _ _ => trivial)), (fun _ _ => trivial), id, id, (by simp), (by simp; omega), sMatCopyO (q := q) zo zo, (wI (g := n) zo), ⟨0, (rf m), (leS (fun i0 => .rat (v i0)) m), (rf 0), (rf 0), (rf 0), (rf (m : Int)), zo, (rf m), (leS (mE q n) m), (rf (n : Int)), rfl, (rf m), (fun j0 hj0 => rfl), (rf m), (fun j0 hj0 => ⟨lenW_zero, (fun j1 hj1 => (wideQ_lt (by assumption)).symm)⟩), (rf 0), (rf ((n + 1 : Nat) : Int)), zo⟩, fun g hg => have e1 := lenW_self (n := n) (g := g); have e2 := lenW_at (n := n) (g := g); ⟨fun hc30 => have hc30 := dT hc30; ⟨(rf (g : Int)), zo, zo, (rf (g : Int)), zo, zo, (oldS (fun i0 => .rat (wideQ n q v g i0)) (lenW n g g)), (fun j0 hj0 => (wideQ_new zo)), zo, (rf (g : Int)), zo, zo, ⟨(if_pos rfl).symm, (if_pos rfl).symm⟩, (fun t ht hne => by rw [if_neg hne, if_neg hne]), (wI (g := g) zo), g + 1, (rf m), (leS (fun i0 => .rat (v i0)) m), (rf 0), (rf 0), (rf 0), (rf (m : Int)), zo, (rf m), (leS (mE q n) m), (rf (n : Int)), rfl, (rf m), (fun j0 hj0 => (by first | omega | (split <;> omega))), (rf m), (rf g), zo, ⟨(by first | exact lenW_ne (by assumption) | omega), (fun j1 hj1 => rfl)⟩, (fun j0 hj0 hne => ⟨(by first | exact lenW_ne (by assumption) | omega), (fun j1 hj1 => rfl)⟩), (rf 0), (rf ((n + 1 : Nat) : Int)), zo, zo⟩, fun hc30 => have hc30 := dF hc30; have hi2 : g = m := zo; ⟨(rf m), (fun j0 hj0 => ⟨(lenW_all zo), (fun j1 hj1 => rfl), zo⟩), (rf ((n + 1 : Nat) : Int)), (rf (true : Bool))⟩⟩⟩
def szE (s c : Nat) : Nat := (s + 3) * 9 ^ c
theorem szE_succ (s c : Nat) : szE s (c + 1) = 9 * szE s c := by unfold szE; rw [Nat.pow_succ, ← Nat.mul_assoc, Nat.mul_comm]
theorem szE_ge (s c : Nat) : s + 3 ≤ szE s c := by
 unfold szE
 exact Nat.le_mul_of_pos_right _ (Nat.pow_pos (by decide))
theorem szE_top {s c : Nat} (hs : s ≤ 1000) (hc : c ≤ 6) : szE s c ≤ 533035323 := by
 unfold szE
 have h1 : 9 ^ c ≤ 9 ^ 6 := Nat.pow_le_pow_right (by decide) hc
 calc (s + 3) * 9 ^ c ≤ 1003 * 9 ^ 6 := Nat.mul_le_mul zo h1
  _ = 533035323 := by decide
structure DetI (s n : Nat) (q : Nat → Nat → Rat) (g : Nat × (Nat → Nat → Rat) × Rat) : Prop where
 le : g.1 ≤ n
 eq : g.2.2 * cdet (n - g.1) (blk g.1 g.2.1) = cdet n q
 sz : ∀ i, i < n → ∀ j, j < n → szq (g.2.1 i j) ≤ szE s g.1
 so : szq g.2.2 ≤ 2 + g.1 * szE s g.1
theorem blk_zero (A : Nat → Nat → Rat) : blk 0 A = A := by
 funext i j
 show A (0 + i) (0 + j) = A i j
 rw [Nat.zero_add, Nat.zero_add]
theorem DetI.start {s n : Nat} {q : Nat → Nat → Rat} (hs : ∀ i, i < n → ∀ j, j < n → szq (q i j) ≤ s) : DetI s n q (0, q, 1) :=
 ⟨Nat.zero_le n, by show (1 : Rat) * cdet (n - 0) (blk 0 q) = _; rw [blk_zero, Nat.sub_zero]; grind, fun i hi j hj => Nat.le_trans (hs i hi j hj) (by have := szE_ge s 0; show s ≤ szE s 0; omega), by show szq 1 ≤ 2 + 0 * _; rw [Nat.zero_mul]; decide +kernel⟩
theorem setR_ne {A : Nat → Nat → Rat} {r t : Nat} {x : Nat → Rat} (h : t ≠ r) : setR A r x t = A t := by funext j; exact if_neg h
theorem swap_self {A : Nat → Nat → Rat} {k : Nat} : swapR A k k = A := by
 funext i j
 show A (if i = k then k else if i = k then k else i) j = A i j
 by_cases z : i = k
 ·rw [if_pos z, z]
 ·rw [if_neg z, if_neg z]
theorem swap_sz {A : Nat → Nat → Rat} {k l n B : Nat} (hk : k < n) (hl : l < n) (h : ∀ i, i < n → ∀ j, j < n → szq (A i j) ≤ B) : ∀ i, i < n → ∀ j, j < n → szq (swapR A k l i j) ≤ B := fun i hi j hj => by
 show szq (A (if i = k then l else if i = l then k else i) j) ≤ B
 refine h _ ?_ j hj
 split
 ·exact hl
 ·split
  ·exact hk
  ·exact hi
theorem elim_sz1 {a b c d : Rat} {S : Nat} (h0 : 3 ≤ S) (ha : szq a ≤ S) (hb : szq b ≤ S) (hc : szq c ≤ S) (hd : szq d ≤ S) : szq (b / c) ≤ 2 * S + 1 ∧ szq (-(b / c) * d) ≤ 3 * S + 1 ∧ szq (a + -(b / c) * d) ≤ 9 * S := by
 have h1 : szq (b / c) ≤ 2 * S + 1 := by
  rw [Rat.div_def]
  have := szq_mul b c⁻¹
  have := szq_inv c
  omega
 have h2 : szq (-(b / c) * d) ≤ 3 * S + 1 := by
  have := szq_mul (-(b / c)) d
  rw [szq_neg] at this
  omega
 have h3 := szq_add a (-(b / c) * d)
 exact ⟨h1, h2, by omega⟩
theorem elim_szB {B : Nat → Nat → Rat} {c h n S : Nat} (h0 : 3 ≤ S) (hc : c < n) (hB : ∀ i, i < n → ∀ j, j < n → szq (B i j) ≤ S) : ∀ i, i < n → ∀ j, j < n → szq (elimQ B c h i j) ≤ 9 * S := fun i hi j hj => by
 unfold elimQ
 split
 ·exact (elim_sz1 h0 (hB i hi j hj) (hB i hi c hc) (hB c hc c hc) (hB c hc j hj)).2.2
 ·have := hB i hi j hj; omega
theorem DetI.next {s n K : Nat} {q : Nat → Nat → Rat} {g : Nat × (Nat → Nat → Rat) × Rat} (H : DetI s n q g) (hc : g.1 < n) (h1 : g.1 ≤ K) (h2 : K < n) (hp : g.2.1 K g.1 ≠ 0) :
  DetI s n q (g.1 + 1, elimQ (swapR g.2.1 g.1 K) g.1 n, (if K = g.1 then g.2.2 else -g.2.2) * swapR g.2.1 g.1 K g.1 g.1) := by
 have hsw := swap_sz hc h2 H.sz
 have h0 : 3 ≤ szE s g.1 := by have := szE_ge s g.1; omega
 have hpp : swapR g.2.1 g.1 K g.1 g.1 ≠ 0 := by
  show g.2.1 (if g.1 = g.1 then K else _) g.1 ≠ 0
  rw [if_pos rfl]; exact hp
 refine ⟨hc, ?_, fun i hi j hj => ?_, ?_⟩
 ·refine det_step hc hpp ?_
  by_cases e : K = g.1
  ·subst e; rw [if_pos rfl, swap_self]; exact H.eq
  ·rw [if_neg e, swap_det zo h2, ← H.eq]; grind
 ·rw [szE_succ]; exact elim_szB h0 hc hsw i hi j hj
 ·show szq (_ * _) ≤ 2 + (g.1 + 1) * szE s (g.1 + 1)
  have h3 := szq_mul (if K = g.1 then g.2.2 else -g.2.2) (swapR g.2.1 g.1 K g.1 g.1)
  have h4 : szq (if K = g.1 then g.2.2 else -g.2.2) = szq g.2.2 := by split; rfl; exact szq_neg _
  have h5 := hsw g.1 hc g.1 hc
  have h6 := H.so
  rw [szE_succ, Nat.add_mul, Nat.one_mul]
  have h7 : g.1 * szE s g.1 ≤ g.1 * (9 * szE s g.1) := Nat.mul_le_mul_left _ zo
  omega
theorem DetI.none {s n : Nat} {q : Nat → Nat → Rat} {g : Nat × (Nat → Nat → Rat) × Rat} (H : DetI s n q g) (hc : g.1 < n) (h : leadK g.2.1 g.1 g.1 (n - g.1) = n) : cdet n q = 0 := by
 rw [← H.eq]
 exact det_none hc fun i h1 h2 => leadK_none _ _ i h1 (by rw [h]; exact h2)
theorem DetI.done {s n : Nat} {q : Nat → Nat → Rat} {g : Nat × (Nat → Nat → Rat) × Rat} (H : DetI s n q g) (h : g.1 = n) : g.2.2 = cdet n q := by
 rw [← H.eq, h, Nat.sub_self]
 show _ = g.2.2 * 1
 grind
end Go.Proofs.YtlgbhpdblpekfaaGreat
