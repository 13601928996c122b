/- The parts Lu, SU, LuS, SCl, SU2, SH, SI, SRM. -/
import Derived.Test.YtlgbhpdblpekfaaGreatU5
set_option maxRecDepth 100000
namespace Go.Proofs.YtlgbhpdblpekfaaGreat
def sw (c k i : Nat) : Nat := if i = c then k else if i = k then c else i
theorem sw_sw (c k i : Nat) : sw c k (sw c k i) = i := by
 unfold sw
 by_cases h : i = c
 ·rw [if_pos h]
  by_cases e : k = c
  ·rw [if_pos e]; omega
  ·rw [if_neg e, if_pos rfl]; omega
 ·rw [if_neg h]
  by_cases e : i = k
  ·rw [if_pos e, if_pos rfl]; omega
  ·rw [if_neg e, if_neg h, if_neg e]
theorem sw_lt {c k i n : Nat} (hc : c < n) (hk : k < n) (hi : i < n) : sw c k i < n := by unfold sw; split; exact hk; split; exact hc; exact hi
theorem sw_c {c k : Nat} : sw c k c = k := if_pos rfl
theorem sw_same (c i : Nat) : sw c c i = i := by unfold sw; split; omega; rfl
theorem swapR_sw (A : Nat → Nat → Rat) (c k i : Nat) : swapR A c k i = A (sw c k i) := rfl
def pSw (P : Nat → Nat) (c k i : Nat) : Nat := P (sw c k i)
def rSw (ρ : Nat → Nat) (c k j : Nat) : Nat := sw c k (ρ j)
structure Bij (n : Nat) (P ρ : Nat → Nat) : Prop where
 lt : ∀ i, i < n → P i < n
 lt' : ∀ i, i < n → ρ i < n
 inv : ∀ i, ρ (P i) = i
 inv' : ∀ i, P (ρ i) = i
theorem Bij.id {n : Nat} : Bij n (fun i => i) (fun i => i) := ⟨fun _ h => h, fun _ h => h, fun _ => rfl, fun _ => rfl⟩
theorem Bij.sw {n c k : Nat} {P ρ : Nat → Nat} (H : Bij n P ρ) (hc : c < n) (hk : k < n) : Bij n (pSw P c k) (rSw ρ c k) :=
 ⟨fun i hi => H.lt _ (sw_lt hc hk hi), fun i hi => sw_lt hc hk (H.lt' i hi), fun i => by unfold pSw rSw; rw [H.inv, sw_sw], fun i => by unfold pSw rSw; rw [sw_sw, H.inv']⟩
theorem Bij.inj {n : Nat} {P ρ : Nat → Nat} (H : Bij n P ρ) {i j : Nat} (e : P i = P j) : i = j := by rw [← H.inv i, e, H.inv]
def lowQ (L U : Nat → Nat → Rat) (c h : Nat) : Nat → Nat → Rat := fun i j => if j = c ∧ c ≤ i ∧ i < h then (if i = c then 1 else U i c / U c c) else L i j
section
variable {L U : Nat → Nat → Rat} {c h i j : Nat}
theorem lowQ_corner : (1 : Rat) = lowQ L U c (c + 1) c c := by
 unfold lowQ; rw [if_pos ⟨rfl, Nat.le_refl c, Nat.lt_succ_self c⟩, if_pos rfl]
theorem lowQ_at (hc : c < h) : U h c / U c c = lowQ L U c (h + 1) h c := by
 unfold lowQ; rw [if_pos ⟨rfl, by omega, Nat.lt_succ_self h⟩, if_neg zo]
theorem lowQ_col (e : j ≠ c) : lowQ L U c h i j = L i j := if_neg fun k => e k.1
theorem lowQ_row (e : i ≠ h) : lowQ L U c (h + 1) i = lowQ L U c h i := by
 funext j
 unfold lowQ
 by_cases q : j = c ∧ c ≤ i ∧ i < h
 ·rw [if_pos q, if_pos ⟨q.1, q.2.1, by omega⟩]
 ·rw [if_neg q, if_neg fun k => q ⟨k.1, k.2.1, by omega⟩]
theorem lowQ_sames : lowQ L U c c = L := by funext i j; exact if_neg zo
end
abbrev LuS := (Nat → Nat → Rat) × (Nat → Nat → Rat) × (Nat → Nat) × (Nat → Nat) × Bool
def luK (n : Nat) (s : LuS) (c : Nat) : Nat := leadK s.1 c c (n - c)
def luStep (n : Nat) (s : LuS) (c : Nat) : LuS :=
 (elimQ (swapR s.1 c (luK n s c)) c n, lowQ (swapR s.2.1 c (luK n s c)) (swapR s.1 c (luK n s c)) c n, pSw s.2.2.1 c (luK n s c), rSw s.2.2.2.1 c (luK n s c), if luK n s c = c then s.2.2.2.2 else !s.2.2.2.2)
def luS (n : Nat) (A : Nat → Nat → Rat) : Nat → LuS
 | 0 => (A, fun _ _ => 0, fun i => i, fun i => i, false)
 | c + 1 => luStep n (luS n A c) c
def luOK (n : Nat) (A : Nat → Nat → Rat) (c : Nat) : Prop := ∀ k, k < c → luK n (luS n A k) k < n
theorem luK_ge {n c : Nat} {s : LuS} : c ≤ luK n s c := (leadK_le _ _).1
theorem lu_bij {n : Nat} {A : Nat → Nat → Rat} : ∀ c, c ≤ n → luOK n A c → Bij n (luS n A c).2.2.1 (luS n A c).2.2.2.1
 | 0, _, _ => Bij.id
 | c + 1, hc, h => (lu_bij c zo fun k hk => h k zo).sw hc (h c (Nat.lt_succ_self c))
theorem HtB.elim {n B c : Nat} {A : Nat → Nat → Rat} (hc : c < n) (h : HtB n n B A) (k : Nat) : HtB n n (4 * B) (elimQ A c k) := fun i hi j hj => by
 have h1 := h i hi j hj
 unfold elimQ
 split
 ·have h2 := h i hi c hc
  have h3 := h c hc c hc
  have h4 := h c hc j hj
  have h5 := ht_add (A i j) (-(A i c / A c c) * A c j)
  have h6 := ht_mul (-(A i c / A c c)) (A c j)
  have h7 := ht_div (A i c) (A c c)
  rw [ht_neg] at h6
  omega
 ·omega
theorem lu_ht {n s : Nat} {A : Nat → Nat → Rat} (h : HtB n n (s + 1) A) : ∀ c, c ≤ n → luOK n A c → HtB n n (hE s c) (luS n A c).1
 | 0, _, _ => by rw [hE_zero]; exact h
 | c + 1, hc, hk => by
  rw [hE_succ]
  exact HtB.elim zo ((lu_ht h c zo fun k hk2 => hk k zo).swap zo (hk c (Nat.lt_succ_self c))) n
structure LuInv (n : Nat) (A : Nat → Nat → Rat) (c : Nat) (s : LuS) : Prop where
 one : ∀ k, k < c → s.2.1 k k = 1
 above : ∀ i k, i < n → i < k → s.2.1 i k = 0
 left : ∀ i k, i < n → c ≤ k → s.2.1 i k = 0
 below : ∀ i k, i < n → k < c → k < i → s.1 i k = 0
 piv : ∀ k, k < c → s.1 k k ≠ 0
 eq : ∀ i, i < n → ∀ j, j < n → A (s.2.2.1 i) j = (if c ≤ i then s.1 i j else 0) + sumQ (fun k => s.2.1 i k * s.1 k j) c
theorem lu_inv {n : Nat} {A : Nat → Nat → Rat} : ∀ c, c ≤ n → luOK n A c → LuInv n A c (luS n A c)
 | 0, _, _ => ⟨fun _ h => absurd h (Nat.not_lt_zero _), fun _ _ _ _ => rfl, fun _ _ _ _ => rfl, fun _ _ _ h => absurd h (Nat.not_lt_zero _), fun _ h => absurd h (Nat.not_lt_zero _), fun i _ j _ => by
  rw [if_pos (Nat.zero_le i)]; show A i j = A i j + 0; grind⟩
 | c + 1, hc, hok => by
  have H := lu_inv c zo fun k hk => hok k zo
  have hK := hok c (Nat.lt_succ_self c)
  have hge := luK_ge (n := n) (s := luS n A c) (c := c)
  have hpv : (luS n A c).1 (luK n (luS n A c) c) c ≠ 0 := leadK_at _ _ (show leadK _ c c (n - c) < _ by have : luK n (luS n A c) c < n := hK; unfold luK at this; omega)
  show LuInv n A (c + 1) (luStep n (luS n A c) c)
  unfold luStep
  generalize luK n (luS n A c) c = K at hK hge hpv
  generalize luS n A c = s at H hpv
  obtain ⟨U, L, P, ρ, o⟩ := s
  have eU : ∀ i j, elimQ (swapR U c K) c n i j = if c < i ∧ i < n then U (sw c K i) j + -(U (sw c K i) c / U (sw c K c) c) * U (sw c K c) j else U (sw c K i) j := fun _ _ => rfl
  have eL : ∀ i j, lowQ (swapR L c K) (swapR U c K) c n i j = if j = c ∧ c ≤ i ∧ i < n then (if i = c then 1 else U (sw c K i) c / U (sw c K c) c) else L (sw c K i) j := fun _ _ => rfl
  have slt : ∀ i, i < n → sw c K i < n := fun i hi => sw_lt zo hK hi
  have stop : ∀ i, i < c → sw c K i = i := fun i hi => by unfold sw; rw [if_neg zo, if_neg zo]
  have sge : ∀ i, c ≤ i → c ≤ sw c K i := fun i hi => by unfold sw; split; exact hge; split; omega; exact hi
  have h1 := H.one; have h2 := H.above; have h3 := H.left; have h4 := H.below; have h5 := H.piv; have h6 := H.eq
  simp only at h1 h2 h3 h4 h5 h6 hpv
  refine ⟨fun k hk => ?_, fun i k hi hik => ?_, fun i k hi hk => ?_, fun i k hi hk hki => ?_, fun k hk => ?_, fun i hi j hj => ?_⟩ <;> (try dsimp only) <;> (try rw [eL]) <;> (try rw [eU])
  ·by_cases e : k = c
   ·rw [if_pos ⟨e, by omega, by omega⟩, if_pos e]
   ·rw [if_neg zo, stop k zo]; exact h1 k zo
  ·by_cases e : k = c ∧ c ≤ i ∧ i < n
   ·omega
   ·rw [if_neg e]
    by_cases q : c ≤ k
    ·exact h3 _ k (slt i hi) q
    ·rw [stop i zo]; exact h2 i k hi hik
  ·rw [if_neg zo]; exact h3 _ k (slt i hi) zo
  ·by_cases e : k = c
   ·subst e
    rw [if_pos ⟨hki, hi⟩, sw_c, Rat.neg_mul, Rat.div_mul_cancel hpv]; grind
   ·have hz : ∀ i, c ≤ i → i < n → U i k = 0 := fun i h7 h8 => h4 i k h8 zo zo
    split
    ·rename_i q
     rw [hz _ (sge i zo) (slt i hi), sw_c, hz K hge hK]; grind
    ·by_cases q : c ≤ i
     ·rw [hz _ (sge i q) (slt i hi)]
     ·rw [stop i zo]; exact h4 i k hi zo hki
  ·rw [if_neg zo]
   by_cases e : k = c
   ·rw [e, sw_c]; exact hpv
   ·rw [stop k zo]; exact h5 k zo
  ·show A (P (sw c K i)) j = (if c + 1 ≤ i then elimQ (swapR U c K) c n i j else 0) + (sumQ (fun k => lowQ (swapR L c K) (swapR U c K) c n i k * elimQ (swapR U c K) c n k j) c + lowQ (swapR L c K) (swapR U c K) c n i c * elimQ (swapR U c K) c n c j)
   have e1 : sumQ (fun k => lowQ (swapR L c K) (swapR U c K) c n i k * elimQ (swapR U c K) c n k j) c = sumQ (fun k => L (sw c K i) k * U k j) c := sumQ_congr c fun k hk => by
    rw [eL, eU, if_neg zo, if_neg zo, stop k hk]
   have e2 : elimQ (swapR U c K) c n c j = U K j := by rw [eU, if_neg zo, sw_c]
   rw [h6 _ (slt i hi) j hj, e1, e2]
   generalize sumQ (fun k => L (sw c K i) k * U k j) c = S
   by_cases q : i < c
   ·have e3 : lowQ (swapR L c K) (swapR U c K) c n i c = 0 := by rw [eL, if_neg zo, stop i q]; exact h3 i c hi (Nat.le_refl c)
    rw [if_neg (by have := stop i q; omega), if_neg zo, e3]; grind
   ·rw [if_pos (sge i zo)]
    by_cases e : i = c
    ·have e3 : lowQ (swapR L c K) (swapR U c K) c n i c = 1 := by rw [eL, if_pos ⟨rfl, by omega, hi⟩, if_pos e]
     rw [if_neg zo, e3, e, sw_c]; grind
    ·have e3 : lowQ (swapR L c K) (swapR U c K) c n i c = U (sw c K i) c / U K c := by rw [eL, if_pos ⟨rfl, by omega, hi⟩, if_neg e, sw_c]
     have e4 : elimQ (swapR U c K) c n i j = U (sw c K i) j + -(U (sw c K i) c / U K c) * U K j := by rw [eU, if_pos ⟨by omega, hi⟩, sw_c]
     rw [if_pos zo, e3, e4]; grind
theorem lu_prod {n : Nat} {A : Nat → Nat → Rat} (h : luOK n A n) {i j : Nat} (hi : i < n) (hj : j < n) : A ((luS n A n).2.2.1 i) j = sumQ (fun k => (luS n A n).2.1 i k * (luS n A n).1 k j) n := by
 have := (lu_inv (A := A) n (Nat.le_refl n) h).eq i hi j hj
 rw [if_neg zo] at this
 rw [this]; grind
open Go.RowKit
def setN (P : Nat → Nat) (c x i : Nat) : Nat := if i = c then x else P i
theorem setN_ne {P : Nat → Nat} {c x i : Nat} (h : i ≠ c) : setN P c x i = P i := if_neg h
theorem pSw_at {P : Nat → Nat} {c g : Nat} : P c = pSw P c g g := by
 unfold pSw sw
 by_cases e : g = c
 ·rw [if_pos e, e]
 ·rw [if_neg e, if_pos rfl]
theorem pSw_other {P : Nat → Nat} {c g t : Nat} (h : t ≠ g) : pSw P c g t = setN P c (P g) t := by
 unfold pSw sw setN
 by_cases e : t = c
 ·rw [if_pos e, if_pos e]
 ·rw [if_neg e, if_neg h, if_neg e]
theorem pSw_same {P : Nat → Nat} {c g t : Nat} (h : g = c) : pSw P c g t = P t := by unfold pSw; rw [h, sw_same]
theorem elimQ_zero0 {B : Nat → Nat → Rat} {c i j : Nat} : B i j = elimQ B c c i j := (if_neg zo).symm
theorem elimQ_from {B : Nat → Nat → Rat} {c i j : Nat} : elimQ B c c i j = elimQ B c (c + 1) i j := elimQ_zero0.symm.trans elimQ_zero
theorem low_conv {L U : Nat → Nat → Rat} {ρ : Nat → Nat} {c g j k : Nat} : L (ρ j) k = lowQ (swapR L c g) U c c (rSw ρ c g j) k := by
 rw [lowQ_sames, swapR_sw, rSw, sw_sw]
theorem lowQ_now2 {L B : Nat → Nat → Rat} {c h : Nat} (hc : c < h) : elimQ B c h h c / elimQ B c h c c = lowQ L B c (h + 1) h c := by
 rw [elimQ_end (Nat.le_refl h), elimQ_top (Nat.le_refl c), lowQ_at hc]
theorem rSw_ne {n c g t x : Nat} {P ρ : Nat → Nat} (H : Bij n (pSw P c g) (rSw ρ c g)) (h : t ≠ pSw P c g x) : rSw ρ c g t ≠ x := fun e => h (by rw [← e, H.inv'])
theorem step_yes {n g c : Nat} {U : Nat → Nat → Rat} (h : (bif decide ((g : Int) < (n : Int)) then decide (U g c = 0) else false) = true) : g < n ∧ U g c = 0 := by
 obtain ⟨h1, h2⟩ := bif_true h
 exact ⟨by omega, h2⟩
theorem step_no {n g c : Nat} {U : Nat → Nat → Rat} (hg : g ≤ n) (h : (bif decide ((g : Int) < (n : Int)) then decide (U g c = 0) else false) = false) : leadK U c g (n - g) = g := by
 have h2 := bif_false h
 refine leadK_eq _ _ _ (Nat.le_refl _) zo (fun i h3 h4 => by omega) fun h3 z => h2 ⟨by omega, z⟩
theorem step_K {n g c : Nat} {U L : Nat → Nat → Rat} {P ρ : Nat → Nat} {o : Bool} (h1 : leadK U c c (n - c) = leadK U c g (n - g)) (h2 : leadK U c g (n - g) = g) : luK n (U, L, P, ρ, o) c = g := h1.trans h2
theorem div_room {n c h B : Nat} {A : Nat → Nat → Rat} (H : HtB n n B A) (hc : c < n) (h2 : h < n) (hB : B ≤ 100000000 := by decide) : szq (elimQ A c h h c) + szq (elimQ A c h c c) + 1 ≤ 17179869184 := by
 rw [elimQ_end (Nat.le_refl h), elimQ_top (Nat.le_refl c)]
 have := H h h2 c hc
 have := H c hc c hc
 have := sz_ht (A h c)
 have := sz_ht (A c c)
 omega
theorem lu_room {n c h B : Nat} {A : Nat → Nat → Rat} (H : HtB n n B A) (hc : c < n) (h2 : h < n) (hB : B ≤ 100000000 := by decide) : ∀ j, j < n → szq (-(elimQ A c h h c / elimQ A c h c c)) + szq (elimQ A c h c j) ≤ 17179869184 ∧ szq (elimQ A c h h j) + szq (-(elimQ A c h h c / elimQ A c h c c) * elimQ A c h c j) ≤ 17179869184 := fun j hj => by
 rw [elimQ_end (Nat.le_refl h), elimQ_top (Nat.le_refl c)]
 have e1 := H h h2 c hc
 have e2 := H c hc c hc
 have e3 := H h h2 j hj
 have e4 := H c hc j hj
 have e5 := ht_div (A h c) (A c c)
 exact ht_room2 (S := 200000000) zo zo (by rw [ht_neg]; omega) (by decide)
section
variable {n g c : Nat} {U L : Nat → Nat → Rat} {P ρ : Nat → Nat} {o : Bool}
theorem lu_U (h : luK n (U, L, P, ρ, o) c = g) : (luStep n (U, L, P, ρ, o) c).1 = elimQ (swapR U c g) c n := by unfold luStep; rw [h]
theorem lu_L (h : luK n (U, L, P, ρ, o) c = g) : (luStep n (U, L, P, ρ, o) c).2.1 = lowQ (swapR L c g) (swapR U c g) c n := by unfold luStep; rw [h]
theorem lu_P (h : luK n (U, L, P, ρ, o) c = g) : (luStep n (U, L, P, ρ, o) c).2.2.1 = pSw P c g := by unfold luStep; rw [h]
theorem lu_R (h : luK n (U, L, P, ρ, o) c = g) : (luStep n (U, L, P, ρ, o) c).2.2.2.1 = rSw ρ c g := by unfold luStep; rw [h]
theorem lu_o (h : luK n (U, L, P, ρ, o) c = g) : (luStep n (U, L, P, ρ, o) c).2.2.2.2 = if g = c then o else !o := by unfold luStep; rw [h]
end
theorem sLuStep {U L : Nat → Nat → Rat} {P ρ : Nat → Nat} {o : Bool} {n c : Nat} (hn : n ≤ 68719476736) (hc : c < n) (hB : Bij n P ρ) (hH : HtB n n 100000000 U) (hk : luK n (U, L, P, ρ, o) c < n) : CallOKm Tryz.prog 46 [.one (.var 92 (.agg (.cn (.own 1 0) (.cn (.own 2 0) (.cn (.own 3 0) (.cn (.ex (.bool o)) (.nl))))))), .one (.row 40 1 (fun i0 => .own 4 (P i0)) n), .one (.row 40 1 (mE U n) n), .one (.row 3 1 (fun i0 => .ex (.int .i64 ((P i0 : Nat) : Int))) n), .fam n (fun i0 => .row 66 3 (fun i1 => .rat (L (ρ i0) i1)) n)] [.own 0 0, .ex (.int .i64 (c : Int))] (.ex (.bool true)) [.one (.var 92 (.agg (.cn (.own 5 0) (.cn (.own 6 0) (.cn (.own 7 0) (.cn (.ex (.bool ((luStep n (U, L, P, ρ, o) c).2.2.2.2))) (.nl))))))), .dead, .dead, .dead, .dead, .one (.row 40 1 (fun i0 => .own 8 ((luStep n (U, L, P, ρ, o) c).2.2.1 i0)) n), .one (.row 40 1 (mE ((luStep n (U, L, P, ρ, o) c).1) n) n), .one (.row 3 1 (fun i0 => .ex (.int .i64 (((luStep n (U, L, P, ρ, o) c).2.2.1 i0 : Nat) : Int))) n), .fam n (fun i0 => .row 66 3 (fun i1 => .rat ((luStep n (U, L, P, ρ, o) c).2.1 ((luStep n (U, L, P, ρ, o) c).2.2.2.1 i0) i1)) n)] := by
 exact callOKm_P (ch := fun B => [.loop 2 (Nat) (fun g => c ≤ g ∧ g ≤ n ∧ leadK U c c (n - c) = leadK U c g (n - g)) (fun g => n - g) (fun g => ⟨[(0, .own 0 0), (1, .ex (.int .i64 (c : Int))), (5, .ex (.int .i64 (g : Int)))], [(0, .one (.var 92 (.agg (.cn (.own 1 0) (.cn (.own 2 0) (.cn (.own 3 0) (.cn (.ex (.bool o)) (.nl)))))) (some (B 0)))), (1, .one (.row 40 1 (fun i0 => .own 4 (P i0)) n)), (2, .one (.row 40 1 (mE U n) n)), (3, .one (.row 3 1 (fun i0 => .ex (.int .i64 ((P i0 : Nat) : Int))) n)), (4, .fam n (fun i0 => .row 66 3 (fun i1 => .rat (L (ρ i0) i1)) n))], 5⟩) [(0, .id 0), (1, .id 1), (2, .id 2), (3, .id 3), (4, .id 4)] (fun _ => [(0, .id 0), (1, .id 1), (2, .id 2), (3, .id 3), (4, .id 4)]) (fun g => [.reg 2 [(13, .k g), (16, .k c), (18, .callS (.ex (.bool (decide (U g c = 0)))) [])], .reg 3 [(1, .z ((g + 1 : Nat) : Int))], .dec 38 false, .reg 7 [(15, .k g), (22, .k c), (24, .k c), (25, .row 0 (mE (setR U c (U g)) n)), (26, .k g), (27, .row 0 (mE (swapR U c g) n))], .reg 8 [(15, .k g), (22, .k c), (24, .k c), (25, .row 0 (fun i0 => .own 4 (setN P c (P g) i0))), (26, .k g), (27, .row 0 (fun i0 => .own 4 (pSw P c g i0)))], .reg 9 [(15, .k g), (22, .k c), (24, .k c), (25, .row 0 (fun i0 => .ex (.int .i64 ((setN P c (P g) i0 : Nat) : Int)))), (26, .k g), (27, .row 0 (fun i0 => .ex (.int .i64 ((pSw P c g i0 : Nat) : Int))))], .conv 11 [(0, .id 0), (1, .id 1), (2, .id 2), (3, .id 3), (4, .id 4)] ⟨[(0, .own 0 0), (1, .ex (.int .i64 (c : Int))), (5, .ex (.int .i64 (g : Int)))], [(0, .one (.var 92 (.agg (.cn (.own 1 0) (.cn (.own 2 0) (.cn (.own 3 0) (.cn (.ex (.bool (if g = c then o else !o))) (.nl)))))) (some (B 0)))), (1, .one (.row 40 1 (fun i0 => .own 4 (pSw P c g i0)) n)), (2, .one (.row 40 1 (mE (elimQ (swapR U c g) c c) n) n)), (3, .one (.row 3 1 (fun i0 => .ex (.int .i64 ((pSw P c g i0 : Nat) : Int))) n)), (4, .fam n (fun i0 => .row 66 3 (fun i1 => .rat ((lowQ (swapR L c g) (swapR U c g) c c) (rSw ρ c g i0) i1)) n))], 5⟩, .reg 11 [(5, .k c), (8, .callS (.rat ((1 : Int) : Rat)) []), (9, .k c), (10, .rowF (fun i0 => .rat ((lowQ (swapR L c g) (swapR U c g) c (c + 1)) c i0)) (fun i0 => .row 66 3 (fun i1 => .rat ((lowQ (swapR L c g) (swapR U c g) c (c + 1)) (rSw ρ c g i0) i1)) n))], .reg 12 [(1, .z ((c + 1 : Nat) : Int))], .loop 13 (Nat) (fun h => c + 1 ≤ h ∧ h ≤ n) (fun h => n - h) (fun h => ⟨[(0, .own 0 0), (1, .ex (.int .i64 (c : Int))), (5, .ex (.int .i64 (g : Int))), (6, .ex (.int .i64 (h : Int)))], [(0, .one (.var 92 (.agg (.cn (.own 1 0) (.cn (.own 2 0) (.cn (.own 3 0) (.cn (.ex (.bool (if g = c then o else !o))) (.nl)))))) (some (B 0)))), (1, .one (.row 40 1 (fun i0 => .own 4 (pSw P c g i0)) n)), (2, .one (.row 40 1 (mE (elimQ (swapR U c g) c h) n) n)), (3, .one (.row 3 1 (fun i0 => .ex (.int .i64 ((pSw P c g i0 : Nat) : Int))) n)), (4, .fam n (fun i0 => .row 66 3 (fun i1 => .rat ((lowQ (swapR L c g) (swapR U c g) c h) (rSw ρ c g i0) i1)) n))], 5⟩) [(0, .id 0), (1, .id 1), (2, .id 2), (3, .id 3), (4, .id 4)] (fun _ => [(0, .id 0), (1, .id 1), (2, .id 2), (3, .id 3), (4, .id 4)]) (fun h => [.reg 15 [(5, .k h), (8, .k c), (15, .k c), (18, .k c), (20, .callS (.cn (.rat (((elimQ (swapR U c g) c h) h c) / ((elimQ (swapR U c g) c h) c c))) (.cn (.ex (.bool (!decide (((elimQ (swapR U c g) c h) c c) = 0)))) (.nl))) [])], .reg 16 [(5, .k h), (9, .k c), (10, .rowF (fun i0 => .rat ((lowQ (swapR L c g) (swapR U c g) c (h + 1)) h i0)) (fun i0 => .row 66 3 (fun i1 => .rat ((lowQ (swapR L c g) (swapR U c g) c (h + 1)) (rSw ρ c g i0) i1)) n))], .reg 17 [(10, .k h), (13, .callS (.rat (-(((elimQ (swapR U c g) c h) h c) / ((elimQ (swapR U c g) c h) c c)))) []), (19, .k c), (21, .callS (.cn (.sl 3 (fun i0 => .rat (((elimQ (swapR U c g) c h) h i0) + (-(((elimQ (swapR U c g) c h) h c) / ((elimQ (swapR U c g) c h) c c))) * ((elimQ (swapR U c g) c h) c i0))) n) (.cn (.ex (.bool true)) (.nl))) []), (25, .k h), (26, .row 0 (mE (elimQ (swapR U c g) c (h + 1)) n))], .reg 14 [(1, .z ((h + 1 : Nat) : Int))], .ret 18 [(0, .id 0), (5, .id 1), (6, .id 2), (7, .id 3), (8, .id 4)]]), .conv 11 [(0, .id 0), (1, .id 1), (2, .id 2), (3, .id 3), (4, .id 4)] ⟨[(0, .own 0 0), (1, .ex (.int .i64 (c : Int))), (5, .ex (.int .i64 (g : Int)))], [(0, .one (.var 92 (.agg (.cn (.own 1 0) (.cn (.own 2 0) (.cn (.own 3 0) (.cn (.ex (.bool (if g = c then o else !o))) (.nl)))))) (some (B 0)))), (1, .one (.row 40 1 (fun i0 => .own 4 (pSw P c g i0)) n)), (2, .one (.row 40 1 (mE (elimQ (swapR U c g) c c) n) n)), (3, .one (.row 3 1 (fun i0 => .ex (.int .i64 ((pSw P c g i0 : Nat) : Int))) n)), (4, .fam n (fun i0 => .row 66 3 (fun i1 => .rat ((lowQ (swapR L c g) (swapR U c g) c c) (rSw ρ c g i0) i1)) n))], 5⟩, .reg 11 [(5, .k c), (8, .callS (.rat ((1 : Int) : Rat)) []), (9, .k c), (10, .rowF (fun i0 => .rat ((lowQ (swapR L c g) (swapR U c g) c (c + 1)) c i0)) (fun i0 => .row 66 3 (fun i1 => .rat ((lowQ (swapR L c g) (swapR U c g) c (c + 1)) (rSw ρ c g i0) i1)) n))], .reg 12 [(1, .z ((c + 1 : Nat) : Int))], .loop 13 (Nat) (fun h => c + 1 ≤ h ∧ h ≤ n) (fun h => n - h) (fun h => ⟨[(0, .own 0 0), (1, .ex (.int .i64 (c : Int))), (5, .ex (.int .i64 (g : Int))), (6, .ex (.int .i64 (h : Int)))], [(0, .one (.var 92 (.agg (.cn (.own 1 0) (.cn (.own 2 0) (.cn (.own 3 0) (.cn (.ex (.bool (if g = c then o else !o))) (.nl)))))) (some (B 0)))), (1, .one (.row 40 1 (fun i0 => .own 4 (pSw P c g i0)) n)), (2, .one (.row 40 1 (mE (elimQ (swapR U c g) c h) n) n)), (3, .one (.row 3 1 (fun i0 => .ex (.int .i64 ((pSw P c g i0 : Nat) : Int))) n)), (4, .fam n (fun i0 => .row 66 3 (fun i1 => .rat ((lowQ (swapR L c g) (swapR U c g) c h) (rSw ρ c g i0) i1)) n))], 5⟩) [(0, .id 0), (1, .id 1), (2, .id 2), (3, .id 3), (4, .id 4)] (fun _ => [(0, .id 0), (1, .id 1), (2, .id 2), (3, .id 3), (4, .id 4)]) (fun h => [.reg 15 [(5, .k h), (8, .k c), (15, .k c), (18, .k c), (20, .callS (.cn (.rat (((elimQ (swapR U c g) c h) h c) / ((elimQ (swapR U c g) c h) c c))) (.cn (.ex (.bool (!decide (((elimQ (swapR U c g) c h) c c) = 0)))) (.nl))) [])], .reg 16 [(5, .k h), (9, .k c), (10, .rowF (fun i0 => .rat ((lowQ (swapR L c g) (swapR U c g) c (h + 1)) h i0)) (fun i0 => .row 66 3 (fun i1 => .rat ((lowQ (swapR L c g) (swapR U c g) c (h + 1)) (rSw ρ c g i0) i1)) n))], .reg 17 [(10, .k h), (13, .callS (.rat (-(((elimQ (swapR U c g) c h) h c) / ((elimQ (swapR U c g) c h) c c)))) []), (19, .k c), (21, .callS (.cn (.sl 3 (fun i0 => .rat (((elimQ (swapR U c g) c h) h i0) + (-(((elimQ (swapR U c g) c h) h c) / ((elimQ (swapR U c g) c h) c c))) * ((elimQ (swapR U c g) c h) c i0))) n) (.cn (.ex (.bool true)) (.nl))) []), (25, .k h), (26, .row 0 (mE (elimQ (swapR U c g) c (h + 1)) n))], .reg 14 [(1, .z ((h + 1 : Nat) : Int))], .ret 18 [(0, .id 0), (5, .id 1), (6, .id 2), (7, .id 3), (8, .id 4)]])])]) hMix Tryz.func46 rfl (by kernel_rfl) (by kernel_rfl) (by kernel_rfl) (fun B => (((fun X1 X2 X3 X4 X5 X6 X7 X8 X9 X10 X11 X12 X13 : Prop => ∃ g0 : Nat, X1 ∧ X2 ∧ ((c : Int) = (g0 : Int)) ∧ X3 ∧ X4 ∧ X5 ∧ X6 ∧ X7 ∧ X8 ∧ (∀ j0, j0 < n → ((P j0 : Nat) = (P j0))) ∧ X9 ∧ X10 ∧ X11 ∧ X12 ∧ X13 ∧ (∀ j0, j0 < n → ((n : Nat) = n) ∧ (∀ j1, j1 < n → ((L (ρ j0) j1 : Rat) = (L (ρ j0) j1)))) ∧ (c ≤ g0 ∧ g0 ≤ n ∧ leadK U c c (n - c) = leadK U c g0 (n - g0))) _ _ _ _ _ _ _ _ _ _ _ _ _) ∧ ∀ g : Nat, (c ≤ g ∧ g ≤ n ∧ leadK U c c (n - c) = leadK U c g (n - g)) → (((decide ((g : Int) < (n : Int))) == true) = true → ((decide ((g : Int) < (n : Int))) == true) = true) ∧ (((decide ((g : Int) < (n : Int))) == true) = true → ((decide ((g : Int) < (n : Int))) == true) = true) ∧ (((decide ((g : Int) < (n : Int))) == true) = true → ((decide ((g : Int) < (n : Int))) == true) = true) ∧ (((decide ((g : Int) < (n : Int))) == true) = true → ((decide ((g : Int) < (n : Int))) == true) = true) ∧ (((decide ((g : Int) < (n : Int))) == true) = true → ((decide ((g : Int) < (n : Int))) == true) = true) ∧ (((decide ((g : Int) < (n : Int))) == true) = true → _) ∧ (((decide ((g : Int) < (n : Int))) == true) = true → g < n) ∧ (((decide ((g : Int) < (n : Int))) == true) = true → ((decide ((g : Int) < (n : Int))) == true) = true) ∧ (((decide ((g : Int) < (n : Int))) == true) = true → g < n) ∧ (((decide ((g : Int) < (n : Int))) == true) = true → ((decide ((g : Int) < (n : Int))) == true) = true) ∧ (((decide ((g : Int) < (n : Int))) == true) = true → ((decide ((g : Int) < (n : Int))) == true) = true) ∧ (((decide ((g : Int) < (n : Int))) == true) = true → _) ∧ (((decide ((g : Int) < (n : Int))) == true) = true → c < n) ∧ (((decide ((g : Int) < (n : Int))) == true) = true → ((decide ((g : Int) < (n : Int))) == true) = true) ∧ (((decide ((g : Int) < (n : Int))) == true) = true → ((decide ((g : Int) < (n : Int))) == true) = true) ∧ (((decide ((g : Int) < (n : Int))) == true) = true → _) ∧ ((decide ((g : Int) < (n : Int))) = true → ((decide ((g : Int) < (n : Int))) == true) = true) ∧ (((bif (decide ((g : Int) < (n : Int))) then (decide (U g c = 0)) else false) = true → (IntKind.wrap .i64 ((g : Int) + 1) = (((g + 1 : Nat) : Int))) ∧ ((fun X1 X2 X3 X4 X5 X6 X7 X8 X9 X10 X11 X12 X13 : Prop => ∃ g1 : Nat, X1 ∧ X2 ∧ (((g + 1 : Nat) : Int) = (g1 : Int)) ∧ X3 ∧ X4 ∧ X5 ∧ X6 ∧ X7 ∧ X8 ∧ (∀ j0, j0 < n → ((P j0 : Nat) = (P j0))) ∧ X9 ∧ X10 ∧ X11 ∧ X12 ∧ X13 ∧ (∀ j0, j0 < n → ((n : Nat) = n) ∧ (∀ j1, j1 < n → ((L (ρ j0) j1 : Rat) = (L (ρ j0) j1)))) ∧ (c ≤ g1 ∧ g1 ≤ n ∧ leadK U c c (n - c) = leadK U c g1 (n - g1)) ∧ (n - g1 < n - g)) _ _ _ _ _ _ _ _ _ _ _ _ _)) ∧ ((bif (decide ((g : Int) < (n : Int))) then (decide (U g c = 0)) else false) = false → ((decide ((g : Int) = (n : Int))) = false) ∧ (((!decide ((g : Int) = (c : Int))) = true → _ ∧ (g < n) ∧ (g < n) ∧ _ ∧ (c < n) ∧ (c < n) ∧ _ ∧ (c < n) ∧ (c < n) ∧ (((n : Nat) = n) ∧ (∀ j0, j0 < n → ((U g j0 : Rat) = ((setR U c (U g)) c j0)))) ∧ (∀ t, t < n → t ≠ c → (.sl 3 (fun i0 => .rat ((setR U c (U g)) t i0)) n : SV) = .sl 3 (fun i0 => .rat (U t i0)) n) ∧ _ ∧ (g < n) ∧ (g < n) ∧ (((n : Nat) = n) ∧ (∀ j0, j0 < n → ((U c j0 : Rat) = ((swapR U c g) g j0)))) ∧ (∀ t, t < n → t ≠ g → (.sl 3 (fun i0 => .rat ((swapR U c g) t i0)) n : SV) = .sl 3 (fun i0 => .rat ((setR U c (U g)) t i0)) n) ∧ _ ∧ (g < n) ∧ (g < n) ∧ _ ∧ (c < n) ∧ (c < n) ∧ _ ∧ (c < n) ∧ (c < n) ∧ (((4 : Nat) = 4) ∧ ((P g : Nat) = (setN P c (P g) c))) ∧ (∀ t, t < n → t ≠ c → (.own 4 (setN P c (P g) t) : SV) = .own 4 (P t)) ∧ _ ∧ (g < n) ∧ (g < n) ∧ (((4 : Nat) = 4) ∧ ((P c : Nat) = (pSw P c g g))) ∧ (∀ t, t < n → t ≠ g → (.own 4 (pSw P c g t) : SV) = .own 4 (setN P c (P g) t)) ∧ _ ∧ (g < n) ∧ (g < n) ∧ _ ∧ (c < n) ∧ (c < n) ∧ _ ∧ (c < n) ∧ (c < n) ∧ ((((P g : Nat) : Int) = ((setN P c (P g) c : Nat) : Int))) ∧ (∀ t, t < n → t ≠ c → (.ex (.int .i64 ((setN P c (P g) t : Nat) : Int)) : SV) = .ex (.int .i64 ((P t : Nat) : Int))) ∧ _ ∧ (g < n) ∧ (g < n) ∧ ((((P c : Nat) : Int) = ((pSw P c g g : Nat) : Int))) ∧ (∀ t, t < n → t ≠ g → (.ex (.int .i64 ((pSw P c g t : Nat) : Int)) : SV) = .ex (.int .i64 ((setN P c (P g) t : Nat) : Int))) ∧ _ ∧ _ ∧ _ ∧ _ ∧ _ ∧ _ ∧ _ ∧ ((!o : Bool) = (if g = c then o else !o)) ∧ _ ∧ (∀ j0, j0 < n → ((pSw P c g j0 : Nat) = (pSw P c g j0))) ∧ _ ∧ (∀ j0, j0 < n → ((n : Nat) = n) ∧ (∀ j1, j1 < n → (((swapR U c g) j0 j1 : Rat) = ((elimQ (swapR U c g) c c) j0 j1)))) ∧ _ ∧ _ ∧ _ ∧ (∀ j0, j0 < n → ((n : Nat) = n) ∧ (∀ j1, j1 < n → ((L (ρ j0) j1 : Rat) = ((lowQ (swapR L c g) (swapR U c g) c c) (rSw ρ c g j0) j1)))) ∧ _ ∧ (c < n) ∧ (c < n) ∧ _ ∧ _ ∧ (c < n) ∧ ((pSw P c g c) < n) ∧ (c < n) ∧ (((((1 : Int) : Rat) : Rat) = ((lowQ (swapR L c g) (swapR U c g) c (c + 1)) c c))) ∧ (∀ t, t < n → t ≠ c → (.rat ((lowQ (swapR L c g) (swapR U c g) c (c + 1)) c t) : SV) = .rat ((lowQ (swapR L c g) (swapR U c g) c c) (rSw ρ c g (pSw P c g c)) t)) ∧ ((pSw P c g c) < n) ∧ ((.row 66 3 (fun i0 => .rat ((lowQ (swapR L c g) (swapR U c g) c (c + 1)) (rSw ρ c g (pSw P c g c)) i0)) n : OB) = .row 66 3 (fun i0 => .rat ((lowQ (swapR L c g) (swapR U c g) c (c + 1)) c i0)) n) ∧ (∀ t, t < n → t ≠ (pSw P c g c) → (.row 66 3 (fun i0 => .rat ((lowQ (swapR L c g) (swapR U c g) c (c + 1)) (rSw ρ c g t) i0)) n : OB) = .row 66 3 (fun i0 => .rat ((lowQ (swapR L c g) (swapR U c g) c c) (rSw ρ c g t) i0)) n) ∧ _ ∧ (((fun X1 X2 X3 X4 X5 X6 X7 X8 X9 X10 X11 X12 X13 : Prop => ∃ h0 : Nat, X1 ∧ X2 ∧ X3 ∧ (((c + 1 : Nat) : Int) = (h0 : Int)) ∧ X4 ∧ X5 ∧ X6 ∧ X7 ∧ X8 ∧ X9 ∧ (∀ j0, j0 < n → ((pSw P c g j0 : Nat) = (pSw P c g j0))) ∧ X10 ∧ (∀ j0, j0 < n → ((n : Nat) = n) ∧ (∀ j1, j1 < n → (((elimQ (swapR U c g) c c) j0 j1 : Rat) = ((elimQ (swapR U c g) c h0) j0 j1)))) ∧ X11 ∧ X12 ∧ X13 ∧ (∀ j0, j0 < n → ((n : Nat) = n) ∧ (∀ j1, j1 < n → (((lowQ (swapR L c g) (swapR U c g) c (c + 1)) (rSw ρ c g j0) j1 : Rat) = ((lowQ (swapR L c g) (swapR U c g) c h0) (rSw ρ c g j0) j1)))) ∧ (c + 1 ≤ h0 ∧ h0 ≤ n)) _ _ _ _ _ _ _ _ _ _ _ _ _) ∧ ∀ h : Nat, (c + 1 ≤ h ∧ h ≤ n) → (((decide ((h : Int) < (n : Int))) = true → _ ∧ (h < n) ∧ (h < n) ∧ _ ∧ (c < n) ∧ _ ∧ (c < n) ∧ (c < n) ∧ _ ∧ (c < n) ∧ _ ∧ _ ∧ (h < n) ∧ (h < n) ∧ _ ∧ (c < n) ∧ ((pSw P c g h) < n) ∧ (c < n) ∧ (((((elimQ (swapR U c g) c h) h c) / ((elimQ (swapR U c g) c h) c c) : Rat) = ((lowQ (swapR L c g) (swapR U c g) c (h + 1)) h c))) ∧ (∀ t, t < n → t ≠ c → (.rat ((lowQ (swapR L c g) (swapR U c g) c (h + 1)) h t) : SV) = .rat ((lowQ (swapR L c g) (swapR U c g) c h) (rSw ρ c g (pSw P c g h)) t)) ∧ ((pSw P c g h) < n) ∧ ((.row 66 3 (fun i0 => .rat ((lowQ (swapR L c g) (swapR U c g) c (h + 1)) (rSw ρ c g (pSw P c g h)) i0)) n : OB) = .row 66 3 (fun i0 => .rat ((lowQ (swapR L c g) (swapR U c g) c (h + 1)) h i0)) n) ∧ (∀ t, t < n → t ≠ (pSw P c g h) → (.row 66 3 (fun i0 => .rat ((lowQ (swapR L c g) (swapR U c g) c (h + 1)) (rSw ρ c g t) i0)) n : OB) = .row 66 3 (fun i0 => .rat ((lowQ (swapR L c g) (swapR U c g) c h) (rSw ρ c g t) i0)) n) ∧ _ ∧ (h < n) ∧ (h < n) ∧ _ ∧ _ ∧ (c < n) ∧ (c < n) ∧ _ ∧ _ ∧ (h < n) ∧ (h < n) ∧ (((n : Nat) = n) ∧ (∀ j0, j0 < n → ((((elimQ (swapR U c g) c h) h j0) + (-(((elimQ (swapR U c g) c h) h c) / ((elimQ (swapR U c g) c h) c c))) * ((elimQ (swapR U c g) c h) c j0) : Rat) = ((elimQ (swapR U c g) c (h + 1)) h j0)))) ∧ (∀ t, t < n → t ≠ h → (.sl 3 (fun i0 => .rat ((elimQ (swapR U c g) c (h + 1)) t i0)) n : SV) = .sl 3 (fun i0 => .rat ((elimQ (swapR U c g) c h) t i0)) n) ∧ _ ∧ ((fun X1 X2 X3 X4 X5 X6 X7 X8 X9 X10 X11 X12 X13 : Prop => ∃ h1 : Nat, X1 ∧ X2 ∧ X3 ∧ (((h + 1 : Nat) : Int) = (h1 : Int)) ∧ X4 ∧ X5 ∧ X6 ∧ X7 ∧ X8 ∧ X9 ∧ (∀ j0, j0 < n → ((pSw P c g j0 : Nat) = (pSw P c g j0))) ∧ X10 ∧ (∀ j0, j0 < n → ((n : Nat) = n) ∧ (∀ j1, j1 < n → (((elimQ (swapR U c g) c (h + 1)) j0 j1 : Rat) = ((elimQ (swapR U c g) c h1) j0 j1)))) ∧ X11 ∧ X12 ∧ X13 ∧ (∀ j0, j0 < n → ((n : Nat) = n) ∧ (∀ j1, j1 < n → (((lowQ (swapR L c g) (swapR U c g) c (h + 1)) (rSw ρ c g j0) j1 : Rat) = ((lowQ (swapR L c g) (swapR U c g) c h1) (rSw ρ c g j0) j1)))) ∧ (c + 1 ≤ h1 ∧ h1 ≤ n) ∧ (n - h1 < n - h)) _ _ _ _ _ _ _ _ _ _ _ _ _)) ∧ ((decide ((h : Int) < (n : Int))) = false → (_ ∧ _ ∧ _ ∧ _ ∧ _ ∧ ((if g = c then o else !o : Bool) = ((luStep n (U, L, P, ρ, o) c).2.2.2.2)) ∧ _ ∧ (∀ j0, j0 < n → ((pSw P c g j0 : Nat) = ((luStep n (U, L, P, ρ, o) c).2.2.1 j0))) ∧ _ ∧ (∀ j0, j0 < n → ((n : Nat) = n) ∧ (∀ j1, j1 < n → (((elimQ (swapR U c g) c h) j0 j1 : Rat) = (((luStep n (U, L, P, ρ, o) c).1) j0 j1)))) ∧ _ ∧ (∀ j0, j0 < n → (((pSw P c g j0 : Nat) : Int) = (((luStep n (U, L, P, ρ, o) c).2.2.1 j0 : Nat) : Int))) ∧ _ ∧ (∀ j0, j0 < n → ((n : Nat) = n) ∧ (∀ j1, j1 < n → (((lowQ (swapR L c g) (swapR U c g) c h) (rSw ρ c g j0) j1 : Rat) = ((luStep n (U, L, P, ρ, o) c).2.1 ((luStep n (U, L, P, ρ, o) c).2.2.2.1 j0) j1))))))))) ∧ ((!decide ((g : Int) = (c : Int))) = false → _ ∧ _ ∧ _ ∧ _ ∧ _ ∧ _ ∧ _ ∧ ((o : Bool) = (if g = c then o else !o)) ∧ _ ∧ (∀ j0, j0 < n → ((P j0 : Nat) = (pSw P c g j0))) ∧ _ ∧ (∀ j0, j0 < n → ((n : Nat) = n) ∧ (∀ j1, j1 < n → ((U j0 j1 : Rat) = ((elimQ (swapR U c g) c c) j0 j1)))) ∧ _ ∧ (∀ j0, j0 < n → (((P j0 : Nat) : Int) = ((pSw P c g j0 : Nat) : Int))) ∧ _ ∧ (∀ j0, j0 < n → ((n : Nat) = n) ∧ (∀ j1, j1 < n → ((L (ρ j0) j1 : Rat) = ((lowQ (swapR L c g) (swapR U c g) c c) (rSw ρ c g j0) j1)))) ∧ _ ∧ (c < n) ∧ (c < n) ∧ _ ∧ _ ∧ (c < n) ∧ ((pSw P c g c) < n) ∧ (c < n) ∧ (((((1 : Int) : Rat) : Rat) = ((lowQ (swapR L c g) (swapR U c g) c (c + 1)) c c))) ∧ (∀ t, t < n → t ≠ c → (.rat ((lowQ (swapR L c g) (swapR U c g) c (c + 1)) c t) : SV) = .rat ((lowQ (swapR L c g) (swapR U c g) c c) (rSw ρ c g (pSw P c g c)) t)) ∧ ((pSw P c g c) < n) ∧ ((.row 66 3 (fun i0 => .rat ((lowQ (swapR L c g) (swapR U c g) c (c + 1)) (rSw ρ c g (pSw P c g c)) i0)) n : OB) = .row 66 3 (fun i0 => .rat ((lowQ (swapR L c g) (swapR U c g) c (c + 1)) c i0)) n) ∧ (∀ t, t < n → t ≠ (pSw P c g c) → (.row 66 3 (fun i0 => .rat ((lowQ (swapR L c g) (swapR U c g) c (c + 1)) (rSw ρ c g t) i0)) n : OB) = .row 66 3 (fun i0 => .rat ((lowQ (swapR L c g) (swapR U c g) c c) (rSw ρ c g t) i0)) n) ∧ _ ∧ (((fun X1 X2 X3 X4 X5 X6 X7 X8 X9 X10 X11 X12 X13 : Prop => ∃ h0 : Nat, X1 ∧ X2 ∧ X3 ∧ (((c + 1 : Nat) : Int) = (h0 : Int)) ∧ X4 ∧ X5 ∧ X6 ∧ X7 ∧ X8 ∧ X9 ∧ (∀ j0, j0 < n → ((pSw P c g j0 : Nat) = (pSw P c g j0))) ∧ X10 ∧ (∀ j0, j0 < n → ((n : Nat) = n) ∧ (∀ j1, j1 < n → (((elimQ (swapR U c g) c c) j0 j1 : Rat) = ((elimQ (swapR U c g) c h0) j0 j1)))) ∧ X11 ∧ X12 ∧ X13 ∧ (∀ j0, j0 < n → ((n : Nat) = n) ∧ (∀ j1, j1 < n → (((lowQ (swapR L c g) (swapR U c g) c (c + 1)) (rSw ρ c g j0) j1 : Rat) = ((lowQ (swapR L c g) (swapR U c g) c h0) (rSw ρ c g j0) j1)))) ∧ (c + 1 ≤ h0 ∧ h0 ≤ n)) _ _ _ _ _ _ _ _ _ _ _ _ _) ∧ ∀ h : Nat, (c + 1 ≤ h ∧ h ≤ n) → (((decide ((h : Int) < (n : Int))) = true → _ ∧ (h < n) ∧ (h < n) ∧ _ ∧ (c < n) ∧ _ ∧ (c < n) ∧ (c < n) ∧ _ ∧ (c < n) ∧ _ ∧ _ ∧ (h < n) ∧ (h < n) ∧ _ ∧ (c < n) ∧ ((pSw P c g h) < n) ∧ (c < n) ∧ (((((elimQ (swapR U c g) c h) h c) / ((elimQ (swapR U c g) c h) c c) : Rat) = ((lowQ (swapR L c g) (swapR U c g) c (h + 1)) h c))) ∧ (∀ t, t < n → t ≠ c → (.rat ((lowQ (swapR L c g) (swapR U c g) c (h + 1)) h t) : SV) = .rat ((lowQ (swapR L c g) (swapR U c g) c h) (rSw ρ c g (pSw P c g h)) t)) ∧ ((pSw P c g h) < n) ∧ ((.row 66 3 (fun i0 => .rat ((lowQ (swapR L c g) (swapR U c g) c (h + 1)) (rSw ρ c g (pSw P c g h)) i0)) n : OB) = .row 66 3 (fun i0 => .rat ((lowQ (swapR L c g) (swapR U c g) c (h + 1)) h i0)) n) ∧ (∀ t, t < n → t ≠ (pSw P c g h) → (.row 66 3 (fun i0 => .rat ((lowQ (swapR L c g) (swapR U c g) c (h + 1)) (rSw ρ c g t) i0)) n : OB) = .row 66 3 (fun i0 => .rat ((lowQ (swapR L c g) (swapR U c g) c h) (rSw ρ c g t) i0)) n) ∧ _ ∧ (h < n) ∧ (h < n) ∧ _ ∧ _ ∧ (c < n) ∧ (c < n) ∧ _ ∧ _ ∧ (h < n) ∧ (h < n) ∧ (((n : Nat) = n) ∧ (∀ j0, j0 < n → ((((elimQ (swapR U c g) c h) h j0) + (-(((elimQ (swapR U c g) c h) h c) / ((elimQ (swapR U c g) c h) c c))) * ((elimQ (swapR U c g) c h) c j0) : Rat) = ((elimQ (swapR U c g) c (h + 1)) h j0)))) ∧ (∀ t, t < n → t ≠ h → (.sl 3 (fun i0 => .rat ((elimQ (swapR U c g) c (h + 1)) t i0)) n : SV) = .sl 3 (fun i0 => .rat ((elimQ (swapR U c g) c h) t i0)) n) ∧ _ ∧ ((fun X1 X2 X3 X4 X5 X6 X7 X8 X9 X10 X11 X12 X13 : Prop => ∃ h1 : Nat, X1 ∧ X2 ∧ X3 ∧ (((h + 1 : Nat) : Int) = (h1 : Int)) ∧ X4 ∧ X5 ∧ X6 ∧ X7 ∧ X8 ∧ X9 ∧ (∀ j0, j0 < n → ((pSw P c g j0 : Nat) = (pSw P c g j0))) ∧ X10 ∧ (∀ j0, j0 < n → ((n : Nat) = n) ∧ (∀ j1, j1 < n → (((elimQ (swapR U c g) c (h + 1)) j0 j1 : Rat) = ((elimQ (swapR U c g) c h1) j0 j1)))) ∧ X11 ∧ X12 ∧ X13 ∧ (∀ j0, j0 < n → ((n : Nat) = n) ∧ (∀ j1, j1 < n → (((lowQ (swapR L c g) (swapR U c g) c (h + 1)) (rSw ρ c g j0) j1 : Rat) = ((lowQ (swapR L c g) (swapR U c g) c h1) (rSw ρ c g j0) j1)))) ∧ (c + 1 ≤ h1 ∧ h1 ≤ n) ∧ (n - h1 < n - h)) _ _ _ _ _ _ _ _ _ _ _ _ _)) ∧ ((decide ((h : Int) < (n : Int))) = false → (_ ∧ _ ∧ _ ∧ _ ∧ _ ∧ ((if g = c then o else !o : Bool) = ((luStep n (U, L, P, ρ, o) c).2.2.2.2)) ∧ _ ∧ (∀ j0, j0 < n → ((pSw P c g j0 : Nat) = ((luStep n (U, L, P, ρ, o) c).2.2.1 j0))) ∧ _ ∧ (∀ j0, j0 < n → ((n : Nat) = n) ∧ (∀ j1, j1 < n → (((elimQ (swapR U c g) c h) j0 j1 : Rat) = (((luStep n (U, L, P, ρ, o) c).1) j0 j1)))) ∧ _ ∧ (∀ j0, j0 < n → (((pSw P c g j0 : Nat) : Int) = (((luStep n (U, L, P, ρ, o) c).2.2.1 j0 : Nat) : Int))) ∧ _ ∧ (∀ j0, j0 < n → ((n : Nat) = n) ∧ (∀ j1, j1 < n → (((lowQ (swapR L c g) (swapR U c g) c h) (rSw ρ c g j0) j1 : Rat) = ((luStep n (U, L, P, ρ, o) c).2.1 ((luStep n (U, L, P, ρ, o) c).2.2.2.1 j0) j1)))))))))))))) (fun B => by kernel_rfl)
  (fun B => ⟨⟨c, (rf 0), (rf (c : Int)), zo, (rf (some (B 0))), (rf 0), (rf 0), (rf 0), (rf (o : Bool)), (rf n), (fun j0 hj0 => rfl), (rf n), (leS (mE U n) n), (rf n), (leS (fun i0 => .ex (.int .i64 ((P i0 : Nat) : Int))) n), (rf n), (fun j0 hj0 => ⟨rfl, (fun j1 hj1 => rfl)⟩), ⟨Nat.le_refl _, by omega, rfl⟩⟩, fun g hg0 => have hg1 := hg0.1; have hg2 := hg0.2.1; ⟨id, ⟨id, ⟨id, ⟨id, ⟨id, ⟨(fun hg => (rf (g : Int))), ⟨(fun hg => (by have hg2 := of_guard hg; omega)), ⟨id, ⟨(fun hg => (by have hg2 := of_guard hg; omega)), ⟨id, ⟨id, ⟨(fun hg => (rf (c : Int))), ⟨(fun hg => zo), ⟨id, ⟨id, ⟨(fun hg => sRatZero (q := U g c)), ⟨(by simp), ⟨fun hc29 => have hz := step_yes hc29; ⟨(by rw [IntKind.wrap_i64]; omega), ⟨g + 1, (rf 0), (rf (c : Int)), zo, (rf (some (B 0))), (rf 0), (rf 0), (rf 0), (rf (o : Bool)), (rf n), (fun j0 hj0 => rfl), (rf n), (leS (mE U n) n), (rf n), (leS (fun i0 => .ex (.int .i64 ((P i0 : Nat) : Int))) n), (rf n), (fun j0 hj0 => ⟨rfl, (fun j1 hj1 => rfl)⟩), ⟨by omega, by omega, hg0.2.2.trans (leadK_step hz.1 hz.2)⟩, zo⟩⟩, fun hc29 => have hz := step_no hg2 hc29; have hK := step_K hg0.2.2 hz; have hgn : g < n := (by rw [← hK]; exact hk); have hB1 := hB.sw hc hgn; have hP1 := hB1.lt c hc; have H4 := hH.swap hc hgn; have hne0 := fun {t : Nat} (k : t ≠ pSw P c g c) => rSw_ne hB1 k; ⟨(by simp; omega), ⟨fun hc41 => have hk3 : g ≠ c := (by simp at hc41; omega); ⟨(rf (g : Int)), ⟨zo, ⟨zo, ⟨(rf (c : Int)), ⟨zo, ⟨zo, ⟨(rf (c : Int)), ⟨zo, ⟨zo, ⟨⟨rfl, (fun j0 hj0 => (if_pos rfl).symm)⟩, ⟨(fun t ht hne => by simp only [setR_ne hne]), ⟨(rf (g : Int)), ⟨zo, ⟨zo, ⟨⟨rfl, (fun j0 hj0 => (swap_at))⟩, ⟨(fun t ht hne => by simp only [swap_other hne]), ⟨(rf (g : Int)), ⟨zo, ⟨zo, ⟨(rf (c : Int)), ⟨zo, ⟨zo, ⟨(rf (c : Int)), ⟨zo, ⟨zo, ⟨⟨rfl, (if_pos rfl).symm⟩, ⟨(fun t ht hne => by rw [setN_ne hne]), ⟨(rf (g : Int)), ⟨zo, ⟨zo, ⟨⟨rfl, (pSw_at)⟩, ⟨(fun t ht hne => by rw [pSw_other hne]), ⟨(rf (g : Int)), ⟨zo, ⟨zo, ⟨(rf (c : Int)), ⟨zo, ⟨zo, ⟨(rf (c : Int)), ⟨zo, ⟨zo, ⟨(congrArg (fun x : Nat => (x : Int)) (if_pos rfl).symm), ⟨(fun t ht hne => by rw [setN_ne hne]), ⟨(rf (g : Int)), ⟨zo, ⟨zo, ⟨(congrArg (fun x : Nat => (x : Int)) pSw_at), ⟨(fun t ht hne => by rw [pSw_other hne]), ⟨(rf 0), ⟨(rf (c : Int)), ⟨(rf (g : Int)), ⟨(rf (some (B 0))), ⟨(rf 0), ⟨(rf 0), ⟨(rf 0), ⟨(by first | exact (if_neg hk3).symm | exact (if_pos hk3).symm), ⟨(rf n), ⟨(fun j0 hj0 => rfl), ⟨(rf n), ⟨(fun j0 hj0 => ⟨rfl, (fun j1 hj1 => (by first | exact elimQ_zero0 | exact (swap_same hk3).symm.trans elimQ_zero0))⟩), ⟨(rf n), ⟨(leS (fun i0 => .ex (.int .i64 ((pSw P c g i0 : Nat) : Int))) n), ⟨(rf n), ⟨(fun j0 hj0 => ⟨rfl, (fun j1 hj1 => (low_conv))⟩), ⟨(rf (c : Int)), ⟨zo, ⟨zo, ⟨sRatInt (x := 1) zo zo, ⟨(rf (c : Int)), ⟨zo, ⟨zo, ⟨zo, ⟨(lowQ_corner), ⟨(fun t ht hne => by rw [lowQ_col hne, hB1.inv, lowQ_col hne]), ⟨zo, ⟨(by rw [hB1.inv]), ⟨(fun t ht hne => by rw [lowQ_row (hne0 hne)]), ⟨(wI (g := c) zo), ⟨⟨c + 1, (rf 0), (rf (c : Int)), (rf (g : Int)), zo, (rf (some (B 0))), (rf 0), (rf 0), (rf 0), (rf (if g = c then o else !o : Bool)), (rf n), (fun j0 hj0 => rfl), (rf n), (fun j0 hj0 => ⟨rfl, (fun j1 hj1 => elimQ_from)⟩), (rf n), (leS (fun i0 => .ex (.int .i64 ((pSw P c g i0 : Nat) : Int))) n), (rf n), (fun j0 hj0 => ⟨rfl, (fun j1 hj1 => rfl)⟩), ⟨Nat.le_refl _, by omega⟩⟩, fun h hh0 => have hh1 := hh0.1; have hh2 := hh0.2; have hne0 := fun {t : Nat} (k : t ≠ pSw P c g h) => rSw_ne hB1 k; ⟨fun hc146 => have hc146 := of_decide_eq_true hc146; have hh : c < h ∧ h < n := ⟨by omega, by omega⟩; have hP2 := hB1.lt h hh.2; ⟨(rf (h : Int)), ⟨zo, ⟨zo, ⟨(rf (c : Int)), ⟨zo, ⟨(rf (c : Int)), ⟨zo, ⟨zo, ⟨(rf (c : Int)), ⟨zo, ⟨sRatDiv (p := (elimQ (swapR U c g) c h) h c) (q := (elimQ (swapR U c g) c h) c c) (div_room H4 zo hh.2), ⟨(rf (h : Int)), ⟨zo, ⟨zo, ⟨(rf (c : Int)), ⟨zo, ⟨zo, ⟨zo, ⟨(lowQ_now2 zo), ⟨(fun t ht hne => by rw [lowQ_col hne, hB1.inv, lowQ_col hne]), ⟨zo, ⟨(by rw [hB1.inv]), ⟨(fun t ht hne => by rw [lowQ_row (hne0 hne)]), ⟨(rf (h : Int)), ⟨zo, ⟨zo, ⟨sRatNeg (q := ((elimQ (swapR U c g) c h) h c) / ((elimQ (swapR U c g) c h) c c)), ⟨(rf (c : Int)), ⟨zo, ⟨zo, ⟨(sVecAddTimes (a := (elimQ (swapR U c g) c h) h) (b := (elimQ (swapR U c g) c h) c) (n := n) (r := - (((elimQ (swapR U c g) c h) h c) / ((elimQ (swapR U c g) c h) c c))) zo (lu_room H4 zo hh.2)).frzV2, ⟨(rf (h : Int)), ⟨zo, ⟨zo, ⟨⟨rfl, (fun j0 hj0 => (elim_now zo))⟩, ⟨(fun t ht hne => by simp only [elimQ_ne hne]), ⟨(wI (g := h) zo), ⟨h + 1, (rf 0), (rf (c : Int)), (rf (g : Int)), zo, (rf (some (B 0))), (rf 0), (rf 0), (rf 0), (rf (if g = c then o else !o : Bool)), (rf n), (fun j0 hj0 => rfl), (rf n), (fun j0 hj0 => ⟨rfl, (fun j1 hj1 => rfl)⟩), (rf n), (leS (fun i0 => .ex (.int .i64 ((pSw P c g i0 : Nat) : Int))) n), (rf n), (fun j0 hj0 => ⟨rfl, (fun j1 hj1 => rfl)⟩), ⟨by omega, by omega⟩, zo⟩⟩⟩⟩⟩⟩⟩⟩⟩⟩⟩⟩⟩⟩⟩⟩⟩⟩⟩⟩⟩⟩⟩⟩⟩⟩⟩⟩⟩⟩⟩⟩⟩⟩⟩⟩⟩⟩, fun hc146 => have hc146 := of_decide_eq_false hc146; have hi3 : h = n := zo; ⟨(rf (true : Bool)), (rf (some (B 0))), (rf 0), (rf 0), (rf 0), (by rw [lu_o hK]), (rf n), (fun j0 hj0 => (by rw [lu_P hK])), (rf n), (fun j0 hj0 => ⟨rfl, (fun j1 hj1 => (by rw [lu_U hK, hi3]))⟩), (rf n), (fun j0 hj0 => (by rw [lu_P hK])), (rf n), (fun j0 hj0 => ⟨rfl, (fun j1 hj1 => (by rw [lu_L hK, lu_R hK, hi3]))⟩)⟩⟩⟩⟩⟩⟩⟩⟩⟩⟩⟩⟩⟩⟩⟩⟩⟩⟩⟩⟩⟩⟩⟩⟩⟩⟩⟩⟩⟩⟩⟩⟩⟩⟩⟩⟩⟩⟩⟩⟩⟩⟩⟩⟩⟩⟩⟩⟩⟩⟩⟩⟩⟩⟩⟩⟩⟩⟩⟩⟩⟩⟩⟩⟩⟩⟩⟩⟩⟩⟩⟩⟩⟩⟩⟩⟩⟩⟩⟩⟩⟩, fun hc41 => have hk3 : g = c := (by simp at hc41; omega); ⟨(rf 0), ⟨(rf (c : Int)), ⟨(rf (g : Int)), ⟨(rf (some (B 0))), ⟨(rf 0), ⟨(rf 0), ⟨(rf 0), ⟨(by first | exact (if_neg hk3).symm | exact (if_pos hk3).symm), ⟨(rf n), ⟨(fun j0 hj0 => (by first | rfl | exact (pSw_same hk3).symm)), ⟨(rf n), ⟨(fun j0 hj0 => ⟨rfl, (fun j1 hj1 => (by first | exact elimQ_zero0 | exact (swap_same hk3).symm.trans elimQ_zero0))⟩), ⟨(rf n), ⟨(fun j0 hj0 => (by first | rfl | exact congrArg (fun x : Nat => (x : Int)) (pSw_same hk3).symm)), ⟨(rf n), ⟨(fun j0 hj0 => ⟨rfl, (fun j1 hj1 => (low_conv))⟩), ⟨(rf (c : Int)), ⟨zo, ⟨zo, ⟨sRatInt (x := 1) zo zo, ⟨(rf (c : Int)), ⟨zo, ⟨zo, ⟨zo, ⟨(lowQ_corner), ⟨(fun t ht hne => by rw [lowQ_col hne, hB1.inv, lowQ_col hne]), ⟨zo, ⟨(by rw [hB1.inv]), ⟨(fun t ht hne => by rw [lowQ_row (hne0 hne)]), ⟨(wI (g := c) zo), ⟨⟨c + 1, (rf 0), (rf (c : Int)), (rf (g : Int)), zo, (rf (some (B 0))), (rf 0), (rf 0), (rf 0), (rf (if g = c then o else !o : Bool)), (rf n), (fun j0 hj0 => rfl), (rf n), (fun j0 hj0 => ⟨rfl, (fun j1 hj1 => elimQ_from)⟩), (rf n), (leS (fun i0 => .ex (.int .i64 ((pSw P c g i0 : Nat) : Int))) n), (rf n), (fun j0 hj0 => ⟨rfl, (fun j1 hj1 => rfl)⟩), ⟨Nat.le_refl _, by omega⟩⟩, fun h hh0 => have hh1 := hh0.1; have hh2 := hh0.2; have hne0 := fun {t : Nat} (k : t ≠ pSw P c g h) => rSw_ne hB1 k; ⟨fun hc146 => have hc146 := of_decide_eq_true hc146; have hh : c < h ∧ h < n := ⟨by omega, by omega⟩; have hP2 := hB1.lt h hh.2; ⟨(rf (h : Int)), ⟨zo, ⟨zo, ⟨(rf (c : Int)), ⟨zo, ⟨(rf (c : Int)), ⟨zo, ⟨zo, ⟨(rf (c : Int)), ⟨zo, ⟨sRatDiv (p := (elimQ (swapR U c g) c h) h c) (q := (elimQ (swapR U c g) c h) c c) (div_room H4 zo hh.2), ⟨(rf (h : Int)), ⟨zo, ⟨zo, ⟨(rf (c : Int)), ⟨zo, ⟨zo, ⟨zo, ⟨(lowQ_now2 zo), ⟨(fun t ht hne => by rw [lowQ_col hne, hB1.inv, lowQ_col hne]), ⟨zo, ⟨(by rw [hB1.inv]), ⟨(fun t ht hne => by rw [lowQ_row (hne0 hne)]), ⟨(rf (h : Int)), ⟨zo, ⟨zo, ⟨sRatNeg (q := ((elimQ (swapR U c g) c h) h c) / ((elimQ (swapR U c g) c h) c c)), ⟨(rf (c : Int)), ⟨zo, ⟨zo, ⟨(sVecAddTimes (a := (elimQ (swapR U c g) c h) h) (b := (elimQ (swapR U c g) c h) c) (n := n) (r := - (((elimQ (swapR U c g) c h) h c) / ((elimQ (swapR U c g) c h) c c))) zo (lu_room H4 zo hh.2)).frzV2, ⟨(rf (h : Int)), ⟨zo, ⟨zo, ⟨⟨rfl, (fun j0 hj0 => (elim_now zo))⟩, ⟨(fun t ht hne => by simp only [elimQ_ne hne]), ⟨(wI (g := h) zo), ⟨h + 1, (rf 0), (rf (c : Int)), (rf (g : Int)), zo, (rf (some (B 0))), (rf 0), (rf 0), (rf 0), (rf (if g = c then o else !o : Bool)), (rf n), (fun j0 hj0 => rfl), (rf n), (fun j0 hj0 => ⟨rfl, (fun j1 hj1 => rfl)⟩), (rf n), (leS (fun i0 => .ex (.int .i64 ((pSw P c g i0 : Nat) : Int))) n), (rf n), (fun j0 hj0 => ⟨rfl, (fun j1 hj1 => rfl)⟩), ⟨by omega, by omega⟩, zo⟩⟩⟩⟩⟩⟩⟩⟩⟩⟩⟩⟩⟩⟩⟩⟩⟩⟩⟩⟩⟩⟩⟩⟩⟩⟩⟩⟩⟩⟩⟩⟩⟩⟩⟩⟩⟩⟩, fun hc146 => have hc146 := of_decide_eq_false hc146; have hi3 : h = n := zo; ⟨(rf (true : Bool)), (rf (some (B 0))), (rf 0), (rf 0), (rf 0), (by rw [lu_o hK]), (rf n), (fun j0 hj0 => (by rw [lu_P hK])), (rf n), (fun j0 hj0 => ⟨rfl, (fun j1 hj1 => (by rw [lu_U hK, hi3]))⟩), (rf n), (fun j0 hj0 => (by rw [lu_P hK])), (rf n), (fun j0 hj0 => ⟨rfl, (fun j1 hj1 => (by rw [lu_L hK, lu_R hK, hi3]))⟩)⟩⟩⟩⟩⟩⟩⟩⟩⟩⟩⟩⟩⟩⟩⟩⟩⟩⟩⟩⟩⟩⟩⟩⟩⟩⟩⟩⟩⟩⟩⟩⟩⟩⟩⟩⟩⟩⟩⟩⟩⟩⟩⟩⟩⟩⟩⟩⟩⟩⟩⟩⟩⟩⟩)
def parS (L : Nat → Nat → Rat) (x : Nat → Rat) (t : Rat) (k : Nat) : Nat → Rat
 | 0 => t
 | h + 1 => parS L x t k h - L k h * x h
def fwS (L : Nat → Nat → Rat) (d : Nat → Rat) (f : Nat → Rat → Rat) (base : Nat → Rat) : Nat → Nat → Rat
 | 0, j => base j
 | k + 1, j => if j = k then f k (parS L (fwS L d f base k) (d k) k k) else fwS L d f base k j
def fwI (L : Nat → Nat → Rat) (d : Nat → Rat) (f : Nat → Rat → Rat) (base : Nat → Rat) (k h j : Nat) : Rat := if j = k then parS L (fwS L d f base k) (d k) k h else fwS L d f base k j
def bwP (U : Nat → Nat → Rat) (y : Nat → Rat) (t : Rat) (k : Nat) : Nat → Rat
 | 0 => t
 | h + 1 => bwP U y t k h - U k (k + 1 + h) * y (k + 1 + h)
def bwS (U : Nat → Nat → Rat) (z : Nat → Rat) (f : Nat → Rat → Rat) (n : Nat) : Nat → Nat → Rat
 | 0, j => z j
 | g + 1, j => if j = n - 1 - g then f (n - 1 - g) (bwP U (bwS U z f n g) (z (n - 1 - g)) (n - 1 - g) g) else bwS U z f n g j
def bwI (U : Nat → Nat → Rat) (z : Nat → Rat) (f : Nat → Rat → Rat) (n g h j : Nat) : Rat := if j = n - 1 - g then bwP U (bwS U z f n g) (z (n - 1 - g)) (n - 1 - g) h else bwS U z f n g j
section
variable {L U : Nat → Nat → Rat} {d base z : Nat → Rat} {f : Nat → Rat → Rat} {k h j n g : Nat}
theorem fwI_self : fwI L d f base k h k = parS L (fwS L d f base k) (d k) k h := if_pos rfl
theorem fwI_other (e : j ≠ k) : fwI L d f base k h j = fwS L d f base k j := if_neg e
theorem fwI_at (e : h < k) : fwI L d f base k h k - L k h * fwI L d f base k h h = fwI L d f base k (h + 1) k := by
 rw [fwI_self, fwI_self, fwI_other zo]; rfl
theorem fwI_ne (e : j ≠ k) : fwI L d f base k (h + 1) j = fwI L d f base k h j := by rw [fwI_other e, fwI_other e]
theorem fwI_zero (e : j ≠ k) : fwI L d f base k 0 j = fwS L d f base k j := fwI_other e
theorem fwI_put : d k = fwI L d f base k 0 k := by rw [fwI_self]; rfl
theorem fwS_at : f k (fwI L d f base k k k) = fwS L d f base (k + 1) k := by rw [fwI_self]; exact (if_pos rfl).symm
theorem fwS_ne (e : j ≠ k) : fwS L d f base (k + 1) j = fwI L d f base k k j := by rw [fwI_other e]; exact if_neg e
theorem fwS_late (e : k ≤ j) : fwS L d f base k j = base j := by
 induction k with
 | zero => rfl
 | succ k ih => show (if j = k then _ else _) = _; rw [if_neg zo]; exact ih zo
theorem fwI_start (hd : d = base) : fwS L d f base k j = fwI L d f base k 0 j := by
 by_cases e : j = k
 ·subst e; rw [fwI_self, fwS_late (Nat.le_refl j)]; show base j = d j; rw [hd]
 ·exact (fwI_other e).symm
theorem fwI_all (hf : ∀ x, f k x = x) : fwI L d f base k k j = fwS L d f base (k + 1) j := by
 by_cases e : j = k
 ·subst e; rw [← fwS_at, hf]
 ·exact (fwS_ne e).symm
theorem bwI_self : bwI U z f n g h (n - 1 - g) = bwP U (bwS U z f n g) (z (n - 1 - g)) (n - 1 - g) h := if_pos rfl
theorem bwI_other (e : j ≠ n - 1 - g) : bwI U z f n g h j = bwS U z f n g j := if_neg e
theorem bwI_at : bwI U z f n g h (n - 1 - g) - U (n - 1 - g) (n - 1 - g + 1 + h) * bwI U z f n g h (n - 1 - g + 1 + h) = bwI U z f n g (h + 1) (n - 1 - g) := by
 rw [bwI_self, bwI_self, bwI_other zo]; rfl
theorem bwI_ne (e : j ≠ n - 1 - g) : bwI U z f n g (h + 1) j = bwI U z f n g h j := by rw [bwI_other e, bwI_other e]
theorem bwS_at : f (n - 1 - g) (bwI U z f n g g (n - 1 - g)) = bwS U z f n (g + 1) (n - 1 - g) := by rw [bwI_self]; exact (if_pos rfl).symm
theorem bwS_ne (e : j ≠ n - 1 - g) : bwS U z f n (g + 1) j = bwI U z f n g g j := by rw [bwI_other e]; exact if_neg e
theorem bwS_early (hg : g ≤ n) (e : j < n - g) : bwS U z f n g j = z j := by
 induction g with
 | zero => rfl
 | succ g ih => show (if j = n - 1 - g then _ else _) = _; rw [if_neg zo]; exact ih zo zo
theorem bwI_start (hg : g < n) : bwS U z f n g j = bwI U z f n g 0 j := by
 by_cases e : j = n - 1 - g
 ·subst e; rw [bwI_self, bwS_early zo zo]; rfl
 ·exact (bwI_other e).symm
theorem bwI_all (hf : ∀ x, f (n - 1 - g) x = x) : bwI U z f n g g j = bwS U z f n (g + 1) j := by
 by_cases e : j = n - 1 - g
 ·subst e; rw [← bwS_at, hf]
 ·exact (bwS_ne e).symm
theorem fwS_stay (e : j < k) : ∀ m, fwS L d f base (k + m) j = fwS L d f base k j
 | 0 => rfl
 | m + 1 => by show (if j = k + m then _ else _) = _; rw [if_neg zo]; exact fwS_stay e m
theorem fwS_final (e : j < k) (h : k ≤ n) : fwS L d f base n j = fwS L d f base k j := by
 have := fwS_stay (L := L) (d := d) (f := f) (base := base) e (n - k)
 rwa [show k + (n - k) = n by omega] at this
theorem parS_sum {x : Nat → Rat} {t : Rat} : ∀ h, parS L x t k h + sumQ (fun c => L k c * x c) h = t
 | 0 => by show t + 0 = t; grind
 | h + 1 => by
  have := parS_sum (x := x) (t := t) h
  show parS L x t k h - L k h * x h + (sumQ _ h + L k h * x h) = t
  rw [← this]; grind
theorem fw_eq (hk : k < n) : parS L (fwS L d f base n) (d k) k k = d k - sumQ (fun c => L k c * fwS L d f base n c) k ∧ fwS L d f base n k = f k (parS L (fwS L d f base n) (d k) k k) := by
 refine ⟨?_, ?_⟩
 ·have := parS_sum (L := L) (k := k) (x := fwS L d f base n) (t := d k) k
  rw [← this]; grind
 ·rw [fwS_final (k := k + 1) (Nat.lt_succ_self k) hk]
  show (if k = k then _ else _) = _
  rw [if_pos rfl]
  congr 1
  have key : ∀ h, h ≤ k → parS L (fwS L d f base k) (d k) k h = parS L (fwS L d f base n) (d k) k h := by
   intro h hh
   induction h with
   | zero => rfl
   | succ h ih => show parS L _ _ k h - _ = parS L _ _ k h - _; rw [ih zo, fwS_final (n := n) (k := k) zo zo]
  exact key k (Nat.le_refl k)
theorem bwS_stay (e : n - 1 - g ≤ j) (hg : g < n) : ∀ m, g + 1 + m ≤ n → bwS U z f n (g + 1 + m) j = bwS U z f n (g + 1) j
 | 0, _ => rfl
 | m + 1, h => by show (if j = n - 1 - (g + 1 + m) then _ else _) = _; rw [if_neg zo]; exact bwS_stay e hg m zo
theorem bwP_sum {x : Nat → Rat} {t : Rat} : ∀ h, bwP U x t k h + sumQ (fun c => U k (k + 1 + c) * x (k + 1 + c)) h = t
 | 0 => by show t + 0 = t; grind
 | h + 1 => by
  have := bwP_sum (x := x) (t := t) h
  show bwP U x t k h - U k (k + 1 + h) * x (k + 1 + h) + (sumQ _ h + U k (k + 1 + h) * x (k + 1 + h)) = t
  rw [← this]; grind
theorem bw_eq (hk : k < n) : bwS U z f n n k = f k (z k - sumQ (fun c => U k (k + 1 + c) * bwS U z f n n (k + 1 + c)) (n - 1 - k)) := by
 have e : n - 1 - (n - 1 - k) = k := by omega
 have h1 := bwS_stay (U := U) (z := z) (f := f) (n := n) (g := n - 1 - k) (j := k) zo zo (n - (n - 1 - k + 1)) zo
 rw [show n - 1 - k + 1 + (n - (n - 1 - k + 1)) = n by omega] at h1
 rw [h1]
 show (if k = n - 1 - (n - 1 - k) then f (n - 1 - (n - 1 - k)) _ else _) = _
 rw [if_pos e.symm, e]
 congr 1
 have h2 := bwP_sum (U := U) (k := k) (x := bwS U z f n (n - 1 - k)) (t := z k) (n - 1 - k)
 have h3 : sumQ (fun c => U k (k + 1 + c) * bwS U z f n (n - 1 - k) (k + 1 + c)) (n - 1 - k) = sumQ (fun c => U k (k + 1 + c) * bwS U z f n n (k + 1 + c)) (n - 1 - k) := sumQ_congr _ fun c hc => by
  have h4 := bwS_stay (U := U) (z := z) (f := f) (n := n) (g := n - 2 - k) (j := k + 1 + c) zo zo (n - (n - 2 - k + 1)) zo
  rw [show n - 2 - k + 1 + (n - (n - 2 - k + 1)) = n by omega, show n - 2 - k + 1 = n - 1 - k by omega] at h4
  rw [h4]
 rw [h3] at h2
 rw [← h2]; grind
theorem sumQ_split (F : Nat → Rat) (a : Nat) : ∀ m, sumQ F (a + m) = sumQ F a + sumQ (fun c => F (a + c)) m
 | 0 => by show sumQ F a = sumQ F a + 0; grind
 | m + 1 => by show sumQ F (a + m) + F (a + m) = _ + (_ + F (a + m)); rw [sumQ_split F a m]; grind
theorem fw_solves (hone : ∀ k, k < n → L k k = 1) (hup : ∀ i k, i < n → i < k → L i k = 0) (hf : ∀ k x, f k x = x) (hk : k < n) : sumQ (fun c => L k c * fwS L d f base n c) n = d k := by
 obtain ⟨h1, h2⟩ := fw_eq (L := L) (d := d) (f := f) (base := base) hk
 rw [hf, h1] at h2
 rw [show n = k + 1 + (n - k - 1) by omega, sumQ_split, sumQ_congr (n - k - 1) (g := fun _ => 0) fun c hc => by rw [hup k _ hk zo]; grind, sumQ_zero, show k + 1 + (n - k - 1) = n by omega]
 show sumQ _ k + L k k * _ + 0 = d k
 rw [hone k hk, h2]; grind
theorem fw_divides (hp : ∀ k, k < n → L k k ≠ 0) (hup : ∀ i k, i < n → k < n → i < k → L i k = 0) (hf : ∀ k x, f k x = x / L k k) (hk : k < n) : sumQ (fun c => L k c * fwS L d f base n c) n = d k := by
 obtain ⟨h1, h2⟩ := fw_eq (L := L) (d := d) (f := f) (base := base) hk
 rw [hf, h1] at h2
 rw [show n = k + 1 + (n - k - 1) by omega, sumQ_split, sumQ_congr (n - k - 1) (g := fun _ => 0) fun c hc => by rw [hup k _ hk zo zo]; grind, sumQ_zero, show k + 1 + (n - k - 1) = n by omega]
 show sumQ _ k + L k k * _ + 0 = d k
 have h3 := Rat.div_mul_cancel (a := d k - sumQ (fun c => L k c * fwS L d f base n c) k) (hp k hk)
 rw [← h2] at h3; grind
theorem bw_divides (hp : ∀ k, k < n → U k k ≠ 0) (hlow : ∀ i k, i < n → k < n → k < i → U i k = 0) (hf : ∀ k x, f k x = x / U k k) (hk : k < n) : sumQ (fun c => U k c * bwS U z f n n c) n = z k := by
 have h2 := bw_eq (U := U) (z := z) (f := f) hk
 rw [hf] at h2
 rw [show n = k + (1 + (n - 1 - k)) by omega, sumQ_split, sumQ_congr k (g := fun _ => 0) fun c hc => by rw [hlow k c hk zo hc]; grind, sumQ_zero, sumQ_split, show k + (1 + (n - 1 - k)) = n by omega]
 show 0 + (0 + U k (k + 0) * bwS U z f n n (k + 0) + sumQ (fun c => U k (k + (1 + c)) * bwS U z f n n (k + (1 + c))) (n - 1 - k)) = z k
 rw [sumQ_congr (n - 1 - k) (g := fun c => U k (k + 1 + c) * bwS U z f n n (k + 1 + c)) fun c _ => by rw [Nat.add_assoc], Nat.add_zero]
 have h3 := Rat.div_mul_cancel (a := z k - sumQ (fun c => U k (k + 1 + c) * bwS U z f n n (k + 1 + c)) (n - 1 - k)) (hp k hk)
 rw [← h2] at h3; grind
theorem bw_solves (hone : ∀ k, k < n → U k k = 1) (hlow : ∀ i k, i < n → k < n → k < i → U i k = 0) (hf : ∀ k x, f k x = x) (hk : k < n) : sumQ (fun c => U k c * bwS U z f n n c) n = z k := by
 have h2 := bw_eq (U := U) (z := z) (f := f) hk
 rw [hf] at h2
 rw [show n = k + (1 + (n - 1 - k)) by omega, sumQ_split, sumQ_congr k (g := fun _ => 0) fun c hc => by rw [hlow k c hk zo hc]; grind, sumQ_zero, sumQ_split, show k + (1 + (n - 1 - k)) = n by omega]
 show 0 + (0 + U k (k + 0) * bwS U z f n n (k + 0) + sumQ (fun c => U k (k + (1 + c)) * bwS U z f n n (k + (1 + c))) (n - 1 - k)) = z k
 rw [sumQ_congr (n - 1 - k) (g := fun c => U k (k + 1 + c) * bwS U z f n n (k + 1 + c)) fun c _ => by rw [Nat.add_assoc], Nat.add_zero, hone k hk, h2]; grind
theorem par_ht {x : Nat → Rat} {t : Rat} {S D E : Nat} (hL : ∀ c, c < k → htq (L k c) ≤ S) (ht : htq t ≤ D) : ∀ h, h ≤ k → (∀ c, c < h → htq (x c) + S + 1 ≤ 2 ^ c * E) → htq (parS L x t k h) + E ≤ D + 2 ^ h * E
 | 0, _, _ => by show htq t + E ≤ D + 2 ^ 0 * E; omega
 | h + 1, hh, hx => by
  have ih := par_ht hL ht h zo fun c hc => hx c zo
  have h1 := ht_sub (parS L x t k h) (L k h * x h)
  have h2 := ht_mul (L k h) (x h)
  have h3 := hL h zo
  have h4 := hx h (Nat.lt_succ_self h)
  show htq (parS L x t k h - L k h * x h) + E ≤ _
  rw [Nat.pow_succ, show 2 ^ h * 2 * E = 2 ^ h * E + 2 ^ h * E by rw [Nat.mul_comm (2 ^ h) 2, Nat.mul_assoc, Nat.two_mul]]
  omega
theorem fw_ht {S D : Nat} (hL : ∀ k, k < n → ∀ c, c < k → htq (L k c) ≤ S) (hd : ∀ k, k < n → htq (d k) ≤ D) (hf : ∀ k x, k < n → htq (f k x) ≤ htq x + S) : ∀ k, k ≤ n → ∀ j, j < k → htq (fwS L d f base k j) + S + 1 ≤ 2 ^ j * (D + 2 * S + 1)
 | 0, _, j, hj => absurd hj (Nat.not_lt_zero j)
 | k + 1, hk, j, hj => by
  have ih := fw_ht hL hd hf k zo
  show htq (if j = k then _ else _) + S + 1 ≤ _
  split
  ·rename_i e
   have h1 := par_ht (L := L) (k := k) (x := fwS L d f base k) (t := d k) (E := D + 2 * S + 1) (hL k zo) (hd k zo) k (Nat.le_refl k) ih
   have h2 := hf k (parS L (fwS L d f base k) (d k) k k) zo
   rw [e]; omega
  ·exact ih j zo
theorem bwP_ht {x : Nat → Rat} {t : Rat} {S D E : Nat} (hU : ∀ c, c < n → htq (U k c) ≤ S) (ht : htq t ≤ D) (hg : k + 1 + g = n) : ∀ h, h ≤ g → (∀ c, c < h → htq (x (k + 1 + c)) + S + 1 ≤ 2 ^ (g - 1 - c) * E) → htq (bwP U x t k h) + 2 ^ (g - h) * E ≤ D + 2 ^ g * E
 | 0, _, _ => by show htq t + _ ≤ _; rw [Nat.sub_zero]; omega
 | h + 1, hh, hx => by
  have ih := bwP_ht hU ht hg h zo fun c hc => hx c zo
  have h1 := ht_sub (bwP U x t k h) (U k (k + 1 + h) * x (k + 1 + h))
  have h2 := ht_mul (U k (k + 1 + h)) (x (k + 1 + h))
  have h3 := hU (k + 1 + h) zo
  have h4 := hx h (Nat.lt_succ_self h)
  show htq (bwP U x t k h - U k (k + 1 + h) * x (k + 1 + h)) + 2 ^ (g - (h + 1)) * E ≤ _
  have e : 2 ^ (g - h) * E = 2 ^ (g - (h + 1)) * E + 2 ^ (g - (h + 1)) * E := by
   rw [show g - h = (g - (h + 1)) + 1 by omega, Nat.pow_succ, Nat.mul_comm _ 2, Nat.mul_assoc, Nat.two_mul]
  rw [show g - 1 - h = g - (h + 1) by omega] at h4
  omega
theorem bw_ht {S D : Nat} (hU : ∀ k, k < n → ∀ c, c < n → htq (U k c) ≤ S) (hz : ∀ k, k < n → htq (z k) ≤ D) (hf : ∀ k x, k < n → htq (f k x) ≤ htq x + S) : ∀ g, g ≤ n → ∀ i, i < g → htq (bwS U z f n g (n - 1 - i)) + S + 1 ≤ 2 ^ i * (D + 2 * S + 1)
 | 0, _, i, hi => absurd hi (Nat.not_lt_zero i)
 | g + 1, hg, i, hi => by
  have ih := bw_ht hU hz hf g zo
  show htq (if n - 1 - i = n - 1 - g then _ else _) + S + 1 ≤ _
  split
  ·rename_i e
   obtain rfl : i = g := by omega
   have h1 := bwP_ht (U := U) (n := n) (k := n - 1 - i) (g := i) (x := bwS U z f n i) (t := z (n - 1 - i)) (E := D + 2 * S + 1) (hU _ zo) (hz _ zo) zo i (Nat.le_refl i) fun c hc => by
    have := ih (i - 1 - c) zo
    rwa [show n - 1 - (i - 1 - c) = n - 1 - i + 1 + c by omega] at this
   rw [Nat.sub_self] at h1
   have h2 := hf (n - 1 - i) (bwP U (bwS U z f n i) (z (n - 1 - i)) (n - 1 - i) i) zo
   omega
  ·exact ih i zo
end
theorem sumQ_perm {n : Nat} {P ρ : Nat → Nat} (H : Bij n P ρ) (F : Nat → Rat) : sumQ F n = sumQ (fun i => F (P i)) n := by
 have h1 : sumQ F n = sumQ (fun r => sumQ (fun i => if P i = r then F r else 0) n) n := sumQ_congr n fun r hr => by
  rw [sumQ_one (k := ρ r) n (H.lt' r hr) fun i _ hi => if_neg fun e => hi (by rw [← e, H.inv]), if_pos (H.inv' r)]
 rw [h1, sumQ_comm (fun r i => if P i = r then F r else 0) n n]
 exact sumQ_congr n fun i hi => by
  rw [sumQ_one (k := P i) n (H.lt i hi) fun r _ hr => if_neg (Ne.symm hr), if_pos rfl]
def luZ (n : Nat) (L : Nat → Nat → Rat) (d : Nat → Rat) : Nat → Rat := fwS L d (fun _ x => x) (fun _ => 0) n
def luX (n : Nat) (U L : Nat → Nat → Rat) (d : Nat → Rat) : Nat → Rat := bwS U (luZ n L d) (fun k x => x / U k k) n n
def luY (n : Nat) (U : Nat → Nat → Rat) (c : Nat → Rat) : Nat → Rat := fwS (trM U) c (fun k x => x / U k k) c n
def luW (n : Nat) (U L : Nat → Nat → Rat) (c : Nat → Rat) : Nat → Rat := bwS (trM L) (luY n U c) (fun _ x => x) n n
theorem sum_swap {n : Nat} {F : Nat → Nat → Rat} {x y : Nat → Rat} : sumQ (fun j => sumQ (fun k => x k * F k j) n * y j) n = sumQ (fun k => x k * sumQ (fun j => F k j * y j) n) n := by
 rw [sumQ_congr n (g := fun j => sumQ (fun k => x k * (F k j * y j)) n) fun j _ => by
  have : sumQ (fun k => x k * F k j) n * y j = y j * sumQ (fun k => x k * F k j) n := by grind
  rw [this, ← sumQ_mul]; exact sumQ_congr n fun k _ => by grind, sumQ_comm (fun j k => x k * (F k j * y j)) n n]
 exact sumQ_congr n fun k _ => sumQ_mul _ _ _
theorem lu_solves {n : Nat} {A : Nat → Nat → Rat} {b : Nat → Rat} (h : luOK n A n) {r : Nat} (hr : r < n) : sumQ (fun j => A r j * luX n (luS n A n).1 (luS n A n).2.1 (fun i => b ((luS n A n).2.2.1 i)) j) n = b r := by
 have hB := lu_bij (n := n) (A := A) n (Nat.le_refl n) h
 have I := lu_inv (n := n) (A := A) n (Nat.le_refl n) h
 have hp : ∀ j, j < n → A r j = sumQ (fun k => (luS n A n).2.1 ((luS n A n).2.2.2.1 r) k * (luS n A n).1 k j) n := fun j hj => by
  rw [← lu_prod h (hB.lt' r hr) hj, hB.inv']
 rw [sumQ_congr n fun j hj => by rw [hp j hj], sum_swap]
 rw [sumQ_congr n (g := fun k => (luS n A n).2.1 ((luS n A n).2.2.2.1 r) k * luZ n (luS n A n).2.1 (fun i => b ((luS n A n).2.2.1 i)) k) fun k hk => by
  rw [show sumQ (fun j => (luS n A n).1 k j * luX n (luS n A n).1 (luS n A n).2.1 (fun i => b ((luS n A n).2.2.1 i)) j) n = _ from bw_divides I.piv (fun i k hi hk hki => I.below i k hi hk hki) (fun _ _ => rfl) hk]]
 have := fw_solves (base := fun _ => 0) (d := fun i => b ((luS n A n).2.2.1 i)) (f := fun _ x => x) I.one (fun i k hi hik => I.above i k hi hik) (fun _ _ => rfl) (hB.lt' r hr)
 rw [hB.inv'] at this
 exact this
theorem lu_solvesT {n : Nat} {A : Nat → Nat → Rat} {c : Nat → Rat} (h : luOK n A n) {j : Nat} (hj : j < n) : sumQ (fun r => luW n (luS n A n).1 (luS n A n).2.1 c ((luS n A n).2.2.2.1 r) * A r j) n = c j := by
 have hB := lu_bij (n := n) (A := A) n (Nat.le_refl n) h
 have I := lu_inv (n := n) (A := A) n (Nat.le_refl n) h
 rw [sumQ_perm hB]
 rw [sumQ_congr n (g := fun i => sumQ (fun k => (luS n A n).1 k j * (luS n A n).2.1 i k) n * luW n (luS n A n).1 (luS n A n).2.1 c i) fun i hi => by
  rw [lu_prod h hi hj, hB.inv]
  have : ∀ a b : Rat, a * b = b * a := fun a b => by grind
  rw [this, sumQ_congr n fun k _ => this _ _]]
 rw [sum_swap (F := fun k i => (luS n A n).2.1 i k)]
 rw [sumQ_congr n (g := fun k => trM (luS n A n).1 j k * luY n (luS n A n).1 c k) fun k hk => by
  rw [show sumQ (fun i => (luS n A n).2.1 i k * luW n (luS n A n).1 (luS n A n).2.1 c i) n = luY n (luS n A n).1 c k from bw_solves (U := trM (luS n A n).2.1) I.one (fun i k hi hk hki => I.above k i hk hki) (fun _ _ => rfl) hk]; rfl]
 exact fw_divides (L := trM (luS n A n).1) (base := c) (d := c) I.piv (fun i k hi hk hik => I.below k i hk hi hik) (fun _ _ => rfl) hj
open Go.RowKit
theorem CallOK.frzI {P : Program} {f : FuncId} {As : List SV} {T : TypeId} {n : Nat} {a : Nat → Int} (h : CallOK P f As (.own 0 0) [.one (.row T 1 (fun i => .ex (.int .i64 (a i))) n)]) : CallOK P f As (.sl 1 (fun i => .ex (.int .i64 (a i))) n) [] :=
 h.told [] (Eq.mp (α := n = n ∧ ∀ j, j < n → a j = a j) (by kernel_rfl) ⟨rfl, fun _ _ => rfl⟩)
theorem sCloneNil {a : Nat → Int}  : CallOK Tryz.prog 85 [.ex (.slice none 0 0)] (.own 0 0) [.one (.row 3 1 (fun i0 => .ex (.int .i64 (a i0))) 0)] := by
 exact callOK_P (ch := [.dec 4 true, .ret 2 [(0, .nil)]]) hMix Tryz.func85 rfl (by kernel_rfl) (by kernel_rfl) ((true = true) ∧ (_ ∧ _)) (by kernel_rfl)
  ⟨rfl, ⟨(rf 0), (rf 0)⟩⟩
theorem sCloneSome {a : Nat → Int} {n : Nat} (h0 : 0 < n) (hn : n ≤ 68719476736) : CallOK Tryz.prog 85 [.sl 1 (fun i0 => .ex (.int .i64 (a i0))) n] (.own 0 0) [.one (.row 3 1 (fun i0 => .ex (.int .i64 (a i0))) n)] := by
 exact callOK_P (ch := [.dec 4 false, .reg 3 [(2, .row 0 (fun i0 => .ex (.int .i64 (a i0))))], .ret 3 [(0, .id 1)]]) hMix Tryz.func85 rfl (by kernel_rfl) (by kernel_rfl) ((∀ j0, j0 < n → True) ∧ (0 < n) ∧ (false = false) ∧ (0 + n ≤ 68719476736) ∧ (∀ j0, j0 < 0 → (.ex (.int .i64 (a j0)) : SV) = .any) ∧ (∀ j0, j0 < n → ((a j0 : Int) = (a (0 + j0)))) ∧ (_ ∧ ((0 + n : Nat) = n) ∧ _)) (by kernel_rfl)
  ⟨(fun _ _ => trivial), ⟨zo, ⟨rfl, ⟨zo, ⟨(fun j0 hj0 => absurd hj0 (Nat.not_lt_zero j0)), ⟨(fun j0 hj0 => by rw [Nat.zero_add]), ⟨(rf 0), zo, (leS (fun i0 => .ex (.int .i64 (a i0))) (0 + n))⟩⟩⟩⟩⟩⟩⟩
theorem sCloneZero {a : Nat → Int} {ad : Addr} {c : Nat}  : CallOK Tryz.prog 85 [.ex (.slice (some ad) 0 c)] (.own 0 0) [.one (.row 3 1 (fun i0 => .ex (.int .i64 (a i0))) 0)] := by
 exact callOK_P (ch := [.dec 4 false, .reg 3 [(2, .row 0 (fun i0 => .ex (.int .i64 (a i0))))], .ret 3 [(0, .id 1)]]) hMix Tryz.func85 rfl (by kernel_rfl) (by kernel_rfl) ((false = false) ∧ (0 + 0 ≤ 68719476736) ∧ (∀ j0, j0 < 0 → (.ex (.int .i64 (a j0)) : SV) = .any) ∧ (∀ j0, j0 < 0 → (False)) ∧ (_ ∧ ((0 + 0 : Nat) = 0) ∧ _)) (by kernel_rfl)
  ⟨rfl, ⟨zo, ⟨(fun j0 hj0 => absurd hj0 (Nat.not_lt_zero j0)), ⟨(fun j0 hj0 => absurd hj0 (Nat.not_lt_zero j0)), ⟨(rf 0), rfl, (leS (fun i0 => .ex (.int .i64 (a i0))) (0 + 0))⟩⟩⟩⟩⟩
theorem sClone {a : Nat → Int} {n : Nat} (hn : n ≤ 68719476736) : CallOK Tryz.prog 85 [.sl 1 (fun i => .ex (.int .i64 (a i))) n] (.own 0 0) [.one (.row 3 1 (fun i => .ex (.int .i64 (a i))) n)] := by
 by_cases h : 0 < n
 ·exact sCloneSome h hn
 ·obtain rfl : n = 0 := by omega
  refine ⟨(sCloneNil (a := a)).cal, fun η0 F w vals hF hA => ?_⟩
  match vals, hA with
  | [v], hA =>
   obtain ⟨A0, c, rfl, hz, _⟩ := hA.1
   cases A0 with
   | none =>
    obtain ⟨_, rfl⟩ := hz rfl
    exact (sCloneNil (a := a)).run η0 F w _ hF ⟨rfl, trivial⟩
   | some ad => exact (sCloneZero (a := a) (ad := ad) (c := c)).run η0 F w _ hF ⟨rfl, trivial⟩
  | [], hA => exact hA.elim
  | _ :: _ :: _, hA => exact hA.2.elim
open Go.RowKit
theorem not_dec {P : Prop} [Decidable P] (h : (!decide P) = false) : P := by simpa using h
theorem ok_next {n g : Nat} {q : Nat → Nat → Rat} (h : luOK n q g) (hk : luK n (luS n q g) g < n) : luOK n q (g + 1) := fun k hk2 => by
 by_cases e : k = g
 ·rw [e]; exact hk
 ·exact h k zo
def prodD (U : Nat → Nat → Rat) : Nat → Rat
 | 0 => 1
 | k + 1 => prodD U k * U k k
theorem prod_ht {n : Nat} {U : Nat → Nat → Rat} (hU : ∀ k, k < n → htq (U k k) ≤ 30000) : ∀ k, k ≤ n → htq (prodD U k) ≤ 1 + k * 30000
 | 0, _ => by show htq 1 ≤ _; rw [ht_one]; omega
 | k + 1, h => by
  have ih := prod_ht hU k zo
  have h1 := ht_mul (prodD U k) (U k k)
  have h2 := hU k zo
  show htq (prodD U k * U k k) ≤ _
  omega
theorem prod_room {n g : Nat} {U : Nat → Nat → Rat} (hU : ∀ k, k < n → htq (U k k) ≤ 30000) (hg : g < n) (hn : n ≤ 64) : szq (prodD U g) + szq (U g g) ≤ 17179869184 := by
 have h1 := prod_ht hU g zo
 have h2 := hU g hg
 exact ht_room (S := 4000000) zo zo (by decide)
section
variable {L U : Nat → Nat → Rat} {d base z : Nat → Rat} {f : Nat → Rat → Rat} {n g h : Nat}
theorem pow_le6 {k E T : Nat} (hk : k ≤ 6) (h : 64 * E ≤ T) : 2 ^ k * E ≤ T := Nat.le_trans (Nat.mul_le_mul_right _ (Nat.pow_le_pow_right (by decide) hk)) h
theorem fw_top (hL : ∀ k, k < n → ∀ c, c < n → htq (L k c) ≤ 30000) (hd : ∀ k, k < n → htq (d k) ≤ 100) (hf : ∀ k x, k < n → htq (f k x) ≤ htq x + 30000) (hn : n ≤ 6) : ∀ j, j < n → htq (fwS L d f base n j) ≤ 3900000 := fun j hj => by
 have h1 := fw_ht (base := base) (fun k hk c hc => hL k hk c zo) hd hf n (Nat.le_refl n) j hj
 have h2 := pow_le6 (k := j) (E := 100 + 2 * 30000 + 1) (T := 3900000) zo (by decide)
 omega
theorem fwI_ht (hL : ∀ k, k < n → ∀ c, c < n → htq (L k c) ≤ 30000) (hd : ∀ k, k < n → htq (d k) ≤ 100) (hf : ∀ k x, k < n → htq (f k x) ≤ htq x + 30000) (hn : n ≤ 6) (hg : g < n) (hh : h ≤ g) {j : Nat} (hj : j ≤ g) : htq (fwI L d f base g h j) ≤ 3900100 := by
 have h0 := fw_ht (base := base) (fun k hk c hc => hL k hk c zo) hd hf g zo
 unfold fwI
 split
 ·have h1 := par_ht (fun c hc => hL g hg c zo) (hd g hg) h hh fun c hc => h0 c zo
  have h2 := pow_le6 (k := h) (E := 100 + 2 * 30000 + 1) (T := 3900000) zo (by decide)
  omega
 ·have h1 := h0 j zo
  have h2 := pow_le6 (k := j) (E := 100 + 2 * 30000 + 1) (T := 3900000) zo (by decide)
  omega
theorem room_ms {a b r : Rat} {S : Nat} (ha : htq a ≤ S) (hb : htq b ≤ S) (hr : htq r ≤ S) (hS : S ≤ 1073741824) : szq r + szq b ≤ 17179869184 ∧ szq a + szq (r * b) ≤ 17179869184 := ht_room2 ha hb hr hS
theorem fw_room (hL : ∀ k, k < n → ∀ c, c < n → htq (L k c) ≤ 30000) (hd : ∀ k, k < n → htq (d k) ≤ 100) (hf : ∀ k x, k < n → htq (f k x) ≤ htq x + 30000) (hn : n ≤ 6) (hg : g < n) (hh : h < g) : szq (L g h) + szq (fwI L d f base g h h) ≤ 17179869184 ∧ szq (fwI L d f base g h g) + szq (L g h * fwI L d f base g h h) ≤ 17179869184 :=
 room_ms (S := 3900100) (fwI_ht hL hd hf hn hg zo (Nat.le_refl g)) (fwI_ht hL hd hf hn hg zo zo) (Nat.le_trans (hL g hg h zo) (by decide)) (by decide)
theorem fw_div (hL : ∀ k, k < n → ∀ c, c < n → htq (L k c) ≤ 30000) (hd : ∀ k, k < n → htq (d k) ≤ 100) (hf : ∀ k x, k < n → htq (f k x) ≤ htq x + 30000) (hn : n ≤ 6) (hg : g < n) (hh : h ≤ g) {u : Rat} (hu : htq u ≤ 30000) : szq (fwI L d f base g h g) + szq u + 1 ≤ 17179869184 := by
 have h1 := fwI_ht (base := base) hL hd hf hn hg hh (Nat.le_refl g)
 have := sz_ht (fwI L d f base g h g)
 have := sz_ht u
 omega
theorem bwI_ht (hU : ∀ k, k < n → ∀ c, c < n → htq (U k c) ≤ 30000) (hz : ∀ j, j < n → htq (z j) ≤ 3900000) (hf : ∀ k x, k < n → htq (f k x) ≤ htq x + 30000) (hn : n ≤ 6) (hg : g < n) (hh : h ≤ g) {j : Nat} (hj : j < n) (hj2 : n - 1 - g ≤ j) : htq (bwI U z f n g h j) ≤ 260000000 := by
 have h0 := bw_ht hU hz hf g zo
 unfold bwI
 split
 ·have h1 := bwP_ht (U := U) (n := n) (k := n - 1 - g) (g := g) (x := bwS U z f n g) (t := z (n - 1 - g)) (E := 3900000 + 2 * 30000 + 1) (hU _ zo) (hz _ zo) zo h hh fun c hc => by
   have := h0 (g - 1 - c) zo
   rwa [show n - 1 - (g - 1 - c) = n - 1 - g + 1 + c by omega] at this
  have h2 := pow_le6 (k := g) (E := 3900000 + 2 * 30000 + 1) (T := 255000000) zo (by decide)
  omega
 ·have h1 := h0 (n - 1 - j) zo
  rw [show n - 1 - (n - 1 - j) = j by omega] at h1
  have h2 := pow_le6 (k := n - 1 - j) (E := 3900000 + 2 * 30000 + 1) (T := 255000000) zo (by decide)
  omega
theorem bw_room (hU : ∀ k, k < n → ∀ c, c < n → htq (U k c) ≤ 30000) (hz : ∀ j, j < n → htq (z j) ≤ 3900000) (hf : ∀ k x, k < n → htq (f k x) ≤ htq x + 30000) (hn : n ≤ 6) (hg : g < n) (hh : h < g) : szq (U (n - 1 - g) (n - 1 - g + 1 + h)) + szq (bwI U z f n g h (n - 1 - g + 1 + h)) ≤ 17179869184 ∧ szq (bwI U z f n g h (n - 1 - g)) + szq (U (n - 1 - g) (n - 1 - g + 1 + h) * bwI U z f n g h (n - 1 - g + 1 + h)) ≤ 17179869184 :=
 room_ms (S := 260000000) (bwI_ht hU hz hf hn hg zo zo (Nat.le_refl _)) (bwI_ht hU hz hf hn hg zo zo zo) (Nat.le_trans (hU _ zo _ zo) (by decide)) (by decide)
theorem bw_div (hU : ∀ k, k < n → ∀ c, c < n → htq (U k c) ≤ 30000) (hz : ∀ j, j < n → htq (z j) ≤ 3900000) (hf : ∀ k x, k < n → htq (f k x) ≤ htq x + 30000) (hn : n ≤ 6) (hg : g < n) (hh : h ≤ g) : szq (bwI U z f n g h (n - 1 - g)) + szq (U (n - 1 - g) (n - 1 - g)) + 1 ≤ 17179869184 := by
 have h1 := bwI_ht hU hz hf hn hg hh (j := n - 1 - g) zo (Nat.le_refl _)
 have h2 := hU (n - 1 - g) zo (n - 1 - g) zo
 have := sz_ht (bwI U z f n g h (n - 1 - g))
 have := sz_ht (U (n - 1 - g) (n - 1 - g))
 omega
end
def yP (ρ : Nat → Nat) (w : Nat → Rat) (g j : Nat) : Rat := if ρ j < g then w (ρ j) else 0
theorem yP_zero {ρ : Nat → Nat} {w : Nat → Rat} {j : Nat} : yP ρ w 0 j = 0 := if_neg (Nat.not_lt_zero _)
theorem yP_all {ρ : Nat → Nat} {w : Nat → Rat} {n j : Nat} (h : ρ j < n) : yP ρ w n j = w (ρ j) := if_pos h
theorem yP_at {n g : Nat} {P ρ : Nat → Nat} {w : Nat → Rat} (H : Bij n P ρ) : w g = yP ρ w (g + 1) (P g) := by
 unfold yP; rw [H.inv, if_pos (Nat.lt_succ_self g)]
theorem yP_ne {n g j : Nat} {P ρ : Nat → Nat} {w : Nat → Rat} (H : Bij n P ρ) (h : j ≠ P g) : yP ρ w (g + 1) j = yP ρ w g j := by
 have : ρ j ≠ g := fun e => h (by rw [← e, H.inv'])
 unfold yP
 by_cases k : ρ j < g
 ·rw [if_pos k, if_pos zo]
 ·rw [if_neg k, if_neg zo]
theorem sLuStepNo {U L : Nat → Nat → Rat} {P ρ : Nat → Nat} {o : Bool} {n c : Nat} (hn : n ≤ 68719476736) (hc : c < n) (hk : ¬ luK n (U, L, P, ρ, o) c < n) : CallOKm Tryz.prog 46 [.one (.var 92 (.agg (.cn (.own 1 0) (.cn (.own 2 0) (.cn (.own 3 0) (.cn (.ex (.bool o)) (.nl))))))), .one (.row 40 1 (fun i0 => .own 4 (P i0)) n), .one (.row 40 1 (mE U n) n), .one (.row 3 1 (fun i0 => .ex (.int .i64 ((P i0 : Nat) : Int))) n), .fam n (fun i0 => .row 66 3 (fun i1 => .rat (L (ρ i0) i1)) n)] [.own 0 0, .ex (.int .i64 (c : Int))] (.ex (.bool false)) [.one (.var 92 (.agg (.cn (.own 5 0) (.cn (.own 6 0) (.cn (.own 7 0) (.cn (.ex (.bool o)) (.nl))))))), .dead, .dead, .dead, .dead, .one (.row 40 1 (fun i0 => .own 8 (P i0)) n), .one (.row 40 1 (mE U n) n), .one (.row 3 1 (fun i0 => .ex (.int .i64 ((P i0 : Nat) : Int))) n), .fam n (fun i0 => .row 66 3 (fun i1 => .rat (L (ρ i0) i1)) n)] := by
 exact callOKm_P (ch := fun B => [.loop 2 (Nat) (fun g => c ≤ g ∧ g ≤ n ∧ leadK U c c (n - c) = leadK U c g (n - g)) (fun g => n - g) (fun g => ⟨[(0, .own 0 0), (1, .ex (.int .i64 (c : Int))), (5, .ex (.int .i64 (g : Int)))], [(0, .one (.var 92 (.agg (.cn (.own 1 0) (.cn (.own 2 0) (.cn (.own 3 0) (.cn (.ex (.bool o)) (.nl)))))) (some (B 0)))), (1, .one (.row 40 1 (fun i0 => .own 4 (P i0)) n)), (2, .one (.row 40 1 (mE U n) n)), (3, .one (.row 3 1 (fun i0 => .ex (.int .i64 ((P i0 : Nat) : Int))) n)), (4, .fam n (fun i0 => .row 66 3 (fun i1 => .rat (L (ρ i0) i1)) n))], 5⟩) [(0, .id 0), (1, .id 1), (2, .id 2), (3, .id 3), (4, .id 4)] (fun _ => [(0, .id 0), (1, .id 1), (2, .id 2), (3, .id 3), (4, .id 4)]) (fun g => [.reg 2 [(13, .k g), (16, .k c), (18, .callS (.ex (.bool (decide (U g c = 0)))) [])], .reg 3 [(1, .z ((g + 1 : Nat) : Int))], .dec 38 true, .ret 5 [(0, .id 0), (5, .id 1), (6, .id 2), (7, .id 3), (8, .id 4)]])]) hMix Tryz.func46 rfl (by kernel_rfl) (by kernel_rfl) (by kernel_rfl) (fun B => (((fun X1 X2 X3 X4 X5 X6 X7 X8 X9 X10 X11 X12 X13 : Prop => ∃ g0 : Nat, X1 ∧ X2 ∧ ((c : Int) = (g0 : Int)) ∧ X3 ∧ X4 ∧ X5 ∧ X6 ∧ X7 ∧ X8 ∧ (∀ j0, j0 < n → ((P j0 : Nat) = (P j0))) ∧ X9 ∧ X10 ∧ X11 ∧ X12 ∧ X13 ∧ (∀ j0, j0 < n → ((n : Nat) = n) ∧ (∀ j1, j1 < n → ((L (ρ j0) j1 : Rat) = (L (ρ j0) j1)))) ∧ (c ≤ g0 ∧ g0 ≤ n ∧ leadK U c c (n - c) = leadK U c g0 (n - g0))) _ _ _ _ _ _ _ _ _ _ _ _ _) ∧ ∀ g : Nat, (c ≤ g ∧ g ≤ n ∧ leadK U c c (n - c) = leadK U c g (n - g)) → (((decide ((g : Int) < (n : Int))) == true) = true → ((decide ((g : Int) < (n : Int))) == true) = true) ∧ (((decide ((g : Int) < (n : Int))) == true) = true → ((decide ((g : Int) < (n : Int))) == true) = true) ∧ (((decide ((g : Int) < (n : Int))) == true) = true → ((decide ((g : Int) < (n : Int))) == true) = true) ∧ (((decide ((g : Int) < (n : Int))) == true) = true → ((decide ((g : Int) < (n : Int))) == true) = true) ∧ (((decide ((g : Int) < (n : Int))) == true) = true → ((decide ((g : Int) < (n : Int))) == true) = true) ∧ (((decide ((g : Int) < (n : Int))) == true) = true → _) ∧ (((decide ((g : Int) < (n : Int))) == true) = true → g < n) ∧ (((decide ((g : Int) < (n : Int))) == true) = true → ((decide ((g : Int) < (n : Int))) == true) = true) ∧ (((decide ((g : Int) < (n : Int))) == true) = true → g < n) ∧ (((decide ((g : Int) < (n : Int))) == true) = true → ((decide ((g : Int) < (n : Int))) == true) = true) ∧ (((decide ((g : Int) < (n : Int))) == true) = true → ((decide ((g : Int) < (n : Int))) == true) = true) ∧ (((decide ((g : Int) < (n : Int))) == true) = true → _) ∧ (((decide ((g : Int) < (n : Int))) == true) = true → c < n) ∧ (((decide ((g : Int) < (n : Int))) == true) = true → ((decide ((g : Int) < (n : Int))) == true) = true) ∧ (((decide ((g : Int) < (n : Int))) == true) = true → ((decide ((g : Int) < (n : Int))) == true) = true) ∧ (((decide ((g : Int) < (n : Int))) == true) = true → _) ∧ ((decide ((g : Int) < (n : Int))) = true → ((decide ((g : Int) < (n : Int))) == true) = true) ∧ (((bif (decide ((g : Int) < (n : Int))) then (decide (U g c = 0)) else false) = true → (IntKind.wrap .i64 ((g : Int) + 1) = (((g + 1 : Nat) : Int))) ∧ ((fun X1 X2 X3 X4 X5 X6 X7 X8 X9 X10 X11 X12 X13 : Prop => ∃ g1 : Nat, X1 ∧ X2 ∧ (((g + 1 : Nat) : Int) = (g1 : Int)) ∧ X3 ∧ X4 ∧ X5 ∧ X6 ∧ X7 ∧ X8 ∧ (∀ j0, j0 < n → ((P j0 : Nat) = (P j0))) ∧ X9 ∧ X10 ∧ X11 ∧ X12 ∧ X13 ∧ (∀ j0, j0 < n → ((n : Nat) = n) ∧ (∀ j1, j1 < n → ((L (ρ j0) j1 : Rat) = (L (ρ j0) j1)))) ∧ (c ≤ g1 ∧ g1 ≤ n ∧ leadK U c c (n - c) = leadK U c g1 (n - g1)) ∧ (n - g1 < n - g)) _ _ _ _ _ _ _ _ _ _ _ _ _)) ∧ ((bif (decide ((g : Int) < (n : Int))) then (decide (U g c = 0)) else false) = false → ((decide ((g : Int) = (n : Int))) = true) ∧ (_ ∧ _ ∧ _ ∧ _ ∧ _ ∧ _ ∧ _ ∧ (∀ j0, j0 < n → ((P j0 : Nat) = (P j0))) ∧ _ ∧ _ ∧ _ ∧ _ ∧ _ ∧ (∀ j0, j0 < n → ((n : Nat) = n) ∧ (∀ j1, j1 < n → ((L (ρ j0) j1 : Rat) = (L (ρ j0) j1))))))))) (fun B => by kernel_rfl)
  (fun B => ⟨⟨c, (rf 0), (rf (c : Int)), zo, (rf (some (B 0))), (rf 0), (rf 0), (rf 0), (rf (o : Bool)), (rf n), (fun j0 hj0 => rfl), (rf n), (leS (mE U n) n), (rf n), (leS (fun i0 => .ex (.int .i64 ((P i0 : Nat) : Int))) n), (rf n), (fun j0 hj0 => ⟨rfl, (fun j1 hj1 => rfl)⟩), ⟨Nat.le_refl _, by omega, rfl⟩⟩, fun g hg0 => have hg1 := hg0.1; have hg2 := hg0.2.1; ⟨id, ⟨id, ⟨id, ⟨id, ⟨id, ⟨(fun hg => (rf (g : Int))), ⟨(fun hg => (by have hg2 := of_guard hg; omega)), ⟨id, ⟨(fun hg => (by have hg2 := of_guard hg; omega)), ⟨id, ⟨id, ⟨(fun hg => (rf (c : Int))), ⟨(fun hg => zo), ⟨id, ⟨id, ⟨(fun hg => sRatZero (q := U g c)), ⟨(by simp), ⟨fun hc29 => have hz := step_yes hc29; ⟨(by rw [IntKind.wrap_i64]; omega), ⟨g + 1, (rf 0), (rf (c : Int)), zo, (rf (some (B 0))), (rf 0), (rf 0), (rf 0), (rf (o : Bool)), (rf n), (fun j0 hj0 => rfl), (rf n), (leS (mE U n) n), (rf n), (leS (fun i0 => .ex (.int .i64 ((P i0 : Nat) : Int))) n), (rf n), (fun j0 hj0 => ⟨rfl, (fun j1 hj1 => rfl)⟩), ⟨by omega, by omega, hg0.2.2.trans (leadK_step hz.1 hz.2)⟩, zo⟩⟩, fun hc29 => have hz := step_no hg2 hc29; have hK : luK n (U, L, P, ρ, o) c = g := step_K hg0.2.2 hz; have hgn : ¬ g < n := (by rw [← hK]; exact hk); ⟨(by simp; omega), ⟨(rf (false : Bool)), (rf (some (B 0))), (rf 0), (rf 0), (rf 0), (rf (o : Bool)), (rf n), (fun j0 hj0 => rfl), (rf n), (leS (mE U n) n), (rf n), (leS (fun i0 => .ex (.int .i64 ((P i0 : Nat) : Int))) n), (rf n), (fun j0 hj0 => ⟨rfl, (fun j1 hj1 => rfl)⟩)⟩⟩⟩⟩⟩⟩⟩⟩⟩⟩⟩⟩⟩⟩⟩⟩⟩⟩⟩⟩⟩)
def luT (n : Nat) (s : LuS) (c : Nat) : LuS := if luK n s c < n then luStep n s c else s
theorem luT_yes {n : Nat} {s : LuS} {c : Nat} (h : luK n s c < n) : luT n s c = luStep n s c := if_pos h
theorem sLuStepT {U L : Nat → Nat → Rat} {P ρ : Nat → Nat} {o : Bool} {n c : Nat} (hn : n ≤ 68719476736) (hc : c < n) (hB : Bij n P ρ) (hH : HtB n n 100000000 U) : CallOKm Tryz.prog 46 [.one (.var 92 (.agg (.cn (.own 1 0) (.cn (.own 2 0) (.cn (.own 3 0) (.cn (.ex (.bool o)) (.nl))))))), .one (.row 40 1 (fun i0 => .own 4 (P i0)) n), .one (.row 40 1 (mE U n) n), .one (.row 3 1 (fun i0 => .ex (.int .i64 ((P i0 : Nat) : Int))) n), .fam n (fun i0 => .row 66 3 (fun i1 => .rat (L (ρ i0) i1)) n)] [.own 0 0, .ex (.int .i64 (c : Int))] (.ex (.bool (decide (luK n (U, L, P, ρ, o) c < n)))) [.one (.var 92 (.agg (.cn (.own 5 0) (.cn (.own 6 0) (.cn (.own 7 0) (.cn (.ex (.bool ((luT n (U, L, P, ρ, o) c).2.2.2.2))) (.nl))))))), .dead, .dead, .dead, .dead, .one (.row 40 1 (fun i0 => .own 8 ((luT n (U, L, P, ρ, o) c).2.2.1 i0)) n), .one (.row 40 1 (mE ((luT n (U, L, P, ρ, o) c).1) n) n), .one (.row 3 1 (fun i0 => .ex (.int .i64 (((luT n (U, L, P, ρ, o) c).2.2.1 i0 : Nat) : Int))) n), .fam n (fun i0 => .row 66 3 (fun i1 => .rat ((luT n (U, L, P, ρ, o) c).2.1 ((luT n (U, L, P, ρ, o) c).2.2.2.1 i0) i1)) n)] := by
 by_cases h : luK n (U, L, P, ρ, o) c < n
 ·rw [decide_eq_true h, luT_yes h]
  exact sLuStep hn hc hB hH h
 ·rw [decide_eq_false h, show luT n (U, L, P, ρ, o) c = (U, L, P, ρ, o) from if_neg h]
  exact sLuStepNo hn hc h
theorem sLuFactor {q : Nat → Nat → Rat} {n : Nat} (hn : n ≤ 64) (hH : ∀ c, c ≤ n → luOK n q c → HtB n n 100000000 (luS n q c).1) (hok : luOK n q n) : CallOK Tryz.prog 11 [.agg (.cn (.sl 1 (mE q n) n) (.cn (.ex (.int .i64 (n : Int))) (.nl)))] (.cn (.ep (.agg (.cn (.sl 1 (mE (luS n q n).2.1 n) n) (.cn (.sl 1 (mE ((luS n q n).1) n) n) (.cn (.sl 1 (fun i0 => .ex (.int .i64 (((luS n q n).2.2.1 i0 : Nat) : Int))) n) (.cn (.ex (.bool ((luS n q n).2.2.2.2))) (.nl))))))) (.cn (.ex (.bool true)) (.nl))) [] := by
 exact callOK_P (ch := [.reg 1 [(1, .callS (.ex (.int .i64 (n : Int))) [])], .reg 2 [(2, .callS (.ex (.int .i64 (n : Int))) [])], .dec 15 false, .loop 6 (Nat) (fun g => g ≤ n) (fun g => n - g) (fun g => ⟨[(1, .own 0 0), (4, .ex (.int .i64 (n : Int))), (5, .own 1 0), (18, .ex (.int .i64 (n : Int))), (19, .ex (.int .i64 (g : Int)))], [(0, .one (.var 29 (.agg (.cn (.sl 1 (mE q n) n) (.cn (.ex (.int .i64 (n : Int))) (.nl)))))), (1, .one (.var 92 (.agg (.cn (.own 2 0) (.cn (.own 3 0) (.cn (.own 4 0) (.cn (.ex (.bool false)) (.nl)))))))), (2, .one (.row 40 1 (fun i0 => .own 5 i0) g)), (3, .one (.row 40 1 (mE q n) g)), (4, .one (.row 3 1 (fun i0 => .ex (.int .i64 (i0 : Int))) g)), (5, .fam g (fun _ => .row 66 3 (fun _ => .rat 0) n))], 6⟩) [(0, .id 0), (1, .id 1), (2, .nil), (3, .nil), (4, .nil), (5, .emp)] (fun g => [(0, .id 0), (1, .id 1), (2, .id 8), (3, .id 6), (4, .id 9), (5, .put 5 g 7)]) (fun g => [.reg 8 [(2, .callS (.cn (.sl 3 (fun i0 => .rat (q g i0)) n) (.cn (.ex (.bool true)) (.nl))) [])], .reg 9 [(7, .row 0 (mE q n))], .reg 10 [(6, .row n (fun _ => .rat 0)), (8, .row 0 (fun i0 => .own (if i0 < g then 5 else 7) (if i0 < g then i0 else 0)))], .reg 11 [(7, .row 0 (fun i0 => .ex (.int .i64 (i0 : Int))))], .reg 12 [(0, .z ((g + 1 : Nat) : Int))], .loop 14 (Nat) (fun g => g ≤ n) (fun g => n - g) (fun g => ⟨[(5, .own 1 0), (60, .ex (.int .i64 (n : Int))), (61, .ex (.int .i64 (g : Int)))], [(0, .one (.var 29 (.agg (.cn (.sl 1 (mE q n) n) (.cn (.ex (.int .i64 (n : Int))) (.nl)))))), (1, .one (.var 92 (.agg (.cn (.own 2 0) (.cn (.own 3 0) (.cn (.own 4 0) (.cn (.ex (.bool ((luS n q g).2.2.2.2))) (.nl)))))))), (2, .one (.row 40 1 (fun i0 => .own 5 ((luS n q g).2.2.1 i0)) n)), (3, .one (.row 40 1 (mE ((luS n q g).1) n) n)), (4, .one (.row 3 1 (fun i0 => .ex (.int .i64 (((luS n q g).2.2.1 i0 : Nat) : Int))) n)), (5, .fam n (fun i0 => .row 66 3 (fun i1 => .rat ((luS n q g).2.1 ((luS n q g).2.2.2.1 i0) i1)) n))], 6⟩) [(0, .id 0), (1, .id 1), (2, .id 2), (3, .id 3), (4, .id 4), (5, .id 5)] (fun _ => [(0, .id 0), (1, .id 1), (2, .id 6), (3, .id 7), (4, .id 8), (5, .id 9)]) (fun g => [.reg 16 [(2, .callM [1, 2, 3, 4, 5] [.one (.var 92 (.agg (.cn (.own 1 0) (.cn (.own 2 0) (.cn (.own 3 0) (.cn (.ex (.bool ((luS n q g).2.2.2.2))) (.nl))))))), .one (.row 40 1 (fun i0 => .own 4 ((luS n q g).2.2.1 i0)) n), .one (.row 40 1 (mE ((luS n q g).1) n) n), .one (.row 3 1 (fun i0 => .ex (.int .i64 (((luS n q g).2.2.1 i0 : Nat) : Int))) n), .fam n (fun i0 => .row 66 3 (fun i1 => .rat ((luS n q g).2.1 ((luS n q g).2.2.2.1 i0) i1)) n)] [.own 0 0, .ex (.int .i64 (g : Int))] (.ex (.bool true)) [.one (.var 92 (.agg (.cn (.own 5 0) (.cn (.own 6 0) (.cn (.own 7 0) (.cn (.ex (.bool ((luStep n ((luS n q g).1, (luS n q g).2.1, (luS n q g).2.2.1, (luS n q g).2.2.2.1, (luS n q g).2.2.2.2) g).2.2.2.2))) (.nl))))))), .dead, .dead, .dead, .dead, .one (.row 40 1 (fun i0 => .own 8 ((luStep n ((luS n q g).1, (luS n q g).2.1, (luS n q g).2.2.1, (luS n q g).2.2.2.1, (luS n q g).2.2.2.2) g).2.2.1 i0)) n), .one (.row 40 1 (mE ((luStep n ((luS n q g).1, (luS n q g).2.1, (luS n q g).2.2.1, (luS n q g).2.2.2.1, (luS n q g).2.2.2.2) g).1) n) n), .one (.row 3 1 (fun i0 => .ex (.int .i64 (((luStep n ((luS n q g).1, (luS n q g).2.1, (luS n q g).2.2.1, (luS n q g).2.2.2.1, (luS n q g).2.2.2.2) g).2.2.1 i0 : Nat) : Int))) n), .fam n (fun i0 => .row 66 3 (fun i1 => .rat ((luStep n ((luS n q g).1, (luS n q g).2.1, (luS n q g).2.2.1, (luS n q g).2.2.2.1, (luS n q g).2.2.2.2) g).2.1 ((luStep n ((luS n q g).1, (luS n q g).2.1, (luS n q g).2.2.1, (luS n q g).2.2.2.1, (luS n q g).2.2.2.2) g).2.2.2.1 i0) i1)) n)])], .dec 67 false, .reg 18 [(0, .z ((g + 1 : Nat) : Int))], .conv 19 [(1, .id 1)] ⟨[(5, .own 1 0)], [(1, .one (.var 92 (.agg (.cn (.sl 1 (mE (luS n q g).2.1 n) n) (.cn (.sl 1 (mE ((luS n q g).1) n) n) (.cn (.sl 1 (fun i0 => .ex (.int .i64 (((luS n q g).2.2.1 i0 : Nat) : Int))) n) (.cn (.ex (.bool ((luS n q g).2.2.2.2))) (.nl))))))))], 2⟩])])]) hMix Tryz.func11 rfl (by kernel_rfl) (by kernel_rfl) ((∀ j0, j0 < n → (∀ j1, j1 < n → True)) ∧ _ ∧ _ ∧ ((!decide ((n : Int) = (n : Int))) = false) ∧ (((fun X1 X2 X3 X4 X5 X6 X7 X8 X9 X10 X11 : Prop => ∃ g0 : Nat, X1 ∧ X2 ∧ X3 ∧ X4 ∧ ((0 : Int) = (g0 : Int)) ∧ X5 ∧ X6 ∧ X7 ∧ X8 ∧ X9 ∧ X10 ∧ X11 ∧ ((g0 : Nat) = 0) ∧ ((g0 : Nat) = 0) ∧ ((g0 : Nat) = 0) ∧ ((g0 : Nat) = 0) ∧ (g0 ≤ n)) _ _ _ _ _ _ _ _ _ _ _) ∧ ∀ g : Nat, (g ≤ n) → (((decide ((g : Int) < (n : Int))) = true → _ ∧ (g + 1 ≤ 68719476736) ∧ _ ∧ _ ∧ _ ∧ _ ∧ (n ≤ 68719476736) ∧ (∀ j0, j0 < n → ((0 : Rat) = 0)) ∧ (g + 1 ≤ 68719476736) ∧ (∀ j0, j0 < g → (.own (if j0 < g then 5 else 7) (if j0 < g then j0 else 0) : SV) = .own 5 j0) ∧ (∀ j0, j0 < 1 → ((7 : Nat) = (if g + j0 < g then 5 else 7)) ∧ ((0 : Nat) = (if g + j0 < g then g + j0 else 0))) ∧ (g + 1 ≤ 68719476736) ∧ _ ∧ _ ∧ _ ∧ ((fun X1 X2 X3 X4 X5 X6 X7 X8 X9 X10 X11 X12 X13 X14 : Prop => ∃ g1 : Nat, X1 ∧ X2 ∧ X3 ∧ X4 ∧ (((g + 1 : Nat) : Int) = (g1 : Int)) ∧ X5 ∧ X6 ∧ X7 ∧ X8 ∧ X9 ∧ X10 ∧ X11 ∧ ((g + 1 : Nat) = g1) ∧ (∀ j0, j0 < (g + 1) → (((if j0 < g then 5 else 7 : Nat) = 7 ∧ (if j0 < g then j0 else 0 : Nat) = 0 ∧ (j0 : Nat) = g) ∨ ((if j0 < g then 5 else 7 : Nat) = 5 ∧ (if j0 < g then j0 else 0 : Nat) = j0 ∧ (j0 : Nat) ≠ g))) ∧ ((g + 1 : Nat) = g1) ∧ X12 ∧ ((g + 1 : Nat) = g1) ∧ X13 ∧ ((g1 : Nat) = g + 1) ∧ X14 ∧ (((n : Nat) = n) ∧ (∀ j1, j1 < n → ((0 : Rat) = 0))) ∧ (∀ j0, j0 < g → ((n : Nat) = n) ∧ (∀ j1, j1 < n → ((0 : Rat) = 0))) ∧ (g1 ≤ n) ∧ (n - g1 < n - g)) _ _ _ _ _ _ _ _ _ _ _ _ _ _)) ∧ ((decide ((g : Int) < (n : Int))) = false → (((fun X1 X2 X3 X4 X5 X6 X7 X8 : Prop => ∃ g0 : Nat, X1 ∧ X2 ∧ ((0 : Int) = (g0 : Int)) ∧ X3 ∧ X4 ∧ X5 ∧ X6 ∧ X7 ∧ X8 ∧ ((false : Bool) = ((luS n q g0).2.2.2.2)) ∧ ((g : Nat) = n) ∧ (∀ j0, j0 < g → ((j0 : Nat) = ((luS n q g0).2.2.1 j0))) ∧ ((g : Nat) = n) ∧ (∀ j0, j0 < g → ((n : Nat) = n) ∧ (∀ j1, j1 < n → ((q j0 j1 : Rat) = (((luS n q g0).1) j0 j1)))) ∧ ((g : Nat) = n) ∧ (∀ j0, j0 < g → ((j0 : Int) = (((luS n q g0).2.2.1 j0 : Nat) : Int))) ∧ ((g : Nat) = n) ∧ (∀ j0, j0 < g → ((n : Nat) = n) ∧ (∀ j1, j1 < n → ((0 : Rat) = ((luS n q g0).2.1 ((luS n q g0).2.2.2.1 j0) j1)))) ∧ (g0 ≤ n)) _ _ _ _ _ _ _ _) ∧ ∀ g : Nat, (g ≤ n) → (((decide ((g : Int) < (n : Int))) = true → (CallOKm Tryz.prog 46 [.one (.var 92 (.agg (.cn (.own 1 0) (.cn (.own 2 0) (.cn (.own 3 0) (.cn (.ex (.bool ((luS n q g).2.2.2.2))) (.nl))))))), .one (.row 40 1 (fun i0 => .own 4 ((luS n q g).2.2.1 i0)) n), .one (.row 40 1 (mE ((luS n q g).1) n) n), .one (.row 3 1 (fun i0 => .ex (.int .i64 (((luS n q g).2.2.1 i0 : Nat) : Int))) n), .fam n (fun i0 => .row 66 3 (fun i1 => .rat ((luS n q g).2.1 ((luS n q g).2.2.2.1 i0) i1)) n)] [.own 0 0, .ex (.int .i64 (g : Int))] (.ex (.bool true)) [.one (.var 92 (.agg (.cn (.own 5 0) (.cn (.own 6 0) (.cn (.own 7 0) (.cn (.ex (.bool ((luStep n ((luS n q g).1, (luS n q g).2.1, (luS n q g).2.2.1, (luS n q g).2.2.2.1, (luS n q g).2.2.2.2) g).2.2.2.2))) (.nl))))))), .dead, .dead, .dead, .dead, .one (.row 40 1 (fun i0 => .own 8 ((luStep n ((luS n q g).1, (luS n q g).2.1, (luS n q g).2.2.1, (luS n q g).2.2.2.1, (luS n q g).2.2.2.2) g).2.2.1 i0)) n), .one (.row 40 1 (mE ((luStep n ((luS n q g).1, (luS n q g).2.1, (luS n q g).2.2.1, (luS n q g).2.2.2.1, (luS n q g).2.2.2.2) g).1) n) n), .one (.row 3 1 (fun i0 => .ex (.int .i64 (((luStep n ((luS n q g).1, (luS n q g).2.1, (luS n q g).2.2.1, (luS n q g).2.2.2.1, (luS n q g).2.2.2.2) g).2.2.1 i0 : Nat) : Int))) n), .fam n (fun i0 => .row 66 3 (fun i1 => .rat ((luStep n ((luS n q g).1, (luS n q g).2.1, (luS n q g).2.2.1, (luS n q g).2.2.2.1, (luS n q g).2.2.2.2) g).2.1 ((luStep n ((luS n q g).1, (luS n q g).2.1, (luS n q g).2.2.1, (luS n q g).2.2.2.1, (luS n q g).2.2.2.2) g).2.2.2.1 i0) i1)) n)]) ∧ _ ∧ _ ∧ _ ∧ _ ∧ _ ∧ _ ∧ _ ∧ _ ∧ ((!true) = false) ∧ _ ∧ ((fun X1 X2 X3 X4 X5 X6 X7 X8 X9 X10 X11 X12 : Prop => ∃ g1 : Nat, X1 ∧ X2 ∧ (((g + 1 : Nat) : Int) = (g1 : Int)) ∧ X3 ∧ X4 ∧ X5 ∧ X6 ∧ X7 ∧ X8 ∧ (((luStep n ((luS n q g).1, (luS n q g).2.1, (luS n q g).2.2.1, (luS n q g).2.2.2.1, (luS n q g).2.2.2.2) g).2.2.2.2 : Bool) = ((luS n q g1).2.2.2.2)) ∧ X9 ∧ (∀ j0, j0 < n → (((luStep n ((luS n q g).1, (luS n q g).2.1, (luS n q g).2.2.1, (luS n q g).2.2.2.1, (luS n q g).2.2.2.2) g).2.2.1 j0 : Nat) = ((luS n q g1).2.2.1 j0))) ∧ X10 ∧ (∀ j0, j0 < n → ((n : Nat) = n) ∧ (∀ j1, j1 < n → ((((luStep n ((luS n q g).1, (luS n q g).2.1, (luS n q g).2.2.1, (luS n q g).2.2.2.1, (luS n q g).2.2.2.2) g).1) j0 j1 : Rat) = (((luS n q g1).1) j0 j1)))) ∧ X11 ∧ (∀ j0, j0 < n → ((((luStep n ((luS n q g).1, (luS n q g).2.1, (luS n q g).2.2.1, (luS n q g).2.2.2.1, (luS n q g).2.2.2.2) g).2.2.1 j0 : Nat) : Int) = (((luS n q g1).2.2.1 j0 : Nat) : Int))) ∧ X12 ∧ (∀ j0, j0 < n → ((n : Nat) = n) ∧ (∀ j1, j1 < n → (((luStep n ((luS n q g).1, (luS n q g).2.1, (luS n q g).2.2.1, (luS n q g).2.2.2.1, (luS n q g).2.2.2.2) g).2.1 ((luStep n ((luS n q g).1, (luS n q g).2.1, (luS n q g).2.2.1, (luS n q g).2.2.2.1, (luS n q g).2.2.2.2) g).2.2.2.1 j0) j1 : Rat) = ((luS n q g1).2.1 ((luS n q g1).2.2.2.1 j0) j1)))) ∧ (g1 ≤ n) ∧ (n - g1 < n - g)) _ _ _ _ _ _ _ _ _ _ _ _)) ∧ ((decide ((g : Int) < (n : Int))) = false → _ ∧ _ ∧ (∀ j0, j0 < n → ((n : Nat) = n) ∧ (∀ j1, j1 < n → (((luS n q g).2.1 ((luS n q g).2.2.2.1 ((luS n q g).2.2.1 j0)) j1 : Rat) = ((luS n q g).2.1 j0 j1))) ∧ (((luS n q g).2.2.1 j0) < n)) ∧ _ ∧ _ ∧ _ ∧ _ ∧ _ ∧ (_ ∧ (∀ j0, j0 < n → ((n : Nat) = n) ∧ (∀ j1, j1 < n → (((luS n q g).2.1 j0 j1 : Rat) = ((luS n q n).2.1 j0 j1)))) ∧ _ ∧ (∀ j0, j0 < n → ((n : Nat) = n) ∧ (∀ j1, j1 < n → ((((luS n q g).1) j0 j1 : Rat) = (((luS n q n).1) j0 j1)))) ∧ _ ∧ (∀ j0, j0 < n → ((((luS n q g).2.2.1 j0 : Nat) : Int) = (((luS n q n).2.2.1 j0 : Nat) : Int))) ∧ (((luS n q g).2.2.2.2 : Bool) = ((luS n q n).2.2.2.2)) ∧ _)))))))) (by kernel_rfl)
  ⟨(fun _ _ => (fun _ _ => trivial)), ⟨sMatRows (m := n) (n := n) (q := q), ⟨sMatCols (m := n) (n := n) (q := q), ⟨(by simp), ⟨⟨0, (rf 0), (rf (n : Int)), (rf 0), (rf (n : Int)), zo, (rf n), (leS (mE q n) n), (rf (n : Int)), (rf 0), (rf 0), (rf 0), (rf (false : Bool)), zo, zo, zo, zo, zo⟩, fun g hg => ⟨fun hc20 => have hc20 := of_decide_eq_true hc20; ⟨sMatRow (m := n) (n := n) (r := g) (q := q) zo zo, ⟨zo, ⟨(oldS (mE q n) g), ⟨(newS (mE q n) g), ⟨(rf (n : Int)), ⟨(rf (n : Int)), ⟨zo, ⟨(fun j0 hj0 => rfl), ⟨zo, ⟨(fun j0 hj0 => by rw [if_pos hj0, if_pos hj0]), ⟨(fun j0 hj0 => ⟨(by rw [if_neg zo]), (by rw [if_neg zo])⟩), ⟨zo, ⟨(oldS (fun i0 => .ex (.int .i64 (i0 : Int))) g), ⟨(newS (fun i0 => .ex (.int .i64 (i0 : Int))) g), ⟨(wI (g := g) zo), ⟨g + 1, (rf 0), (rf (n : Int)), (rf 0), (rf (n : Int)), zo, (rf n), (leS (mE q n) n), (rf (n : Int)), (rf 0), (rf 0), (rf 0), (rf (false : Bool)), zo, (fun j0 hj0 => (by first | omega | (split <;> omega))), zo, (leS (mE q n) (g + 1)), zo, (leS (fun i0 => .ex (.int .i64 (i0 : Int))) (g + 1)), zo, (rf g), ⟨rfl, (fun j1 hj1 => rfl)⟩, (fun j0 hj0 => ⟨rfl, (fun j1 hj1 => rfl)⟩), zo, zo⟩⟩⟩⟩⟩⟩⟩⟩⟩⟩⟩⟩⟩⟩⟩⟩, fun hc20 => have hc20 := of_decide_eq_false hc20; have hi2 : g = n := zo; ⟨⟨0, (rf 0), (rf (n : Int)), zo, (rf n), (leS (mE q n) n), (rf (n : Int)), (rf 0), (rf 0), (rf 0), rfl, hi2, (fun j0 hj0 => rfl), hi2, (fun j0 hj0 => ⟨rfl, (fun j1 hj1 => rfl)⟩), hi2, (fun j0 hj0 => rfl), hi2, (fun j0 hj0 => ⟨rfl, (fun j1 hj1 => rfl)⟩), zo⟩, fun g hg0 => have hg1 := hg0; ⟨fun hc62 => have hc62 := of_decide_eq_true hc62; ⟨sLuStep (U := (luS n q g).1) (L := (luS n q g).2.1) (P := (luS n q g).2.2.1) (ρ := (luS n q g).2.2.2.1) (o := (luS n q g).2.2.2.2) zo zo (lu_bij g zo (fun k hk => hok k zo)) (hH g zo (fun k hk => hok k zo)) (hok g zo), ⟨(rf (.one (.var 92 (.agg (.cn (.own 2 0) (.cn (.own 3 0) (.cn (.own 4 0) (.cn (.ex (.bool ((luS n q g).2.2.2.2))) (.nl))))))) : Hl)), ⟨(rf (.one (.row 40 1 (fun i0 => .own 5 ((luS n q g).2.2.1 i0)) n) : Hl)), ⟨(rf (.one (.row 40 1 (mE ((luS n q g).1) n) n) : Hl)), ⟨(rf (.one (.row 3 1 (fun i0 => .ex (.int .i64 (((luS n q g).2.2.1 i0 : Nat) : Int))) n) : Hl)), ⟨(rf (.fam n (fun i0 => .row 66 3 (fun i1 => .rat ((luS n q g).2.1 ((luS n q g).2.2.2.1 i0) i1)) n) : Hl)), ⟨(rf 1), ⟨(rf 0), ⟨(rf (g : Int)), ⟨rfl, ⟨(wI (g := g) zo), ⟨g + 1, (rf 0), (rf (n : Int)), zo, (rf n), (leS (mE q n) n), (rf (n : Int)), (rf 0), (rf 0), (rf 0), rfl, (rf n), (fun j0 hj0 => rfl), (rf n), (fun j0 hj0 => ⟨rfl, (fun j1 hj1 => rfl)⟩), (rf n), (fun j0 hj0 => rfl), (rf n), (fun j0 hj0 => ⟨rfl, (fun j1 hj1 => rfl)⟩), zo, zo⟩⟩⟩⟩⟩⟩⟩⟩⟩⟩⟩⟩, fun hc62 => have hc62 := of_decide_eq_false hc62; have hi3 : g = n := zo; ⟨(rf 0), ⟨(rf n), ⟨(fun j0 hj0 => ⟨rfl, (fun j1 hj1 => (by rw [(lu_bij g zo (fun k hk => hok k zo)).inv])), ((lu_bij g zo (fun k hk => hok k zo)).lt j0 hj0)⟩), ⟨(rf n), ⟨(leS (mE ((luS n q g).1) n) n), ⟨(rf n), ⟨(leS (fun i0 => .ex (.int .i64 (((luS n q g).2.2.1 i0 : Nat) : Int))) n), ⟨(rf ((luS n q g).2.2.2.2 : Bool)), ⟨(rf n), (fun j0 hj0 => ⟨rfl, (fun j1 hj1 => (by rw [hi3]))⟩), (rf n), (fun j0 hj0 => ⟨rfl, (fun j1 hj1 => (by rw [hi3]))⟩), (rf n), (fun j0 hj0 => (by rw [hi3])), (by rw [hi3]), (rf (true : Bool))⟩⟩⟩⟩⟩⟩⟩⟩⟩⟩⟩⟩⟩⟩⟩⟩⟩
theorem sLuFactorSing {q : Nat → Nat → Rat} {n : Nat} (hn : n ≤ 64) (hH : ∀ c, c ≤ n → luOK n q c → HtB n n 100000000 (luS n q c).1) (hno : ¬ luOK n q n) : CallOK Tryz.prog 11 [.agg (.cn (.sl 1 (mE q n) n) (.cn (.ex (.int .i64 (n : Int))) (.nl)))] (.cn (.ex (.pointer none)) (.cn (.ex (.bool false)) (.nl))) [] := by
 exact callOK_P (ch := [.reg 1 [(1, .callS (.ex (.int .i64 (n : Int))) [])], .reg 2 [(2, .callS (.ex (.int .i64 (n : Int))) [])], .dec 15 false, .loop 6 (Nat) (fun g => g ≤ n) (fun g => n - g) (fun g => ⟨[(1, .own 0 0), (4, .ex (.int .i64 (n : Int))), (5, .own 1 0), (18, .ex (.int .i64 (n : Int))), (19, .ex (.int .i64 (g : Int)))], [(0, .one (.var 29 (.agg (.cn (.sl 1 (mE q n) n) (.cn (.ex (.int .i64 (n : Int))) (.nl)))))), (1, .one (.var 92 (.agg (.cn (.own 2 0) (.cn (.own 3 0) (.cn (.own 4 0) (.cn (.ex (.bool false)) (.nl)))))))), (2, .one (.row 40 1 (fun i0 => .own 5 i0) g)), (3, .one (.row 40 1 (mE q n) g)), (4, .one (.row 3 1 (fun i0 => .ex (.int .i64 (i0 : Int))) g)), (5, .fam g (fun _ => .row 66 3 (fun _ => .rat 0) n))], 6⟩) [(0, .id 0), (1, .id 1), (2, .nil), (3, .nil), (4, .nil), (5, .emp)] (fun g => [(0, .id 0), (1, .id 1), (2, .id 8), (3, .id 6), (4, .id 9), (5, .put 5 g 7)]) (fun g => [.reg 8 [(2, .callS (.cn (.sl 3 (fun i0 => .rat (q g i0)) n) (.cn (.ex (.bool true)) (.nl))) [])], .reg 9 [(7, .row 0 (mE q n))], .reg 10 [(6, .row n (fun _ => .rat 0)), (8, .row 0 (fun i0 => .own (if i0 < g then 5 else 7) (if i0 < g then i0 else 0)))], .reg 11 [(7, .row 0 (fun i0 => .ex (.int .i64 (i0 : Int))))], .reg 12 [(0, .z ((g + 1 : Nat) : Int))], .loop 14 (Nat) (fun g => g ≤ n ∧ luOK n q g) (fun g => n - g) (fun g => ⟨[(5, .own 1 0), (60, .ex (.int .i64 (n : Int))), (61, .ex (.int .i64 (g : Int)))], [(0, .one (.var 29 (.agg (.cn (.sl 1 (mE q n) n) (.cn (.ex (.int .i64 (n : Int))) (.nl)))))), (1, .one (.var 92 (.agg (.cn (.own 2 0) (.cn (.own 3 0) (.cn (.own 4 0) (.cn (.ex (.bool ((luS n q g).2.2.2.2))) (.nl)))))))), (2, .one (.row 40 1 (fun i0 => .own 5 ((luS n q g).2.2.1 i0)) n)), (3, .one (.row 40 1 (mE ((luS n q g).1) n) n)), (4, .one (.row 3 1 (fun i0 => .ex (.int .i64 (((luS n q g).2.2.1 i0 : Nat) : Int))) n)), (5, .fam n (fun i0 => .row 66 3 (fun i1 => .rat ((luS n q g).2.1 ((luS n q g).2.2.2.1 i0) i1)) n))], 6⟩) [(0, .id 0), (1, .id 1), (2, .id 2), (3, .id 3), (4, .id 4), (5, .id 5)] (fun _ => [(0, .id 0), (1, .id 1), (2, .id 6), (3, .id 7), (4, .id 8), (5, .id 9)]) (fun g => [.reg 16 [(2, .callM [1, 2, 3, 4, 5] [.one (.var 92 (.agg (.cn (.own 1 0) (.cn (.own 2 0) (.cn (.own 3 0) (.cn (.ex (.bool ((luS n q g).2.2.2.2))) (.nl))))))), .one (.row 40 1 (fun i0 => .own 4 ((luS n q g).2.2.1 i0)) n), .one (.row 40 1 (mE ((luS n q g).1) n) n), .one (.row 3 1 (fun i0 => .ex (.int .i64 (((luS n q g).2.2.1 i0 : Nat) : Int))) n), .fam n (fun i0 => .row 66 3 (fun i1 => .rat ((luS n q g).2.1 ((luS n q g).2.2.2.1 i0) i1)) n)] [.own 0 0, .ex (.int .i64 (g : Int))] (.ex (.bool (decide (luK n ((luS n q g).1, (luS n q g).2.1, (luS n q g).2.2.1, (luS n q g).2.2.2.1, (luS n q g).2.2.2.2) g < n)))) [.one (.var 92 (.agg (.cn (.own 5 0) (.cn (.own 6 0) (.cn (.own 7 0) (.cn (.ex (.bool ((luT n ((luS n q g).1, (luS n q g).2.1, (luS n q g).2.2.1, (luS n q g).2.2.2.1, (luS n q g).2.2.2.2) g).2.2.2.2))) (.nl))))))), .dead, .dead, .dead, .dead, .one (.row 40 1 (fun i0 => .own 8 ((luT n ((luS n q g).1, (luS n q g).2.1, (luS n q g).2.2.1, (luS n q g).2.2.2.1, (luS n q g).2.2.2.2) g).2.2.1 i0)) n), .one (.row 40 1 (mE ((luT n ((luS n q g).1, (luS n q g).2.1, (luS n q g).2.2.1, (luS n q g).2.2.2.1, (luS n q g).2.2.2.2) g).1) n) n), .one (.row 3 1 (fun i0 => .ex (.int .i64 (((luT n ((luS n q g).1, (luS n q g).2.1, (luS n q g).2.2.1, (luS n q g).2.2.2.1, (luS n q g).2.2.2.2) g).2.2.1 i0 : Nat) : Int))) n), .fam n (fun i0 => .row 66 3 (fun i1 => .rat ((luT n ((luS n q g).1, (luS n q g).2.1, (luS n q g).2.2.1, (luS n q g).2.2.2.1, (luS n q g).2.2.2.2) g).2.1 ((luT n ((luS n q g).1, (luS n q g).2.1, (luS n q g).2.2.1, (luS n q g).2.2.2.1, (luS n q g).2.2.2.2) g).2.2.2.1 i0) i1)) n)])], .reg 18 [(0, .z ((g + 1 : Nat) : Int))]])])]) hMix Tryz.func11 rfl (by kernel_rfl) (by kernel_rfl) ((∀ j0, j0 < n → (∀ j1, j1 < n → True)) ∧ _ ∧ _ ∧ ((!decide ((n : Int) = (n : Int))) = false) ∧ (((fun X1 X2 X3 X4 X5 X6 X7 X8 X9 X10 X11 : Prop => ∃ g0 : Nat, X1 ∧ X2 ∧ X3 ∧ X4 ∧ ((0 : Int) = (g0 : Int)) ∧ X5 ∧ X6 ∧ X7 ∧ X8 ∧ X9 ∧ X10 ∧ X11 ∧ ((g0 : Nat) = 0) ∧ ((g0 : Nat) = 0) ∧ ((g0 : Nat) = 0) ∧ ((g0 : Nat) = 0) ∧ (g0 ≤ n)) _ _ _ _ _ _ _ _ _ _ _) ∧ ∀ g : Nat, (g ≤ n) → (((decide ((g : Int) < (n : Int))) = true → _ ∧ (g + 1 ≤ 68719476736) ∧ _ ∧ _ ∧ _ ∧ _ ∧ (n ≤ 68719476736) ∧ (∀ j0, j0 < n → ((0 : Rat) = 0)) ∧ (g + 1 ≤ 68719476736) ∧ (∀ j0, j0 < g → (.own (if j0 < g then 5 else 7) (if j0 < g then j0 else 0) : SV) = .own 5 j0) ∧ (∀ j0, j0 < 1 → ((7 : Nat) = (if g + j0 < g then 5 else 7)) ∧ ((0 : Nat) = (if g + j0 < g then g + j0 else 0))) ∧ (g + 1 ≤ 68719476736) ∧ _ ∧ _ ∧ _ ∧ ((fun X1 X2 X3 X4 X5 X6 X7 X8 X9 X10 X11 X12 X13 X14 : Prop => ∃ g1 : Nat, X1 ∧ X2 ∧ X3 ∧ X4 ∧ (((g + 1 : Nat) : Int) = (g1 : Int)) ∧ X5 ∧ X6 ∧ X7 ∧ X8 ∧ X9 ∧ X10 ∧ X11 ∧ ((g + 1 : Nat) = g1) ∧ (∀ j0, j0 < (g + 1) → (((if j0 < g then 5 else 7 : Nat) = 7 ∧ (if j0 < g then j0 else 0 : Nat) = 0 ∧ (j0 : Nat) = g) ∨ ((if j0 < g then 5 else 7 : Nat) = 5 ∧ (if j0 < g then j0 else 0 : Nat) = j0 ∧ (j0 : Nat) ≠ g))) ∧ ((g + 1 : Nat) = g1) ∧ X12 ∧ ((g + 1 : Nat) = g1) ∧ X13 ∧ ((g1 : Nat) = g + 1) ∧ X14 ∧ (((n : Nat) = n) ∧ (∀ j1, j1 < n → ((0 : Rat) = 0))) ∧ (∀ j0, j0 < g → ((n : Nat) = n) ∧ (∀ j1, j1 < n → ((0 : Rat) = 0))) ∧ (g1 ≤ n) ∧ (n - g1 < n - g)) _ _ _ _ _ _ _ _ _ _ _ _ _ _)) ∧ ((decide ((g : Int) < (n : Int))) = false → (((fun X1 X2 X3 X4 X5 X6 X7 X8 : Prop => ∃ g0 : Nat, X1 ∧ X2 ∧ ((0 : Int) = (g0 : Int)) ∧ X3 ∧ X4 ∧ X5 ∧ X6 ∧ X7 ∧ X8 ∧ ((false : Bool) = ((luS n q g0).2.2.2.2)) ∧ ((g : Nat) = n) ∧ (∀ j0, j0 < g → ((j0 : Nat) = ((luS n q g0).2.2.1 j0))) ∧ ((g : Nat) = n) ∧ (∀ j0, j0 < g → ((n : Nat) = n) ∧ (∀ j1, j1 < n → ((q j0 j1 : Rat) = (((luS n q g0).1) j0 j1)))) ∧ ((g : Nat) = n) ∧ (∀ j0, j0 < g → ((j0 : Int) = (((luS n q g0).2.2.1 j0 : Nat) : Int))) ∧ ((g : Nat) = n) ∧ (∀ j0, j0 < g → ((n : Nat) = n) ∧ (∀ j1, j1 < n → ((0 : Rat) = ((luS n q g0).2.1 ((luS n q g0).2.2.2.1 j0) j1)))) ∧ (g0 ≤ n ∧ luOK n q g0)) _ _ _ _ _ _ _ _) ∧ ∀ g : Nat, (g ≤ n ∧ luOK n q g) → (((decide ((g : Int) < (n : Int))) = true → (CallOKm Tryz.prog 46 [.one (.var 92 (.agg (.cn (.own 1 0) (.cn (.own 2 0) (.cn (.own 3 0) (.cn (.ex (.bool ((luS n q g).2.2.2.2))) (.nl))))))), .one (.row 40 1 (fun i0 => .own 4 ((luS n q g).2.2.1 i0)) n), .one (.row 40 1 (mE ((luS n q g).1) n) n), .one (.row 3 1 (fun i0 => .ex (.int .i64 (((luS n q g).2.2.1 i0 : Nat) : Int))) n), .fam n (fun i0 => .row 66 3 (fun i1 => .rat ((luS n q g).2.1 ((luS n q g).2.2.2.1 i0) i1)) n)] [.own 0 0, .ex (.int .i64 (g : Int))] (.ex (.bool (decide (luK n ((luS n q g).1, (luS n q g).2.1, (luS n q g).2.2.1, (luS n q g).2.2.2.1, (luS n q g).2.2.2.2) g < n)))) [.one (.var 92 (.agg (.cn (.own 5 0) (.cn (.own 6 0) (.cn (.own 7 0) (.cn (.ex (.bool ((luT n ((luS n q g).1, (luS n q g).2.1, (luS n q g).2.2.1, (luS n q g).2.2.2.1, (luS n q g).2.2.2.2) g).2.2.2.2))) (.nl))))))), .dead, .dead, .dead, .dead, .one (.row 40 1 (fun i0 => .own 8 ((luT n ((luS n q g).1, (luS n q g).2.1, (luS n q g).2.2.1, (luS n q g).2.2.2.1, (luS n q g).2.2.2.2) g).2.2.1 i0)) n), .one (.row 40 1 (mE ((luT n ((luS n q g).1, (luS n q g).2.1, (luS n q g).2.2.1, (luS n q g).2.2.2.1, (luS n q g).2.2.2.2) g).1) n) n), .one (.row 3 1 (fun i0 => .ex (.int .i64 (((luT n ((luS n q g).1, (luS n q g).2.1, (luS n q g).2.2.1, (luS n q g).2.2.2.1, (luS n q g).2.2.2.2) g).2.2.1 i0 : Nat) : Int))) n), .fam n (fun i0 => .row 66 3 (fun i1 => .rat ((luT n ((luS n q g).1, (luS n q g).2.1, (luS n q g).2.2.1, (luS n q g).2.2.2.1, (luS n q g).2.2.2.2) g).2.1 ((luT n ((luS n q g).1, (luS n q g).2.1, (luS n q g).2.2.1, (luS n q g).2.2.2.1, (luS n q g).2.2.2.2) g).2.2.2.1 i0) i1)) n)]) ∧ _ ∧ _ ∧ _ ∧ _ ∧ _ ∧ _ ∧ _ ∧ _ ∧ (((!(decide (luK n ((luS n q g).1, (luS n q g).2.1, (luS n q g).2.2.1, (luS n q g).2.2.2.1, (luS n q g).2.2.2.2) g < n))) = true → (((.pointer none : Value) = .pointer none) ∧ _)) ∧ ((!(decide (luK n ((luS n q g).1, (luS n q g).2.1, (luS n q g).2.2.1, (luS n q g).2.2.2.1, (luS n q g).2.2.2.2) g < n))) = false → _ ∧ ((fun X1 X2 X3 X4 X5 X6 X7 X8 X9 X10 X11 X12 : Prop => ∃ g1 : Nat, X1 ∧ X2 ∧ (((g + 1 : Nat) : Int) = (g1 : Int)) ∧ X3 ∧ X4 ∧ X5 ∧ X6 ∧ X7 ∧ X8 ∧ (((luT n ((luS n q g).1, (luS n q g).2.1, (luS n q g).2.2.1, (luS n q g).2.2.2.1, (luS n q g).2.2.2.2) g).2.2.2.2 : Bool) = ((luS n q g1).2.2.2.2)) ∧ X9 ∧ (∀ j0, j0 < n → (((luT n ((luS n q g).1, (luS n q g).2.1, (luS n q g).2.2.1, (luS n q g).2.2.2.1, (luS n q g).2.2.2.2) g).2.2.1 j0 : Nat) = ((luS n q g1).2.2.1 j0))) ∧ X10 ∧ (∀ j0, j0 < n → ((n : Nat) = n) ∧ (∀ j1, j1 < n → ((((luT n ((luS n q g).1, (luS n q g).2.1, (luS n q g).2.2.1, (luS n q g).2.2.2.1, (luS n q g).2.2.2.2) g).1) j0 j1 : Rat) = (((luS n q g1).1) j0 j1)))) ∧ X11 ∧ (∀ j0, j0 < n → ((((luT n ((luS n q g).1, (luS n q g).2.1, (luS n q g).2.2.1, (luS n q g).2.2.2.1, (luS n q g).2.2.2.2) g).2.2.1 j0 : Nat) : Int) = (((luS n q g1).2.2.1 j0 : Nat) : Int))) ∧ X12 ∧ (∀ j0, j0 < n → ((n : Nat) = n) ∧ (∀ j1, j1 < n → (((luT n ((luS n q g).1, (luS n q g).2.1, (luS n q g).2.2.1, (luS n q g).2.2.2.1, (luS n q g).2.2.2.2) g).2.1 ((luT n ((luS n q g).1, (luS n q g).2.1, (luS n q g).2.2.1, (luS n q g).2.2.2.1, (luS n q g).2.2.2.2) g).2.2.2.1 j0) j1 : Rat) = ((luS n q g1).2.1 ((luS n q g1).2.2.2.1 j0) j1)))) ∧ (g1 ≤ n ∧ luOK n q g1) ∧ (n - g1 < n - g)) _ _ _ _ _ _ _ _ _ _ _ _)))) ∧ ((decide ((g : Int) < (n : Int))) = false → ((False) ∧ ((true : Bool) = false))))))))) (by kernel_rfl)
  ⟨(fun _ _ => (fun _ _ => trivial)), ⟨sMatRows (m := n) (n := n) (q := q), ⟨sMatCols (m := n) (n := n) (q := q), ⟨(by simp), ⟨⟨0, (rf 0), (rf (n : Int)), (rf 0), (rf (n : Int)), zo, (rf n), (leS (mE q n) n), (rf (n : Int)), (rf 0), (rf 0), (rf 0), (rf (false : Bool)), zo, zo, zo, zo, zo⟩, fun g hg => ⟨fun hc20 => have hc20 := of_decide_eq_true hc20; ⟨sMatRow (m := n) (n := n) (r := g) (q := q) zo zo, ⟨zo, ⟨(oldS (mE q n) g), ⟨(newS (mE q n) g), ⟨(rf (n : Int)), ⟨(rf (n : Int)), ⟨zo, ⟨(fun j0 hj0 => rfl), ⟨zo, ⟨(fun j0 hj0 => by rw [if_pos hj0, if_pos hj0]), ⟨(fun j0 hj0 => ⟨(by rw [if_neg zo]), (by rw [if_neg zo])⟩), ⟨zo, ⟨(oldS (fun i0 => .ex (.int .i64 (i0 : Int))) g), ⟨(newS (fun i0 => .ex (.int .i64 (i0 : Int))) g), ⟨(wI (g := g) zo), ⟨g + 1, (rf 0), (rf (n : Int)), (rf 0), (rf (n : Int)), zo, (rf n), (leS (mE q n) n), (rf (n : Int)), (rf 0), (rf 0), (rf 0), (rf (false : Bool)), zo, (fun j0 hj0 => (by first | omega | (split <;> omega))), zo, (leS (mE q n) (g + 1)), zo, (leS (fun i0 => .ex (.int .i64 (i0 : Int))) (g + 1)), zo, (rf g), ⟨rfl, (fun j1 hj1 => rfl)⟩, (fun j0 hj0 => ⟨rfl, (fun j1 hj1 => rfl)⟩), zo, zo⟩⟩⟩⟩⟩⟩⟩⟩⟩⟩⟩⟩⟩⟩⟩⟩, fun hc20 => have hc20 := of_decide_eq_false hc20; have hi2 : g = n := zo; ⟨⟨0, (rf 0), (rf (n : Int)), zo, (rf n), (leS (mE q n) n), (rf (n : Int)), (rf 0), (rf 0), (rf 0), rfl, hi2, (fun j0 hj0 => rfl), hi2, (fun j0 hj0 => ⟨rfl, (fun j1 hj1 => rfl)⟩), hi2, (fun j0 hj0 => rfl), hi2, (fun j0 hj0 => ⟨rfl, (fun j1 hj1 => rfl)⟩), ⟨Nat.zero_le _, fun k hk => absurd hk (Nat.not_lt_zero k)⟩⟩, fun g hg0 => have hg1 := hg0.1; ⟨fun hc62 => have hc62 := of_decide_eq_true hc62; ⟨sLuStepT (U := (luS n q g).1) (L := (luS n q g).2.1) (P := (luS n q g).2.2.1) (ρ := (luS n q g).2.2.2.1) (o := (luS n q g).2.2.2.2) zo zo (lu_bij g zo hg0.2) (hH g zo hg0.2), ⟨(rf (.one (.var 92 (.agg (.cn (.own 2 0) (.cn (.own 3 0) (.cn (.own 4 0) (.cn (.ex (.bool ((luS n q g).2.2.2.2))) (.nl))))))) : Hl)), ⟨(rf (.one (.row 40 1 (fun i0 => .own 5 ((luS n q g).2.2.1 i0)) n) : Hl)), ⟨(rf (.one (.row 40 1 (mE ((luS n q g).1) n) n) : Hl)), ⟨(rf (.one (.row 3 1 (fun i0 => .ex (.int .i64 (((luS n q g).2.2.1 i0 : Nat) : Int))) n) : Hl)), ⟨(rf (.fam n (fun i0 => .row 66 3 (fun i1 => .rat ((luS n q g).2.1 ((luS n q g).2.2.2.1 i0) i1)) n) : Hl)), ⟨(rf 1), ⟨(rf 0), ⟨(rf (g : Int)), ⟨fun hc67 => have hk0 := hc67; ⟨rfl, (rf (false : Bool))⟩, fun hc67 => have hk : luK n (luS n q g) g < n := (not_dec hc67); ⟨(wI (g := g) zo), ⟨g + 1, (rf 0), (rf (n : Int)), zo, (rf n), (leS (mE q n) n), (rf (n : Int)), (rf 0), (rf 0), (rf 0), (by rw [luT_yes hk]; rfl), (rf n), (fun j0 hj0 => (by rw [luT_yes hk]; rfl)), (rf n), (fun j0 hj0 => ⟨rfl, (fun j1 hj1 => (by rw [luT_yes hk]; rfl))⟩), (rf n), (fun j0 hj0 => (by rw [luT_yes hk]; rfl)), (rf n), (fun j0 hj0 => ⟨rfl, (fun j1 hj1 => (by rw [luT_yes hk]; rfl))⟩), ⟨by omega, ok_next hg0.2 hk⟩, zo⟩⟩⟩⟩⟩⟩⟩⟩⟩⟩⟩⟩, fun hc62 => have hc62 := of_decide_eq_false hc62; have hi3 : g = n := zo; have hx : False := hno (by have := hg0.2; rwa [hi3] at this); ⟨hx.elim, hx.elim⟩⟩⟩⟩⟩⟩⟩⟩⟩
theorem sLuFactorNo {q : Nat → Nat → Rat} {m n : Nat} (h : m ≠ n) : CallOK Tryz.prog 11 [.agg (.cn (.sl 1 (mE q n) m) (.cn (.ex (.int .i64 (n : Int))) (.nl)))] (.cn (.ex (.pointer none)) (.cn (.ex (.bool false)) (.nl))) [] := by
 exact callOK_P (ch := [.reg 1 [(1, .callS (.ex (.int .i64 (m : Int))) [])], .reg 2 [(2, .callS (.ex (.int .i64 (n : Int))) [])], .dec 15 true]) hMix Tryz.func11 rfl (by kernel_rfl) (by kernel_rfl) ((∀ j0, j0 < m → (∀ j1, j1 < n → True)) ∧ _ ∧ _ ∧ ((!decide ((m : Int) = (n : Int))) = true) ∧ (((.pointer none : Value) = .pointer none) ∧ _)) (by kernel_rfl)
  ⟨(fun _ _ => (fun _ _ => trivial)), ⟨sMatRows (m := m) (n := n) (q := q), ⟨sMatCols (m := m) (n := n) (q := q), ⟨(by simp; omega), ⟨rfl, (rf (false : Bool))⟩⟩⟩⟩⟩
theorem sLuLower {U L : Nat → Nat → Rat} {P : Nat → Nat} {o : Bool} {n : Nat} (hn : n ≤ 64) : CallOK Tryz.prog 42 [.ep (.agg (.cn (.sl 1 (mE L n) n) (.cn (.sl 1 (mE U n) n) (.cn (.sl 1 (fun i0 => .ex (.int .i64 ((P i0 : Nat) : Int))) n) (.cn (.ex (.bool o)) (.nl))))))] (.agg (.cn (.sl 1 (mE L n) n) (.cn (.ex (.int .i64 (n : Int))) (.nl)))) [] := by
 exact callOK_P (ch := [.reg 1 [(9, .callS (.cn (.agg (.cn (.sl 1 (mE L n) n) (.cn (.ex (.int .i64 (n : Int))) (.nl)))) (.cn (.ex (.bool true)) (.nl))) [])]]) hMix Tryz.func42 rfl (by kernel_rfl) (by kernel_rfl) ((∀ j0, j0 < n → (∀ j1, j1 < n → True)) ∧ (∀ j0, j0 < n → (∀ j1, j1 < n → True)) ∧ (∀ j0, j0 < n → True) ∧ _ ∧ (_ ∧ _ ∧ _)) (by kernel_rfl)
  ⟨(fun _ _ => (fun _ _ => trivial)), ⟨(fun _ _ => (fun _ _ => trivial)), ⟨(fun _ _ => trivial), ⟨(sMatOf (m := n) (n := n) (q := fun r c => L r c) zo zo), ⟨(rf n), (leS (mE L n) n), (rf (n : Int))⟩⟩⟩⟩⟩
theorem sLuUpper {U L : Nat → Nat → Rat} {P : Nat → Nat} {o : Bool} {n : Nat} (hn : n ≤ 64) : CallOK Tryz.prog 41 [.ep (.agg (.cn (.sl 1 (mE L n) n) (.cn (.sl 1 (mE U n) n) (.cn (.sl 1 (fun i0 => .ex (.int .i64 ((P i0 : Nat) : Int))) n) (.cn (.ex (.bool o)) (.nl))))))] (.agg (.cn (.sl 1 (mE U n) n) (.cn (.ex (.int .i64 (n : Int))) (.nl)))) [] := by
 exact callOK_P (ch := [.reg 1 [(9, .callS (.cn (.agg (.cn (.sl 1 (mE U n) n) (.cn (.ex (.int .i64 (n : Int))) (.nl)))) (.cn (.ex (.bool true)) (.nl))) [])]]) hMix Tryz.func41 rfl (by kernel_rfl) (by kernel_rfl) ((∀ j0, j0 < n → (∀ j1, j1 < n → True)) ∧ (∀ j0, j0 < n → (∀ j1, j1 < n → True)) ∧ (∀ j0, j0 < n → True) ∧ _ ∧ (_ ∧ _ ∧ _)) (by kernel_rfl)
  ⟨(fun _ _ => (fun _ _ => trivial)), ⟨(fun _ _ => (fun _ _ => trivial)), ⟨(fun _ _ => trivial), ⟨(sMatOf (m := n) (n := n) (q := fun r c => U r c) zo zo), ⟨(rf n), (leS (mE U n) n), (rf (n : Int))⟩⟩⟩⟩⟩
theorem sLuPerm {U L : Nat → Nat → Rat} {P : Nat → Nat} {o : Bool} {n : Nat} (hn : n ≤ 64) : CallOK Tryz.prog 38 [.ep (.agg (.cn (.sl 1 (mE L n) n) (.cn (.sl 1 (mE U n) n) (.cn (.sl 1 (fun i0 => .ex (.int .i64 ((P i0 : Nat) : Int))) n) (.cn (.ex (.bool o)) (.nl))))))] (.sl 1 (fun i0 => .ex (.int .i64 ((P i0 : Nat) : Int))) n) [] := by
 exact callOK_P (ch := [.reg 1 [(4, .callS (.sl 1 (fun i0 => .ex (.int .i64 ((P i0 : Nat) : Int))) n) [])]]) hMix Tryz.func38 rfl (by kernel_rfl) (by kernel_rfl) ((∀ j0, j0 < n → (∀ j1, j1 < n → True)) ∧ (∀ j0, j0 < n → (∀ j1, j1 < n → True)) ∧ (∀ j0, j0 < n → True) ∧ (CallOK Tryz.prog 85 [.sl 1 (fun i0 => .ex (.int .i64 ((P i0 : Nat) : Int))) n] (.sl 1 (fun i0 => .ex (.int .i64 ((P i0 : Nat) : Int))) n) []) ∧ (_ ∧ _)) (by kernel_rfl)
  ⟨(fun _ _ => (fun _ _ => trivial)), ⟨(fun _ _ => (fun _ _ => trivial)), ⟨(fun _ _ => trivial), ⟨(sClone (a := (fun i => ((P i : Nat) : Int))) zo).frzI, ⟨(rf n), (leS (fun i0 => .ex (.int .i64 ((P i0 : Nat) : Int))) n)⟩⟩⟩⟩⟩
theorem sLuDet {U L : Nat → Nat → Rat} {P : Nat → Nat} {o : Bool} {n : Nat} (hn : n ≤ 64) (hU : ∀ k, k < n → htq (U k k) ≤ 30000) : CallOK Tryz.prog 24 [.ep (.agg (.cn (.sl 1 (mE L n) n) (.cn (.sl 1 (mE U n) n) (.cn (.sl 1 (fun i0 => .ex (.int .i64 ((P i0 : Nat) : Int))) n) (.cn (.ex (.bool o)) (.nl))))))] (.rat (if o = true then -(prodD U n) else prodD U n)) [] := by
 exact callOK_P (ch := [.reg 1 [(0, .callS (.rat ((1 : Int) : Rat)) [])], .loop 3 (Nat) (fun g => g ≤ n) (fun g => n - g) (fun g => ⟨[(0, .ep (.agg (.cn (.sl 1 (mE L n) n) (.cn (.sl 1 (mE U n) n) (.cn (.sl 1 (fun i0 => .ex (.int .i64 ((P i0 : Nat) : Int))) n) (.cn (.ex (.bool o)) (.nl))))))), (2, .own 0 0), (3, .own 1 0), (10, .ex (.int .i64 (n : Int))), (11, .ex (.int .i64 (g : Int)))], [(0, .one (.var 66 (.ex (.agg #[.bool false, .slice none 0 0, .slice none 0 0])))), (1, .one (.var 66 (.rat (prodD U g))))], 2⟩) [(0, .id 0), (1, .id 1)] (fun _ => [(0, .id 0), (1, .id 1)]) (fun g => [.reg 5 [(6, .k g), (9, .k g), (11, .callS (.rat ((prodD U g) * (U g g))) [])], .reg 6 [(0, .z ((g + 1 : Nat) : Int))], .reg 8 [(1, .callS (.rat (-(prodD U g))) [])]])]) hMix Tryz.func24 rfl (by kernel_rfl) (by kernel_rfl) ((∀ j0, j0 < n → (∀ j1, j1 < n → True)) ∧ (∀ j0, j0 < n → (∀ j1, j1 < n → True)) ∧ (∀ j0, j0 < n → True) ∧ _ ∧ (((fun X1 X2 X3 X4 X5 X6 X7 X8 X9 X10 : Prop => ∃ g0 : Nat, X1 ∧ X2 ∧ X3 ∧ X4 ∧ X5 ∧ X6 ∧ X7 ∧ X8 ∧ X9 ∧ X10 ∧ ((0 : Int) = (g0 : Int)) ∧ ((.agg #[.bool false, .slice none 0 0, .slice none 0 0] : Value) = .agg #[.bool false, .slice none 0 0, .slice none 0 0]) ∧ ((((1 : Int) : Rat) : Rat) = (prodD U g0)) ∧ (g0 ≤ n)) _ _ _ _ _ _ _ _ _ _) ∧ ∀ g : Nat, (g ≤ n) → (((decide ((g : Int) < (n : Int))) = true → _ ∧ (g < n) ∧ _ ∧ (g < n) ∧ _ ∧ _ ∧ ((fun X1 X2 X3 X4 X5 X6 X7 X8 X9 X10 : Prop => ∃ g1 : Nat, X1 ∧ X2 ∧ X3 ∧ X4 ∧ X5 ∧ X6 ∧ X7 ∧ X8 ∧ X9 ∧ X10 ∧ (((g + 1 : Nat) : Int) = (g1 : Int)) ∧ ((.agg #[.bool false, .slice none 0 0, .slice none 0 0] : Value) = .agg #[.bool false, .slice none 0 0, .slice none 0 0]) ∧ (((prodD U g) * (U g g) : Rat) = (prodD U g1)) ∧ (g1 ≤ n) ∧ (n - g1 < n - g)) _ _ _ _ _ _ _ _ _ _)) ∧ ((decide ((g : Int) < (n : Int))) = false → ((o = true → _ ∧ (((-(prodD U g) : Rat) = (if o = true then -(prodD U n) else prodD U n)))) ∧ (o = false → (((prodD U g : Rat) = (if o = true then -(prodD U n) else prodD U n))))))))) (by kernel_rfl)
  ⟨(fun _ _ => (fun _ _ => trivial)), ⟨(fun _ _ => (fun _ _ => trivial)), ⟨(fun _ _ => trivial), ⟨sRatInt (x := 1) zo zo, ⟨⟨0, (rf n), (leS (mE L n) n), (rf n), (leS (mE U n) n), (rf n), (leS (fun i0 => .ex (.int .i64 ((P i0 : Nat) : Int))) n), (rf (o : Bool)), (rf 0), (rf 0), (rf (n : Int)), zo, rfl, rfl, zo⟩, fun g hg => ⟨fun hc12 => have hc12 := of_decide_eq_true hc12; ⟨(rf (g : Int)), ⟨zo, ⟨(rf (g : Int)), ⟨zo, ⟨sRatMul (p := prodD U g) (q := U g g) (prod_room hU zo zo), ⟨(wI (g := g) zo), ⟨g + 1, (rf n), (leS (mE L n) n), (rf n), (leS (mE U n) n), (rf n), (leS (fun i0 => .ex (.int .i64 ((P i0 : Nat) : Int))) n), (rf (o : Bool)), (rf 0), (rf 0), (rf (n : Int)), zo, rfl, rfl, zo, zo⟩⟩⟩⟩⟩⟩⟩, fun hc12 => have hc12 := of_decide_eq_false hc12; have hi2 : g = n := zo; ⟨fun hc30 => ⟨sRatNeg (q := prodD U g), (by rw [hi2, if_pos hc30])⟩, fun hc30 => (by rw [hi2, if_neg (by rw [hc30]; decide)])⟩⟩⟩⟩⟩⟩⟩
theorem sLuSolve_no {U L : Nat → Nat → Rat} {P : Nat → Nat} {o : Bool} {n k : Nat} {b : Nat → Rat} (h : k ≠ n) : CallOK Tryz.prog 12 [.ep (.agg (.cn (.sl 1 (mE L n) n) (.cn (.sl 1 (mE U n) n) (.cn (.sl 1 (fun i0 => .ex (.int .i64 ((P i0 : Nat) : Int))) n) (.cn (.ex (.bool o)) (.nl)))))), .sl 3 (fun i0 => .rat (b i0)) k] (.cn (.sl 3 (fun _ => .rat 0) 0) (.cn (.ex (.bool false)) (.nl))) [] := by
 exact callOK_P (ch := [.dec 20 true]) hMix Tryz.func12 rfl (by kernel_rfl) (by kernel_rfl) ((∀ j0, j0 < n → (∀ j1, j1 < n → True)) ∧ (∀ j0, j0 < n → (∀ j1, j1 < n → True)) ∧ (∀ j0, j0 < n → True) ∧ (∀ j0, j0 < k → True) ∧ ((!decide ((k : Int) = (n : Int))) = true) ∧ (_ ∧ _)) (by kernel_rfl)
  ⟨(fun _ _ => (fun _ _ => trivial)), ⟨(fun _ _ => (fun _ _ => trivial)), ⟨(fun _ _ => trivial), ⟨(fun _ _ => trivial), ⟨(by simp; omega), ⟨(rf 0), (rf (false : Bool))⟩⟩⟩⟩⟩⟩
theorem sLuSolve {U L : Nat → Nat → Rat} {P : Nat → Nat} {o : Bool} {n : Nat} {b : Nat → Rat} (hn : n ≤ 6) (hP : ∀ i, i < n → P i < n) (hL : ∀ k, k < n → ∀ c, c < n → htq (L k c) ≤ 30000) (hU : ∀ k, k < n → ∀ c, c < n → htq (U k c) ≤ 30000) (hb : ∀ k, k < n → htq (b k) ≤ 100) : CallOK Tryz.prog 12 [.ep (.agg (.cn (.sl 1 (mE L n) n) (.cn (.sl 1 (mE U n) n) (.cn (.sl 1 (fun i0 => .ex (.int .i64 ((P i0 : Nat) : Int))) n) (.cn (.ex (.bool o)) (.nl)))))), .sl 3 (fun i0 => .rat (b i0)) n] (.cn (.own 0 0) (.cn (.ex (.bool true)) (.nl))) [.one (.row 66 3 (fun i0 => .rat (luX n U L (fun i => b (P i)) i0)) n)] := by
 have hZ : ∀ j, j < n → htq (luZ n L (fun i => b (P i)) j) ≤ 3900000 := fw_top hL (fun k hk => hb _ (hP k hk)) (fun _ x _ => Nat.le_add_right _ _) hn
 have hF : ∀ k x, k < n → htq ((fun k x => x / U k k) k x) ≤ htq x + 30000 := fun k x hk => Nat.le_trans (ht_div _ _) (Nat.add_le_add_left (hU k hk k hk) _)
 exact callOK_P (ch := [.dec 20 false, .reg 4 [(1, .row n (fun i0 => .rat (fwS L (fun i => b (P i)) (fun _ x => x) (fun _ => 0) 0 i0)))], .loop 6 (Nat) (fun g => g ≤ n) (fun g => n - g) (fun g => ⟨[(0, .ep (.agg (.cn (.sl 1 (mE L n) n) (.cn (.sl 1 (mE U n) n) (.cn (.sl 1 (fun i0 => .ex (.int .i64 ((P i0 : Nat) : Int))) n) (.cn (.ex (.bool o)) (.nl))))))), (1, .sl 3 (fun i0 => .rat (b i0)) n), (6, .ex (.int .i64 (n : Int))), (7, .own 0 0), (23, .ex (.int .i64 (n : Int))), (24, .ex (.int .i64 (g : Int)))], [(0, .one (.row 66 3 (fun i0 => .rat (fwS L (fun i => b (P i)) (fun _ x => x) (fun _ => 0) g i0)) n))], 1⟩) [(0, .id 0)] (fun _ => [(0, .id 0)]) (fun g => [.reg 8 [(8, .k g), (10, .k (P g)), (12, .k g), (13, .row 0 (fun i0 => .rat (fwI L (fun i => b (P i)) (fun _ x => x) (fun _ => 0) g 0 i0)))], .loop 10 (Nat) (fun h => h ≤ g) (fun h => g - h) (fun h => ⟨[(0, .ep (.agg (.cn (.sl 1 (mE L n) n) (.cn (.sl 1 (mE U n) n) (.cn (.sl 1 (fun i0 => .ex (.int .i64 ((P i0 : Nat) : Int))) n) (.cn (.ex (.bool o)) (.nl))))))), (1, .sl 3 (fun i0 => .rat (b i0)) n), (6, .ex (.int .i64 (n : Int))), (7, .own 0 0), (8, .ex (.int .i64 (g : Int))), (23, .ex (.int .i64 (n : Int))), (24, .ex (.int .i64 (g : Int))), (40, .ex (.int .i64 (g : Int))), (41, .ex (.int .i64 (h : Int)))], [(0, .one (.row 66 3 (fun i0 => .rat (fwI L (fun i => b (P i)) (fun _ x => x) (fun _ => 0) g h i0)) n))], 1⟩) [(0, .id 0)] (fun _ => [(0, .id 0)]) (fun h => [.reg 12 [(4, .k g), (11, .k g), (14, .k h), (18, .k h), (20, .callS (.rat ((L g h) * (fwI L (fun i => b (P i)) (fun _ x => x) (fun _ => 0) g h h))) []), (21, .callS (.rat ((fwI L (fun i => b (P i)) (fun _ x => x) (fun _ => 0) g h g) - ((L g h) * (fwI L (fun i => b (P i)) (fun _ x => x) (fun _ => 0) g h h)))) []), (22, .k g), (23, .row 0 (fun i0 => .rat (fwI L (fun i => b (P i)) (fun _ x => x) (fun _ => 0) g (h + 1) i0)))], .reg 13 [(0, .z ((h + 1 : Nat) : Int))], .reg 14 [(0, .z ((g + 1 : Nat) : Int))]]), .reg 15 [(1, .z ((n : Int) - 1 - 0))], .loop 16 (Nat) (fun g => g ≤ n) (fun g => n - g) (fun g => ⟨[(0, .ep (.agg (.cn (.sl 1 (mE L n) n) (.cn (.sl 1 (mE U n) n) (.cn (.sl 1 (fun i0 => .ex (.int .i64 ((P i0 : Nat) : Int))) n) (.cn (.ex (.bool o)) (.nl))))))), (1, .sl 3 (fun i0 => .rat (b i0)) n), (6, .ex (.int .i64 (n : Int))), (7, .own 0 0), (10, .ex (.int .i64 ((n : Int) - 1 - (g : Int))))], [(0, .one (.row 66 3 (fun i0 => .rat (bwS U (luZ n L (fun i => b (P i))) (fun k x => x / U k k) n g i0)) n))], 1⟩) [(0, .id 0)] (fun _ => [(0, .id 0)]) (fun g => [.reg 18 [(1, .z (((n - 1 - g + 1 : Nat)) : Int))], .loop 19 (Nat) (fun h => h ≤ g) (fun h => g - h) (fun h => ⟨[(0, .ep (.agg (.cn (.sl 1 (mE L n) n) (.cn (.sl 1 (mE U n) n) (.cn (.sl 1 (fun i0 => .ex (.int .i64 ((P i0 : Nat) : Int))) n) (.cn (.ex (.bool o)) (.nl))))))), (1, .sl 3 (fun i0 => .rat (b i0)) n), (6, .ex (.int .i64 (n : Int))), (7, .own 0 0), (10, .ex (.int .i64 ((n : Int) - 1 - (g : Int)))), (11, .ex (.int .i64 ((n - 1 - g + 1 + h : Nat) : Int)))], [(0, .one (.row 66 3 (fun i0 => .rat (bwI U (luZ n L (fun i => b (P i))) (fun k x => x / U k k) n g h i0)) n))], 1⟩) [(0, .id 0)] (fun _ => [(0, .id 0)]) (fun h => [.reg 21 [(4, .k (n - 1 - g)), (11, .k (n - 1 - g)), (14, .k (n - 1 - g + 1 + h)), (18, .k (n - 1 - g + 1 + h)), (20, .callS (.rat ((U (n - 1 - g) (n - 1 - g + 1 + h)) * (bwI U (luZ n L (fun i => b (P i))) (fun k x => x / U k k) n g h (n - 1 - g + 1 + h)))) []), (21, .callS (.rat ((bwI U (luZ n L (fun i => b (P i))) (fun k x => x / U k k) n g h (n - 1 - g)) - ((U (n - 1 - g) (n - 1 - g + 1 + h)) * (bwI U (luZ n L (fun i => b (P i))) (fun k x => x / U k k) n g h (n - 1 - g + 1 + h))))) []), (22, .k (n - 1 - g)), (23, .row 0 (fun i0 => .rat (bwI U (luZ n L (fun i => b (P i))) (fun k x => x / U k k) n g (h + 1) i0)))], .reg 20 [(1, .z ((n - 1 - g + 1 + (h + 1) : Nat) : Int))], .reg 22 [(4, .k (n - 1 - g)), (11, .k (n - 1 - g)), (14, .k (n - 1 - g)), (16, .callS (.cn (.rat ((bwI U (luZ n L (fun i => b (P i))) (fun k x => x / U k k) n g h (n - 1 - g)) / (U (n - 1 - g) (n - 1 - g)))) (.cn (.ex (.bool (!decide ((U (n - 1 - g) (n - 1 - g)) = 0)))) (.nl))) []), (20, .k (n - 1 - g)), (21, .row 0 (fun i0 => .rat (bwS U (luZ n L (fun i => b (P i))) (fun k x => x / U k k) n (g + 1) i0)))], .reg 17 [(1, .z ((n : Int) - 1 - ((g + 1 : Nat) : Int)))]]), .ret 23 [(0, .id 0)]])])]) hMix Tryz.func12 rfl (by kernel_rfl) (by kernel_rfl) ((∀ j0, j0 < n → (∀ j1, j1 < n → True)) ∧ (∀ j0, j0 < n → (∀ j1, j1 < n → True)) ∧ (∀ j0, j0 < n → True) ∧ (∀ j0, j0 < n → True) ∧ ((!decide ((n : Int) = (n : Int))) = false) ∧ _ ∧ _ ∧ (n ≤ 68719476736) ∧ (∀ j0, j0 < n → ((fwS L (fun i => b (P i)) (fun _ x => x) (fun _ => 0) 0 j0 : Rat) = 0)) ∧ (((fun X1 X2 X3 X4 X5 X6 X7 X8 X9 X10 X11 X12 X13 : Prop => ∃ g0 : Nat, X1 ∧ X2 ∧ X3 ∧ X4 ∧ X5 ∧ X6 ∧ X7 ∧ X8 ∧ X9 ∧ X10 ∧ X11 ∧ X12 ∧ ((0 : Int) = (g0 : Int)) ∧ X13 ∧ (∀ j0, j0 < n → ((fwS L (fun i => b (P i)) (fun _ x => x) (fun _ => 0) 0 j0 : Rat) = (fwS L (fun i => b (P i)) (fun _ x => x) (fun _ => 0) g0 j0))) ∧ (g0 ≤ n)) _ _ _ _ _ _ _ _ _ _ _ _ _) ∧ ∀ g : Nat, (g ≤ n) → (((decide ((g : Int) < (n : Int))) = true → _ ∧ (g < n) ∧ _ ∧ ((P g) < n) ∧ _ ∧ (g < n) ∧ (g < n) ∧ (((b (P g) : Rat) = (fwI L (fun i => b (P i)) (fun _ x => x) (fun _ => 0) g 0 g))) ∧ (∀ t, t < n → t ≠ g → (.rat (fwI L (fun i => b (P i)) (fun _ x => x) (fun _ => 0) g 0 t) : SV) = .rat (fwS L (fun i => b (P i)) (fun _ x => x) (fun _ => 0) g t)) ∧ (((fun X1 X2 X3 X4 X5 X6 X7 X8 X9 X10 X11 X12 X13 X14 X15 X16 : Prop => ∃ h0 : Nat, X1 ∧ X2 ∧ X3 ∧ X4 ∧ X5 ∧ X6 ∧ X7 ∧ X8 ∧ X9 ∧ X10 ∧ X11 ∧ X12 ∧ X13 ∧ X14 ∧ X15 ∧ ((0 : Int) = (h0 : Int)) ∧ X16 ∧ (∀ j0, j0 < n → ((fwI L (fun i => b (P i)) (fun _ x => x) (fun _ => 0) g 0 j0 : Rat) = (fwI L (fun i => b (P i)) (fun _ x => x) (fun _ => 0) g h0 j0))) ∧ (h0 ≤ g)) _ _ _ _ _ _ _ _ _ _ _ _ _ _ _ _) ∧ ∀ h : Nat, (h ≤ g) → (((decide ((h : Int) < (g : Int))) = true → _ ∧ (g < n) ∧ (g < n) ∧ _ ∧ (g < n) ∧ _ ∧ (h < n) ∧ _ ∧ (h < n) ∧ (h < n) ∧ _ ∧ _ ∧ _ ∧ (g < n) ∧ (g < n) ∧ ((((fwI L (fun i => b (P i)) (fun _ x => x) (fun _ => 0) g h g) - ((L g h) * (fwI L (fun i => b (P i)) (fun _ x => x) (fun _ => 0) g h h)) : Rat) = (fwI L (fun i => b (P i)) (fun _ x => x) (fun _ => 0) g (h + 1) g))) ∧ (∀ t, t < n → t ≠ g → (.rat (fwI L (fun i => b (P i)) (fun _ x => x) (fun _ => 0) g (h + 1) t) : SV) = .rat (fwI L (fun i => b (P i)) (fun _ x => x) (fun _ => 0) g h t)) ∧ _ ∧ ((fun X1 X2 X3 X4 X5 X6 X7 X8 X9 X10 X11 X12 X13 X14 X15 X16 : Prop => ∃ h1 : Nat, X1 ∧ X2 ∧ X3 ∧ X4 ∧ X5 ∧ X6 ∧ X7 ∧ X8 ∧ X9 ∧ X10 ∧ X11 ∧ X12 ∧ X13 ∧ X14 ∧ X15 ∧ (((h + 1 : Nat) : Int) = (h1 : Int)) ∧ X16 ∧ (∀ j0, j0 < n → ((fwI L (fun i => b (P i)) (fun _ x => x) (fun _ => 0) g (h + 1) j0 : Rat) = (fwI L (fun i => b (P i)) (fun _ x => x) (fun _ => 0) g h1 j0))) ∧ (h1 ≤ g) ∧ (g - h1 < g - h)) _ _ _ _ _ _ _ _ _ _ _ _ _ _ _ _)) ∧ ((decide ((h : Int) < (g : Int))) = false → _ ∧ ((fun X1 X2 X3 X4 X5 X6 X7 X8 X9 X10 X11 X12 X13 : Prop => ∃ g1 : Nat, X1 ∧ X2 ∧ X3 ∧ X4 ∧ X5 ∧ X6 ∧ X7 ∧ X8 ∧ X9 ∧ X10 ∧ X11 ∧ X12 ∧ (((g + 1 : Nat) : Int) = (g1 : Int)) ∧ X13 ∧ (∀ j0, j0 < n → ((fwI L (fun i => b (P i)) (fun _ x => x) (fun _ => 0) g h j0 : Rat) = (fwS L (fun i => b (P i)) (fun _ x => x) (fun _ => 0) g1 j0))) ∧ (g1 ≤ n) ∧ (n - g1 < n - g)) _ _ _ _ _ _ _ _ _ _ _ _ _))))) ∧ ((decide ((g : Int) < (n : Int))) = false → (IntKind.wrap .i64 ((n : Int) - 1) = ((n : Int) - 1 - 0)) ∧ (((fun X1 X2 X3 X4 X5 X6 X7 X8 X9 X10 X11 X12 : Prop => ∃ g0 : Nat, X1 ∧ X2 ∧ X3 ∧ X4 ∧ X5 ∧ X6 ∧ X7 ∧ X8 ∧ X9 ∧ X10 ∧ X11 ∧ (((n : Int) - 1 - 0 : Int) = ((n : Int) - 1 - (g0 : Int))) ∧ X12 ∧ (∀ j0, j0 < n → ((fwS L (fun i => b (P i)) (fun _ x => x) (fun _ => 0) g j0 : Rat) = (bwS U (luZ n L (fun i => b (P i))) (fun k x => x / U k k) n g0 j0))) ∧ (g0 ≤ n)) _ _ _ _ _ _ _ _ _ _ _ _) ∧ ∀ g : Nat, (g ≤ n) → (((decide ((0 : Int) ≤ ((n : Int) - 1 - (g : Int)))) = true → (IntKind.wrap .i64 (((n : Int) - 1 - (g : Int) : Int) + 1) = ((((n - 1 - g + 1 : Nat)) : Int))) ∧ (((fun X1 X2 X3 X4 X5 X6 X7 X8 X9 X10 X11 X12 X13 : Prop => ∃ h0 : Nat, X1 ∧ X2 ∧ X3 ∧ X4 ∧ X5 ∧ X6 ∧ X7 ∧ X8 ∧ X9 ∧ X10 ∧ X11 ∧ X12 ∧ ((((n - 1 - g + 1 : Nat)) : Int) = ((n - 1 - g + 1 + h0 : Nat) : Int)) ∧ X13 ∧ (∀ j0, j0 < n → ((bwS U (luZ n L (fun i => b (P i))) (fun k x => x / U k k) n g j0 : Rat) = (bwI U (luZ n L (fun i => b (P i))) (fun k x => x / U k k) n g h0 j0))) ∧ (h0 ≤ g)) _ _ _ _ _ _ _ _ _ _ _ _ _) ∧ ∀ h : Nat, (h ≤ g) → (((decide (((n - 1 - g + 1 + h : Nat) : Int) < (n : Int))) = true → (((n : Int) - 1 - (g : Int) : Int) = ((n - 1 - g : Nat) : Int)) ∧ ((n - 1 - g) < n) ∧ ((n - 1 - g) < n) ∧ (((n : Int) - 1 - (g : Int) : Int) = ((n - 1 - g : Nat) : Int)) ∧ ((n - 1 - g) < n) ∧ _ ∧ ((n - 1 - g + 1 + h) < n) ∧ _ ∧ ((n - 1 - g + 1 + h) < n) ∧ ((n - 1 - g + 1 + h) < n) ∧ _ ∧ _ ∧ (((n : Int) - 1 - (g : Int) : Int) = ((n - 1 - g : Nat) : Int)) ∧ ((n - 1 - g) < n) ∧ ((n - 1 - g) < n) ∧ ((((bwI U (luZ n L (fun i => b (P i))) (fun k x => x / U k k) n g h (n - 1 - g)) - ((U (n - 1 - g) (n - 1 - g + 1 + h)) * (bwI U (luZ n L (fun i => b (P i))) (fun k x => x / U k k) n g h (n - 1 - g + 1 + h))) : Rat) = (bwI U (luZ n L (fun i => b (P i))) (fun k x => x / U k k) n g (h + 1) (n - 1 - g)))) ∧ (∀ t, t < n → t ≠ (n - 1 - g) → (.rat (bwI U (luZ n L (fun i => b (P i))) (fun k x => x / U k k) n g (h + 1) t) : SV) = .rat (bwI U (luZ n L (fun i => b (P i))) (fun k x => x / U k k) n g h t)) ∧ (IntKind.wrap .i64 (((n - 1 - g + 1 + h : Nat) : Int) + 1) = (((n - 1 - g + 1 + (h + 1) : Nat) : Int))) ∧ ((fun X1 X2 X3 X4 X5 X6 X7 X8 X9 X10 X11 X12 X13 : Prop => ∃ h1 : Nat, X1 ∧ X2 ∧ X3 ∧ X4 ∧ X5 ∧ X6 ∧ X7 ∧ X8 ∧ X9 ∧ X10 ∧ X11 ∧ X12 ∧ (((n - 1 - g + 1 + (h + 1) : Nat) : Int) = ((n - 1 - g + 1 + h1 : Nat) : Int)) ∧ X13 ∧ (∀ j0, j0 < n → ((bwI U (luZ n L (fun i => b (P i))) (fun k x => x / U k k) n g (h + 1) j0 : Rat) = (bwI U (luZ n L (fun i => b (P i))) (fun k x => x / U k k) n g h1 j0))) ∧ (h1 ≤ g) ∧ (g - h1 < g - h)) _ _ _ _ _ _ _ _ _ _ _ _ _)) ∧ ((decide (((n - 1 - g + 1 + h : Nat) : Int) < (n : Int))) = false → (((n : Int) - 1 - (g : Int) : Int) = ((n - 1 - g : Nat) : Int)) ∧ ((n - 1 - g) < n) ∧ ((n - 1 - g) < n) ∧ (((n : Int) - 1 - (g : Int) : Int) = ((n - 1 - g : Nat) : Int)) ∧ ((n - 1 - g) < n) ∧ (((n : Int) - 1 - (g : Int) : Int) = ((n - 1 - g : Nat) : Int)) ∧ ((n - 1 - g) < n) ∧ _ ∧ (((n : Int) - 1 - (g : Int) : Int) = ((n - 1 - g : Nat) : Int)) ∧ ((n - 1 - g) < n) ∧ ((n - 1 - g) < n) ∧ ((((bwI U (luZ n L (fun i => b (P i))) (fun k x => x / U k k) n g h (n - 1 - g)) / (U (n - 1 - g) (n - 1 - g)) : Rat) = (bwS U (luZ n L (fun i => b (P i))) (fun k x => x / U k k) n (g + 1) (n - 1 - g)))) ∧ (∀ t, t < n → t ≠ (n - 1 - g) → (.rat (bwS U (luZ n L (fun i => b (P i))) (fun k x => x / U k k) n (g + 1) t) : SV) = .rat (bwI U (luZ n L (fun i => b (P i))) (fun k x => x / U k k) n g h t)) ∧ (IntKind.wrap .i64 (((n : Int) - 1 - (g : Int) : Int) - 1) = ((n : Int) - 1 - ((g + 1 : Nat) : Int))) ∧ ((fun X1 X2 X3 X4 X5 X6 X7 X8 X9 X10 X11 X12 : Prop => ∃ g1 : Nat, X1 ∧ X2 ∧ X3 ∧ X4 ∧ X5 ∧ X6 ∧ X7 ∧ X8 ∧ X9 ∧ X10 ∧ X11 ∧ (((n : Int) - 1 - ((g + 1 : Nat) : Int) : Int) = ((n : Int) - 1 - (g1 : Int))) ∧ X12 ∧ (∀ j0, j0 < n → ((bwS U (luZ n L (fun i => b (P i))) (fun k x => x / U k k) n (g + 1) j0 : Rat) = (bwS U (luZ n L (fun i => b (P i))) (fun k x => x / U k k) n g1 j0))) ∧ (g1 ≤ n) ∧ (n - g1 < n - g)) _ _ _ _ _ _ _ _ _ _ _ _))))) ∧ ((decide ((0 : Int) ≤ ((n : Int) - 1 - (g : Int)))) = false → (_ ∧ _ ∧ _ ∧ (∀ j0, j0 < n → ((bwS U (luZ n L (fun i => b (P i))) (fun k x => x / U k k) n g j0 : Rat) = (luX n U L (fun i => b (P i)) j0))))))))))) (by kernel_rfl)
  ⟨(fun _ _ => (fun _ _ => trivial)), ⟨(fun _ _ => (fun _ _ => trivial)), ⟨(fun _ _ => trivial), ⟨(fun _ _ => trivial), ⟨(by simp), ⟨(rf (n : Int)), ⟨(rf (n : Int)), ⟨zo, ⟨(fun j0 hj0 => rfl), ⟨⟨0, (rf n), (leS (mE L n) n), (rf n), (leS (mE U n) n), (rf n), (leS (fun i0 => .ex (.int .i64 ((P i0 : Nat) : Int))) n), (rf (o : Bool)), (rf n), (leS (fun i0 => .rat (b i0)) n), (rf (n : Int)), (rf 0), (rf (n : Int)), zo, (rf n), (fun j0 hj0 => rfl), zo⟩, fun g hg => ⟨fun hc25 => have hc25 := of_decide_eq_true hc25; have hgn : g < n := zo; ⟨(rf (g : Int)), ⟨zo, ⟨(rf ((P g : Nat) : Int)), ⟨(hP g zo), ⟨(rf (g : Int)), ⟨zo, ⟨zo, ⟨(fwI_put (d := fun i => b (P i))), ⟨(fun t ht hne => by rw [fwI_zero hne]), ⟨⟨0, (rf n), (leS (mE L n) n), (rf n), (leS (mE U n) n), (rf n), (leS (fun i0 => .ex (.int .i64 ((P i0 : Nat) : Int))) n), (rf (o : Bool)), (rf n), (leS (fun i0 => .rat (b i0)) n), (rf (n : Int)), (rf 0), (rf (g : Int)), (rf (n : Int)), (rf (g : Int)), (rf (g : Int)), zo, (rf n), (fun j0 hj0 => rfl), zo⟩, fun h hh => ⟨fun hc42 => have hc42 := of_decide_eq_true hc42; have hr := fw_room hL (fun k hk => hb _ (hP k hk)) (fun _ x _ => Nat.le_add_right _ _) hn hgn (show h < g by omega) (base := fun _ => 0); ⟨(rf (g : Int)), ⟨zo, ⟨zo, ⟨(rf (g : Int)), ⟨zo, ⟨(rf (h : Int)), ⟨zo, ⟨(rf (h : Int)), ⟨zo, ⟨zo, ⟨sRatMul (p := L g h) (q := fwI L (fun i => b (P i)) (fun _ x => x) (fun _ => 0) g h h) hr.1, ⟨sRatSub (p := fwI L (fun i => b (P i)) (fun _ x => x) (fun _ => 0) g h g) (q := (L g h) * (fwI L (fun i => b (P i)) (fun _ x => x) (fun _ => 0) g h h)) hr.2, ⟨(rf (g : Int)), ⟨zo, ⟨zo, ⟨(fwI_at zo), ⟨(fun t ht hne => by rw [fwI_ne hne]), ⟨(wI (g := h) zo), ⟨h + 1, (rf n), (leS (mE L n) n), (rf n), (leS (mE U n) n), (rf n), (leS (fun i0 => .ex (.int .i64 ((P i0 : Nat) : Int))) n), (rf (o : Bool)), (rf n), (leS (fun i0 => .rat (b i0)) n), (rf (n : Int)), (rf 0), (rf (g : Int)), (rf (n : Int)), (rf (g : Int)), (rf (g : Int)), zo, (rf n), (fun j0 hj0 => rfl), zo, zo⟩⟩⟩⟩⟩⟩⟩⟩⟩⟩⟩⟩⟩⟩⟩⟩⟩⟩⟩, fun hc42 => have hc42 := of_decide_eq_false hc42; have hi3 : h = g := zo; ⟨(wI (g := g) zo), ⟨g + 1, (rf n), (leS (mE L n) n), (rf n), (leS (mE U n) n), (rf n), (leS (fun i0 => .ex (.int .i64 ((P i0 : Nat) : Int))) n), (rf (o : Bool)), (rf n), (leS (fun i0 => .rat (b i0)) n), (rf (n : Int)), (rf 0), (rf (n : Int)), zo, (rf n), (fun j0 hj0 => (by rw [hi3]; exact fwI_all (fun _ => rfl))), zo, zo⟩⟩⟩⟩⟩⟩⟩⟩⟩⟩⟩⟩⟩, fun hc25 => have hc25 := of_decide_eq_false hc25; have hi2 : g = n := zo; ⟨(by rw [IntKind.wrap_i64]; omega), ⟨⟨0, (rf n), (leS (mE L n) n), (rf n), (leS (mE U n) n), (rf n), (leS (fun i0 => .ex (.int .i64 ((P i0 : Nat) : Int))) n), (rf (o : Bool)), (rf n), (leS (fun i0 => .rat (b i0)) n), (rf (n : Int)), (rf 0), zo, (rf n), (fun j0 hj0 => (by rw [hi2]; rfl)), zo⟩, fun g hg => ⟨fun hc72 => have hc72 := of_decide_eq_true hc72; have hgn : g < n := zo; ⟨(by rw [IntKind.wrap_i64]; omega), ⟨⟨0, (rf n), (leS (mE L n) n), (rf n), (leS (mE U n) n), (rf n), (leS (fun i0 => .ex (.int .i64 ((P i0 : Nat) : Int))) n), (rf (o : Bool)), (rf n), (leS (fun i0 => .rat (b i0)) n), (rf (n : Int)), (rf 0), (rf ((n : Int) - 1 - (g : Int) : Int)), zo, (rf n), (fun j0 hj0 => (bwI_start zo)), zo⟩, fun h hh => ⟨fun hc79 => have hc79 := of_decide_eq_true hc79; have hhg : h < g := zo; have hr := bw_room hU hZ hF hn hgn hhg; ⟨zo, ⟨zo, ⟨zo, ⟨zo, ⟨zo, ⟨(rf ((n - 1 - g + 1 + h : Nat) : Int)), ⟨zo, ⟨(rf ((n - 1 - g + 1 + h : Nat) : Int)), ⟨zo, ⟨zo, ⟨sRatMul (p := U (n - 1 - g) (n - 1 - g + 1 + h)) (q := bwI U (luZ n L (fun i => b (P i))) (fun k x => x / U k k) n g h (n - 1 - g + 1 + h)) hr.1, ⟨sRatSub (p := bwI U (luZ n L (fun i => b (P i))) (fun k x => x / U k k) n g h (n - 1 - g)) (q := (U (n - 1 - g) (n - 1 - g + 1 + h)) * (bwI U (luZ n L (fun i => b (P i))) (fun k x => x / U k k) n g h (n - 1 - g + 1 + h))) hr.2, ⟨zo, ⟨zo, ⟨zo, ⟨(bwI_at), ⟨(fun t ht hne => by rw [bwI_ne hne]), ⟨(by rw [IntKind.wrap_i64]; omega), ⟨h + 1, (rf n), (leS (mE L n) n), (rf n), (leS (mE U n) n), (rf n), (leS (fun i0 => .ex (.int .i64 ((P i0 : Nat) : Int))) n), (rf (o : Bool)), (rf n), (leS (fun i0 => .rat (b i0)) n), (rf (n : Int)), (rf 0), (rf ((n : Int) - 1 - (g : Int) : Int)), zo, (rf n), (fun j0 hj0 => rfl), zo, zo⟩⟩⟩⟩⟩⟩⟩⟩⟩⟩⟩⟩⟩⟩⟩⟩⟩⟩⟩, fun hc79 => have hc79 := of_decide_eq_false hc79; have hi4 : h = g := zo; have hq := bw_div hU hZ hF hn hgn (Nat.le_of_eq hi4); ⟨zo, ⟨zo, ⟨zo, ⟨zo, ⟨zo, ⟨zo, ⟨zo, ⟨sRatDiv (p := bwI U (luZ n L (fun i => b (P i))) (fun k x => x / U k k) n g h (n - 1 - g)) (q := U (n - 1 - g) (n - 1 - g)) hq, ⟨zo, ⟨zo, ⟨zo, ⟨(by rw [hi4]; exact bwS_at (f := fun k x => x / U k k)), ⟨(fun t ht hne => by rw [hi4, bwS_ne hne]), ⟨(by rw [IntKind.wrap_i64]; omega), ⟨g + 1, (rf n), (leS (mE L n) n), (rf n), (leS (mE U n) n), (rf n), (leS (fun i0 => .ex (.int .i64 ((P i0 : Nat) : Int))) n), (rf (o : Bool)), (rf n), (leS (fun i0 => .rat (b i0)) n), (rf (n : Int)), (rf 0), zo, (rf n), (fun j0 hj0 => rfl), zo, zo⟩⟩⟩⟩⟩⟩⟩⟩⟩⟩⟩⟩⟩⟩⟩⟩⟩⟩, fun hc72 => have hc72 := of_decide_eq_false hc72; have hi5 : g = n := zo; ⟨(rf 0), (rf (true : Bool)), (rf n), (fun j0 hj0 => (by rw [hi5]; rfl))⟩⟩⟩⟩⟩⟩⟩⟩⟩⟩⟩⟩⟩⟩⟩
theorem sLuSolveT_no {U L : Nat → Nat → Rat} {P : Nat → Nat} {o : Bool} {n k : Nat} {b : Nat → Rat} (h : k ≠ n) : CallOK Tryz.prog 14 [.ep (.agg (.cn (.sl 1 (mE L n) n) (.cn (.sl 1 (mE U n) n) (.cn (.sl 1 (fun i0 => .ex (.int .i64 ((P i0 : Nat) : Int))) n) (.cn (.ex (.bool o)) (.nl)))))), .sl 3 (fun i0 => .rat (b i0)) k] (.cn (.sl 3 (fun _ => .rat 0) 0) (.cn (.ex (.bool false)) (.nl))) [] := by
 exact callOK_P (ch := [.dec 22 true]) hMix Tryz.func14 rfl (by kernel_rfl) (by kernel_rfl) ((∀ j0, j0 < n → (∀ j1, j1 < n → True)) ∧ (∀ j0, j0 < n → (∀ j1, j1 < n → True)) ∧ (∀ j0, j0 < n → True) ∧ (∀ j0, j0 < k → True) ∧ ((!decide ((k : Int) = (n : Int))) = true) ∧ (_ ∧ _)) (by kernel_rfl)
  ⟨(fun _ _ => (fun _ _ => trivial)), ⟨(fun _ _ => (fun _ _ => trivial)), ⟨(fun _ _ => trivial), ⟨(fun _ _ => trivial), ⟨(by simp; omega), ⟨(rf 0), (rf (false : Bool))⟩⟩⟩⟩⟩⟩
theorem sLuSolveT {U L : Nat → Nat → Rat} {P : Nat → Nat} {o : Bool} {ρ : Nat → Nat} {n : Nat} {b : Nat → Rat} (hn : n ≤ 6) (hB : Bij n P ρ) (hL : ∀ k, k < n → ∀ c, c < n → htq (L k c) ≤ 30000) (hU : ∀ k, k < n → ∀ c, c < n → htq (U k c) ≤ 30000) (hb : ∀ k, k < n → htq (b k) ≤ 100) : CallOK Tryz.prog 14 [.ep (.agg (.cn (.sl 1 (mE L n) n) (.cn (.sl 1 (mE U n) n) (.cn (.sl 1 (fun i0 => .ex (.int .i64 ((P i0 : Nat) : Int))) n) (.cn (.ex (.bool o)) (.nl)))))), .sl 3 (fun i0 => .rat (b i0)) n] (.cn (.own 0 0) (.cn (.ex (.bool true)) (.nl))) [.one (.row 66 3 (fun i0 => .rat (luW n U L b (ρ i0))) n)] := by
 have hUT : ∀ k, k < n → ∀ c, c < n → htq (trM U k c) ≤ 30000 := fun k hk c hc => hU c hc k hk
 have hLT : ∀ k, k < n → ∀ c, c < n → htq (trM L k c) ≤ 30000 := fun k hk c hc => hL c hc k hk
 have hF : ∀ k x, k < n → htq ((fun k x => x / U k k) k x) ≤ htq x + 30000 := fun k x hk => Nat.le_trans (ht_div _ _) (Nat.add_le_add_left (hU k hk k hk) _)
 have hZ : ∀ j, j < n → htq (luY n U b j) ≤ 3900000 := fw_top hUT hb hF hn
 exact callOK_P (ch := [.dec 22 false, .reg 4 [(1, .callS (.own 0 0) [.one (.row 66 3 (fun i0 => .rat (b i0)) n)])], .loop 6 (Nat) (fun g => g ≤ n) (fun g => n - g) (fun g => ⟨[(0, .ep (.agg (.cn (.sl 1 (mE L n) n) (.cn (.sl 1 (mE U n) n) (.cn (.sl 1 (fun i0 => .ex (.int .i64 ((P i0 : Nat) : Int))) n) (.cn (.ex (.bool o)) (.nl))))))), (6, .ex (.int .i64 (n : Int))), (7, .own 0 0), (25, .ex (.int .i64 (n : Int))), (26, .ex (.int .i64 (g : Int)))], [(0, .one (.row 66 3 (fun i0 => .rat (fwS (trM U) b (fun k x => x / U k k) b g i0)) n))], 1⟩) [(0, .id 0)] (fun _ => [(0, .id 0)]) (fun g => [.loop 9 (Nat) (fun h => h ≤ g) (fun h => g - h) (fun h => ⟨[(0, .ep (.agg (.cn (.sl 1 (mE L n) n) (.cn (.sl 1 (mE U n) n) (.cn (.sl 1 (fun i0 => .ex (.int .i64 ((P i0 : Nat) : Int))) n) (.cn (.ex (.bool o)) (.nl))))))), (6, .ex (.int .i64 (n : Int))), (7, .own 0 0), (8, .ex (.int .i64 (g : Int))), (25, .ex (.int .i64 (n : Int))), (26, .ex (.int .i64 (g : Int))), (29, .ex (.int .i64 (g : Int))), (30, .ex (.int .i64 (h : Int)))], [(0, .one (.row 66 3 (fun i0 => .rat (fwI (trM U) b (fun k x => x / U k k) b g h i0)) n))], 1⟩) [(0, .id 0)] (fun _ => [(0, .id 0)]) (fun h => [.reg 11 [(4, .k g), (11, .k h), (14, .k g), (18, .k h), (20, .callS (.rat ((U h g) * (fwI (trM U) b (fun k x => x / U k k) b g h h))) []), (21, .callS (.rat ((fwI (trM U) b (fun k x => x / U k k) b g h g) - ((U h g) * (fwI (trM U) b (fun k x => x / U k k) b g h h)))) []), (22, .k g), (23, .row 0 (fun i0 => .rat (fwI (trM U) b (fun k x => x / U k k) b g (h + 1) i0)))], .reg 12 [(0, .z ((h + 1 : Nat) : Int))], .reg 13 [(4, .k g), (11, .k g), (14, .k g), (16, .callS (.cn (.rat ((fwI (trM U) b (fun k x => x / U k k) b g h g) / (U g g))) (.cn (.ex (.bool (!decide ((U g g) = 0)))) (.nl))) []), (20, .k g), (21, .row 0 (fun i0 => .rat (fwS (trM U) b (fun k x => x / U k k) b (g + 1) i0)))], .reg 14 [(0, .z ((g + 1 : Nat) : Int))]]), .reg 15 [(1, .z ((n : Int) - 1 - 0))], .loop 16 (Nat) (fun g => g ≤ n) (fun g => n - g) (fun g => ⟨[(0, .ep (.agg (.cn (.sl 1 (mE L n) n) (.cn (.sl 1 (mE U n) n) (.cn (.sl 1 (fun i0 => .ex (.int .i64 ((P i0 : Nat) : Int))) n) (.cn (.ex (.bool o)) (.nl))))))), (6, .ex (.int .i64 (n : Int))), (7, .own 0 0), (10, .ex (.int .i64 ((n : Int) - 1 - (g : Int))))], [(0, .one (.row 66 3 (fun i0 => .rat (bwS (trM L) (luY n U b) (fun _ x => x) n g i0)) n))], 1⟩) [(0, .id 0)] (fun _ => [(0, .id 0)]) (fun g => [.reg 18 [(1, .z (((n - 1 - g + 1 : Nat)) : Int))], .loop 19 (Nat) (fun h => h ≤ g) (fun h => g - h) (fun h => ⟨[(0, .ep (.agg (.cn (.sl 1 (mE L n) n) (.cn (.sl 1 (mE U n) n) (.cn (.sl 1 (fun i0 => .ex (.int .i64 ((P i0 : Nat) : Int))) n) (.cn (.ex (.bool o)) (.nl))))))), (6, .ex (.int .i64 (n : Int))), (7, .own 0 0), (10, .ex (.int .i64 ((n : Int) - 1 - (g : Int)))), (11, .ex (.int .i64 ((n - 1 - g + 1 + h : Nat) : Int)))], [(0, .one (.row 66 3 (fun i0 => .rat (bwI (trM L) (luY n U b) (fun _ x => x) n g h i0)) n))], 1⟩) [(0, .id 0)] (fun _ => [(0, .id 0)]) (fun h => [.reg 21 [(4, .k (n - 1 - g)), (11, .k (n - 1 - g + 1 + h)), (14, .k (n - 1 - g)), (18, .k (n - 1 - g + 1 + h)), (20, .callS (.rat ((L (n - 1 - g + 1 + h) (n - 1 - g)) * (bwI (trM L) (luY n U b) (fun _ x => x) n g h (n - 1 - g + 1 + h)))) []), (21, .callS (.rat ((bwI (trM L) (luY n U b) (fun _ x => x) n g h (n - 1 - g)) - ((L (n - 1 - g + 1 + h) (n - 1 - g)) * (bwI (trM L) (luY n U b) (fun _ x => x) n g h (n - 1 - g + 1 + h))))) []), (22, .k (n - 1 - g)), (23, .row 0 (fun i0 => .rat (bwI (trM L) (luY n U b) (fun _ x => x) n g (h + 1) i0)))], .reg 20 [(1, .z ((n - 1 - g + 1 + (h + 1) : Nat) : Int))], .reg 17 [(1, .z ((n : Int) - 1 - ((g + 1 : Nat) : Int)))]]), .reg 22 [(1, .row n (fun i0 => .rat (yP ρ (luW n U L b) 0 i0)))], .loop 24 (Nat) (fun g => g ≤ n) (fun g => n - g) (fun g => ⟨[(0, .ep (.agg (.cn (.sl 1 (mE L n) n) (.cn (.sl 1 (mE U n) n) (.cn (.sl 1 (fun i0 => .ex (.int .i64 ((P i0 : Nat) : Int))) n) (.cn (.ex (.bool o)) (.nl))))))), (6, .ex (.int .i64 (n : Int))), (7, .own 0 0), (12, .own 1 0), (117, .ex (.int .i64 (n : Int))), (118, .ex (.int .i64 (g : Int)))], [(0, .one (.row 66 3 (fun i0 => .rat (luW n U L b i0)) n)), (1, .one (.row 66 3 (fun i0 => .rat (yP ρ (luW n U L b) g i0)) n))], 2⟩) [(0, .id 0), (1, .id 1)] (fun _ => [(0, .id 0), (1, .id 1)]) (fun g => [.reg 26 [(6, .k g), (10, .k g), (12, .k (P g)), (13, .row 0 (fun i0 => .rat (yP ρ (luW n U L b) (g + 1) i0)))], .reg 27 [(0, .z ((g + 1 : Nat) : Int))], .ret 28 [(0, .id 1)]])])])]) hMix Tryz.func14 rfl (by kernel_rfl) (by kernel_rfl) ((∀ j0, j0 < n → (∀ j1, j1 < n → True)) ∧ (∀ j0, j0 < n → (∀ j1, j1 < n → True)) ∧ (∀ j0, j0 < n → True) ∧ (∀ j0, j0 < n → True) ∧ ((!decide ((n : Int) = (n : Int))) = false) ∧ _ ∧ (((fun X1 X2 X3 X4 X5 X6 X7 X8 X9 X10 X11 : Prop => ∃ g0 : Nat, X1 ∧ X2 ∧ X3 ∧ X4 ∧ X5 ∧ X6 ∧ X7 ∧ X8 ∧ X9 ∧ X10 ∧ ((0 : Int) = (g0 : Int)) ∧ X11 ∧ (∀ j0, j0 < n → ((b j0 : Rat) = (fwS (trM U) b (fun k x => x / U k k) b g0 j0))) ∧ (g0 ≤ n)) _ _ _ _ _ _ _ _ _ _ _) ∧ ∀ g : Nat, (g ≤ n) → (((decide ((g : Int) < (n : Int))) = true → (((fun X1 X2 X3 X4 X5 X6 X7 X8 X9 X10 X11 X12 X13 X14 : Prop => ∃ h0 : Nat, X1 ∧ X2 ∧ X3 ∧ X4 ∧ X5 ∧ X6 ∧ X7 ∧ X8 ∧ X9 ∧ X10 ∧ X11 ∧ X12 ∧ X13 ∧ ((0 : Int) = (h0 : Int)) ∧ X14 ∧ (∀ j0, j0 < n → ((fwS (trM U) b (fun k x => x / U k k) b g j0 : Rat) = (fwI (trM U) b (fun k x => x / U k k) b g h0 j0))) ∧ (h0 ≤ g)) _ _ _ _ _ _ _ _ _ _ _ _ _ _) ∧ ∀ h : Nat, (h ≤ g) → (((decide ((h : Int) < (g : Int))) = true → _ ∧ (g < n) ∧ (g < n) ∧ _ ∧ (h < n) ∧ _ ∧ (g < n) ∧ _ ∧ (h < n) ∧ (h < n) ∧ _ ∧ _ ∧ _ ∧ (g < n) ∧ (g < n) ∧ ((((fwI (trM U) b (fun k x => x / U k k) b g h g) - ((U h g) * (fwI (trM U) b (fun k x => x / U k k) b g h h)) : Rat) = (fwI (trM U) b (fun k x => x / U k k) b g (h + 1) g))) ∧ (∀ t, t < n → t ≠ g → (.rat (fwI (trM U) b (fun k x => x / U k k) b g (h + 1) t) : SV) = .rat (fwI (trM U) b (fun k x => x / U k k) b g h t)) ∧ _ ∧ ((fun X1 X2 X3 X4 X5 X6 X7 X8 X9 X10 X11 X12 X13 X14 : Prop => ∃ h1 : Nat, X1 ∧ X2 ∧ X3 ∧ X4 ∧ X5 ∧ X6 ∧ X7 ∧ X8 ∧ X9 ∧ X10 ∧ X11 ∧ X12 ∧ X13 ∧ (((h + 1 : Nat) : Int) = (h1 : Int)) ∧ X14 ∧ (∀ j0, j0 < n → ((fwI (trM U) b (fun k x => x / U k k) b g (h + 1) j0 : Rat) = (fwI (trM U) b (fun k x => x / U k k) b g h1 j0))) ∧ (h1 ≤ g) ∧ (g - h1 < g - h)) _ _ _ _ _ _ _ _ _ _ _ _ _ _)) ∧ ((decide ((h : Int) < (g : Int))) = false → _ ∧ (g < n) ∧ (g < n) ∧ _ ∧ (g < n) ∧ _ ∧ (g < n) ∧ _ ∧ _ ∧ (g < n) ∧ (g < n) ∧ ((((fwI (trM U) b (fun k x => x / U k k) b g h g) / (U g g) : Rat) = (fwS (trM U) b (fun k x => x / U k k) b (g + 1) g))) ∧ (∀ t, t < n → t ≠ g → (.rat (fwS (trM U) b (fun k x => x / U k k) b (g + 1) t) : SV) = .rat (fwI (trM U) b (fun k x => x / U k k) b g h t)) ∧ _ ∧ ((fun X1 X2 X3 X4 X5 X6 X7 X8 X9 X10 X11 : Prop => ∃ g1 : Nat, X1 ∧ X2 ∧ X3 ∧ X4 ∧ X5 ∧ X6 ∧ X7 ∧ X8 ∧ X9 ∧ X10 ∧ (((g + 1 : Nat) : Int) = (g1 : Int)) ∧ X11 ∧ (∀ j0, j0 < n → ((fwS (trM U) b (fun k x => x / U k k) b (g + 1) j0 : Rat) = (fwS (trM U) b (fun k x => x / U k k) b g1 j0))) ∧ (g1 ≤ n) ∧ (n - g1 < n - g)) _ _ _ _ _ _ _ _ _ _ _))))) ∧ ((decide ((g : Int) < (n : Int))) = false → (IntKind.wrap .i64 ((n : Int) - 1) = ((n : Int) - 1 - 0)) ∧ (((fun X1 X2 X3 X4 X5 X6 X7 X8 X9 X10 : Prop => ∃ g0 : Nat, X1 ∧ X2 ∧ X3 ∧ X4 ∧ X5 ∧ X6 ∧ X7 ∧ X8 ∧ X9 ∧ (((n : Int) - 1 - 0 : Int) = ((n : Int) - 1 - (g0 : Int))) ∧ X10 ∧ (∀ j0, j0 < n → ((fwS (trM U) b (fun k x => x / U k k) b g j0 : Rat) = (bwS (trM L) (luY n U b) (fun _ x => x) n g0 j0))) ∧ (g0 ≤ n)) _ _ _ _ _ _ _ _ _ _) ∧ ∀ g : Nat, (g ≤ n) → (((decide ((0 : Int) ≤ ((n : Int) - 1 - (g : Int)))) = true → (IntKind.wrap .i64 (((n : Int) - 1 - (g : Int) : Int) + 1) = ((((n - 1 - g + 1 : Nat)) : Int))) ∧ (((fun X1 X2 X3 X4 X5 X6 X7 X8 X9 X10 X11 : Prop => ∃ h0 : Nat, X1 ∧ X2 ∧ X3 ∧ X4 ∧ X5 ∧ X6 ∧ X7 ∧ X8 ∧ X9 ∧ X10 ∧ ((((n - 1 - g + 1 : Nat)) : Int) = ((n - 1 - g + 1 + h0 : Nat) : Int)) ∧ X11 ∧ (∀ j0, j0 < n → ((bwS (trM L) (luY n U b) (fun _ x => x) n g j0 : Rat) = (bwI (trM L) (luY n U b) (fun _ x => x) n g h0 j0))) ∧ (h0 ≤ g)) _ _ _ _ _ _ _ _ _ _ _) ∧ ∀ h : Nat, (h ≤ g) → (((decide (((n - 1 - g + 1 + h : Nat) : Int) < (n : Int))) = true → (((n : Int) - 1 - (g : Int) : Int) = ((n - 1 - g : Nat) : Int)) ∧ ((n - 1 - g) < n) ∧ ((n - 1 - g) < n) ∧ _ ∧ ((n - 1 - g + 1 + h) < n) ∧ (((n : Int) - 1 - (g : Int) : Int) = ((n - 1 - g : Nat) : Int)) ∧ ((n - 1 - g) < n) ∧ _ ∧ ((n - 1 - g + 1 + h) < n) ∧ ((n - 1 - g + 1 + h) < n) ∧ _ ∧ _ ∧ (((n : Int) - 1 - (g : Int) : Int) = ((n - 1 - g : Nat) : Int)) ∧ ((n - 1 - g) < n) ∧ ((n - 1 - g) < n) ∧ ((((bwI (trM L) (luY n U b) (fun _ x => x) n g h (n - 1 - g)) - ((L (n - 1 - g + 1 + h) (n - 1 - g)) * (bwI (trM L) (luY n U b) (fun _ x => x) n g h (n - 1 - g + 1 + h))) : Rat) = (bwI (trM L) (luY n U b) (fun _ x => x) n g (h + 1) (n - 1 - g)))) ∧ (∀ t, t < n → t ≠ (n - 1 - g) → (.rat (bwI (trM L) (luY n U b) (fun _ x => x) n g (h + 1) t) : SV) = .rat (bwI (trM L) (luY n U b) (fun _ x => x) n g h t)) ∧ (IntKind.wrap .i64 (((n - 1 - g + 1 + h : Nat) : Int) + 1) = (((n - 1 - g + 1 + (h + 1) : Nat) : Int))) ∧ ((fun X1 X2 X3 X4 X5 X6 X7 X8 X9 X10 X11 : Prop => ∃ h1 : Nat, X1 ∧ X2 ∧ X3 ∧ X4 ∧ X5 ∧ X6 ∧ X7 ∧ X8 ∧ X9 ∧ X10 ∧ (((n - 1 - g + 1 + (h + 1) : Nat) : Int) = ((n - 1 - g + 1 + h1 : Nat) : Int)) ∧ X11 ∧ (∀ j0, j0 < n → ((bwI (trM L) (luY n U b) (fun _ x => x) n g (h + 1) j0 : Rat) = (bwI (trM L) (luY n U b) (fun _ x => x) n g h1 j0))) ∧ (h1 ≤ g) ∧ (g - h1 < g - h)) _ _ _ _ _ _ _ _ _ _ _)) ∧ ((decide (((n - 1 - g + 1 + h : Nat) : Int) < (n : Int))) = false → (IntKind.wrap .i64 (((n : Int) - 1 - (g : Int) : Int) - 1) = ((n : Int) - 1 - ((g + 1 : Nat) : Int))) ∧ ((fun X1 X2 X3 X4 X5 X6 X7 X8 X9 X10 : Prop => ∃ g1 : Nat, X1 ∧ X2 ∧ X3 ∧ X4 ∧ X5 ∧ X6 ∧ X7 ∧ X8 ∧ X9 ∧ (((n : Int) - 1 - ((g + 1 : Nat) : Int) : Int) = ((n : Int) - 1 - (g1 : Int))) ∧ X10 ∧ (∀ j0, j0 < n → ((bwI (trM L) (luY n U b) (fun _ x => x) n g h j0 : Rat) = (bwS (trM L) (luY n U b) (fun _ x => x) n g1 j0))) ∧ (g1 ≤ n) ∧ (n - g1 < n - g)) _ _ _ _ _ _ _ _ _ _))))) ∧ ((decide ((0 : Int) ≤ ((n : Int) - 1 - (g : Int)))) = false → _ ∧ _ ∧ (n ≤ 68719476736) ∧ (∀ j0, j0 < n → ((yP ρ (luW n U L b) 0 j0 : Rat) = 0)) ∧ (((fun X1 X2 X3 X4 X5 X6 X7 X8 X9 X10 X11 X12 X13 : Prop => ∃ g0 : Nat, X1 ∧ X2 ∧ X3 ∧ X4 ∧ X5 ∧ X6 ∧ X7 ∧ X8 ∧ X9 ∧ X10 ∧ X11 ∧ ((0 : Int) = (g0 : Int)) ∧ X12 ∧ (∀ j0, j0 < n → ((bwS (trM L) (luY n U b) (fun _ x => x) n g j0 : Rat) = (luW n U L b j0))) ∧ X13 ∧ (∀ j0, j0 < n → ((yP ρ (luW n U L b) 0 j0 : Rat) = (yP ρ (luW n U L b) g0 j0))) ∧ (g0 ≤ n)) _ _ _ _ _ _ _ _ _ _ _ _ _) ∧ ∀ g : Nat, (g ≤ n) → (((decide ((g : Int) < (n : Int))) = true → _ ∧ (g < n) ∧ _ ∧ (g < n) ∧ (g < n) ∧ _ ∧ ((P g) < n) ∧ ((P g) < n) ∧ (((luW n U L b g : Rat) = (yP ρ (luW n U L b) (g + 1) (P g)))) ∧ (∀ t, t < n → t ≠ (P g) → (.rat (yP ρ (luW n U L b) (g + 1) t) : SV) = .rat (yP ρ (luW n U L b) g t)) ∧ _ ∧ ((fun X1 X2 X3 X4 X5 X6 X7 X8 X9 X10 X11 X12 X13 X14 : Prop => ∃ g1 : Nat, X1 ∧ X2 ∧ X3 ∧ X4 ∧ X5 ∧ X6 ∧ X7 ∧ X8 ∧ X9 ∧ X10 ∧ X11 ∧ (((g + 1 : Nat) : Int) = (g1 : Int)) ∧ X12 ∧ X13 ∧ X14 ∧ (∀ j0, j0 < n → ((yP ρ (luW n U L b) (g + 1) j0 : Rat) = (yP ρ (luW n U L b) g1 j0))) ∧ (g1 ≤ n) ∧ (n - g1 < n - g)) _ _ _ _ _ _ _ _ _ _ _ _ _ _)) ∧ ((decide ((g : Int) < (n : Int))) = false → (_ ∧ _ ∧ _ ∧ (∀ j0, j0 < n → ((yP ρ (luW n U L b) g j0 : Rat) = (luW n U L b (ρ j0))))))))))))))) (by kernel_rfl)
  ⟨(fun _ _ => (fun _ _ => trivial)), ⟨(fun _ _ => (fun _ _ => trivial)), ⟨(fun _ _ => trivial), ⟨(fun _ _ => trivial), ⟨(by simp), ⟨sVecCopy (n := n) (q := b) zo, ⟨⟨0, (rf n), (leS (mE L n) n), (rf n), (leS (mE U n) n), (rf n), (leS (fun i0 => .ex (.int .i64 ((P i0 : Nat) : Int))) n), (rf (o : Bool)), (rf (n : Int)), (rf 0), (rf (n : Int)), zo, (rf n), (fun j0 hj0 => rfl), zo⟩, fun g hg => ⟨fun hc27 => have hc27 := of_decide_eq_true hc27; have hgn : g < n := zo; ⟨⟨0, (rf n), (leS (mE L n) n), (rf n), (leS (mE U n) n), (rf n), (leS (fun i0 => .ex (.int .i64 ((P i0 : Nat) : Int))) n), (rf (o : Bool)), (rf (n : Int)), (rf 0), (rf (g : Int)), (rf (n : Int)), (rf (g : Int)), (rf (g : Int)), zo, (rf n), (fun j0 hj0 => (fwI_start rfl)), zo⟩, fun h hh => ⟨fun hc31 => have hc31 := of_decide_eq_true hc31; have hr := fw_room hUT hb hF hn hgn (show h < g by omega) (base := b); ⟨(rf (g : Int)), ⟨zo, ⟨zo, ⟨(rf (h : Int)), ⟨zo, ⟨(rf (g : Int)), ⟨zo, ⟨(rf (h : Int)), ⟨zo, ⟨zo, ⟨sRatMul (p := U h g) (q := fwI (trM U) b (fun k x => x / U k k) b g h h) hr.1, ⟨sRatSub (p := fwI (trM U) b (fun k x => x / U k k) b g h g) (q := (U h g) * (fwI (trM U) b (fun k x => x / U k k) b g h h)) hr.2, ⟨(rf (g : Int)), ⟨zo, ⟨zo, ⟨(fwI_at (L := trM U) zo), ⟨(fun t ht hne => by rw [fwI_ne hne]), ⟨(wI (g := h) zo), ⟨h + 1, (rf n), (leS (mE L n) n), (rf n), (leS (mE U n) n), (rf n), (leS (fun i0 => .ex (.int .i64 ((P i0 : Nat) : Int))) n), (rf (o : Bool)), (rf (n : Int)), (rf 0), (rf (g : Int)), (rf (n : Int)), (rf (g : Int)), (rf (g : Int)), zo, (rf n), (fun j0 hj0 => rfl), zo, zo⟩⟩⟩⟩⟩⟩⟩⟩⟩⟩⟩⟩⟩⟩⟩⟩⟩⟩⟩, fun hc31 => have hc31 := of_decide_eq_false hc31; have hi3 : h = g := zo; have hq := fw_div hUT hb hF hn hgn (Nat.le_of_eq hi3) (hU g hgn g hgn) (base := b); ⟨(rf (g : Int)), ⟨zo, ⟨zo, ⟨(rf (g : Int)), ⟨zo, ⟨(rf (g : Int)), ⟨zo, ⟨sRatDiv (p := fwI (trM U) b (fun k x => x / U k k) b g h g) (q := U g g) hq, ⟨(rf (g : Int)), ⟨zo, ⟨zo, ⟨(by rw [hi3]; exact fwS_at (f := fun k x => x / U k k)), ⟨(fun t ht hne => by rw [hi3, fwS_ne hne]), ⟨(wI (g := g) zo), ⟨g + 1, (rf n), (leS (mE L n) n), (rf n), (leS (mE U n) n), (rf n), (leS (fun i0 => .ex (.int .i64 ((P i0 : Nat) : Int))) n), (rf (o : Bool)), (rf (n : Int)), (rf 0), (rf (n : Int)), zo, (rf n), (fun j0 hj0 => rfl), zo, zo⟩⟩⟩⟩⟩⟩⟩⟩⟩⟩⟩⟩⟩⟩⟩⟩⟩, fun hc27 => have hc27 := of_decide_eq_false hc27; have hi2 : g = n := zo; ⟨(by rw [IntKind.wrap_i64]; omega), ⟨⟨0, (rf n), (leS (mE L n) n), (rf n), (leS (mE U n) n), (rf n), (leS (fun i0 => .ex (.int .i64 ((P i0 : Nat) : Int))) n), (rf (o : Bool)), (rf (n : Int)), (rf 0), zo, (rf n), (fun j0 hj0 => (by rw [hi2]; rfl)), zo⟩, fun g hg => ⟨fun hc82 => have hc82 := of_decide_eq_true hc82; have hgn : g < n := zo; ⟨(by rw [IntKind.wrap_i64]; omega), ⟨⟨0, (rf n), (leS (mE L n) n), (rf n), (leS (mE U n) n), (rf n), (leS (fun i0 => .ex (.int .i64 ((P i0 : Nat) : Int))) n), (rf (o : Bool)), (rf (n : Int)), (rf 0), (rf ((n : Int) - 1 - (g : Int) : Int)), zo, (rf n), (fun j0 hj0 => (bwI_start zo)), zo⟩, fun h hh => ⟨fun hc89 => have hc89 := of_decide_eq_true hc89; have hhg : h < g := zo; have hr := bw_room hLT hZ (fun _ x _ => Nat.le_add_right _ _) hn hgn hhg (f := fun _ x => x); ⟨zo, ⟨zo, ⟨zo, ⟨(rf ((n - 1 - g + 1 + h : Nat) : Int)), ⟨zo, ⟨zo, ⟨zo, ⟨(rf ((n - 1 - g + 1 + h : Nat) : Int)), ⟨zo, ⟨zo, ⟨sRatMul (p := L (n - 1 - g + 1 + h) (n - 1 - g)) (q := bwI (trM L) (luY n U b) (fun _ x => x) n g h (n - 1 - g + 1 + h)) hr.1, ⟨sRatSub (p := bwI (trM L) (luY n U b) (fun _ x => x) n g h (n - 1 - g)) (q := (L (n - 1 - g + 1 + h) (n - 1 - g)) * (bwI (trM L) (luY n U b) (fun _ x => x) n g h (n - 1 - g + 1 + h))) hr.2, ⟨zo, ⟨zo, ⟨zo, ⟨(bwI_at (U := trM L)), ⟨(fun t ht hne => by rw [bwI_ne hne]), ⟨(by rw [IntKind.wrap_i64]; omega), ⟨h + 1, (rf n), (leS (mE L n) n), (rf n), (leS (mE U n) n), (rf n), (leS (fun i0 => .ex (.int .i64 ((P i0 : Nat) : Int))) n), (rf (o : Bool)), (rf (n : Int)), (rf 0), (rf ((n : Int) - 1 - (g : Int) : Int)), zo, (rf n), (fun j0 hj0 => rfl), zo, zo⟩⟩⟩⟩⟩⟩⟩⟩⟩⟩⟩⟩⟩⟩⟩⟩⟩⟩⟩, fun hc89 => have hc89 := of_decide_eq_false hc89; have hi4 : h = g := zo; ⟨(by rw [IntKind.wrap_i64]; omega), ⟨g + 1, (rf n), (leS (mE L n) n), (rf n), (leS (mE U n) n), (rf n), (leS (fun i0 => .ex (.int .i64 ((P i0 : Nat) : Int))) n), (rf (o : Bool)), (rf (n : Int)), (rf 0), zo, (rf n), (fun j0 hj0 => (by rw [hi4]; exact bwI_all (fun _ => rfl))), zo, zo⟩⟩⟩⟩⟩, fun hc82 => have hc82 := of_decide_eq_false hc82; have hi5 : g = n := zo; ⟨(rf (n : Int)), ⟨(rf (n : Int)), ⟨zo, ⟨(fun j0 hj0 => (yP_zero)), ⟨⟨0, (rf n), (leS (mE L n) n), (rf n), (leS (mE U n) n), (rf n), (leS (fun i0 => .ex (.int .i64 ((P i0 : Nat) : Int))) n), (rf (o : Bool)), (rf (n : Int)), (rf 0), (rf 0), (rf (n : Int)), zo, (rf n), (fun j0 hj0 => (by rw [hi5]; rfl)), (rf n), (fun j0 hj0 => rfl), zo⟩, fun g hg => ⟨fun hc119 => have hc119 := of_decide_eq_true hc119; ⟨(rf (g : Int)), ⟨zo, ⟨(rf (g : Int)), ⟨zo, ⟨zo, ⟨(rf ((P g : Nat) : Int)), ⟨(hB.lt g zo), ⟨(hB.lt g zo), ⟨(yP_at hB), ⟨(fun t ht hne => by rw [yP_ne hB hne]), ⟨(wI (g := g) zo), ⟨g + 1, (rf n), (leS (mE L n) n), (rf n), (leS (mE U n) n), (rf n), (leS (fun i0 => .ex (.int .i64 ((P i0 : Nat) : Int))) n), (rf (o : Bool)), (rf (n : Int)), (rf 0), (rf 0), (rf (n : Int)), zo, (rf n), (leS (fun i0 => .rat (luW n U L b i0)) n), (rf n), (fun j0 hj0 => rfl), zo, zo⟩⟩⟩⟩⟩⟩⟩⟩⟩⟩⟩⟩, fun hc119 => have hc119 := of_decide_eq_false hc119; have hi6 : g = n := zo; ⟨(rf 0), (rf (true : Bool)), (rf n), (fun j0 hj0 => (by rw [hi6]; exact yP_all (hB.lt' _ (by assumption))))⟩⟩⟩⟩⟩⟩⟩⟩⟩⟩⟩⟩⟩⟩⟩⟩⟩⟩
open Go.RowKit
def gQ (k : Nat → Nat) (p d : Nat → Nat → Int) (r c : Nat) : Rat := oneQ (padZ (k r) (p r) c) (padZ (k r) (d r) c)
theorem gQ_sz {l : Nat} {k : Nat → Nat} {p d : Nat → Nat → Int} (h : ∀ r, r < l → ∀ c, c < k r → Wd64 (p r c) ∧ Wd64 (d r c)) {r c : Nat} (hr : r < min l 6) : szq (gQ k p d r c) ≤ 2 :=
 szq_one (padZ_wd fun hc => (h r zo c hc).1) (padZ_wd fun hc => (h r zo c hc).2)
open Go.RowKit
theorem lu_hH {n : Nat} {A : Nat → Nat → Rat} (h : HtB n n 3 A) (hn : n ≤ 6) : ∀ c, c ≤ n → luOK n A c → HtB n n 100000000 (luS n A c).1 := fun c hc hok i hi j hj =>
 Nat.le_trans (lu_ht h c hc hok i hi j hj) (Nat.le_trans (Nat.mul_le_mul_left 3 (Nat.pow_le_pow_right (show 0 < 4 by decide) (show c ≤ 6 by omega))) (by decide))
theorem lu_h3 {n : Nat} {A : Nat → Nat → Rat} (h : HtB n n 3 A) (hn : n ≤ 6) (c : Nat) (hc : c ≤ n) (hok : luOK n A c) : HtB n n 12288 (luS n A c).1 := fun i hi j hj =>
 Nat.le_trans (lu_ht h c hc hok i hi j hj) (Nat.le_trans (Nat.mul_le_mul_left 3 (Nat.pow_le_pow_right (show 0 < 4 by decide) (show c ≤ 6 by omega))) (by decide))
theorem lu_hU {n : Nat} {A : Nat → Nat → Rat} (h : HtB n n 3 A) (hn : n ≤ 6) (hok : luOK n A n) : ∀ k, k < n → ∀ c, c < n → htq ((luS n A n).1 k c) ≤ 30000 := fun k hk c hc => by
 have := lu_h3 h hn n (Nat.le_refl n) hok k hk c hc
 omega
theorem lu_hL2 {n : Nat} {A : Nat → Nat → Rat} (h : HtB n n 3 A) (hn : n ≤ 6) : ∀ c, c ≤ n → luOK n A c → ∀ i, i < n → ∀ j, j < n → htq ((luS n A c).2.1 i j) ≤ 24576
 | 0, _, _ => fun _ _ _ _ => by show htq 0 ≤ _; rw [ht_zero]; omega
 | c + 1, hc, hok => fun i hi j hj => by
  have ih := lu_hL2 h hn c zo fun k hk => hok k zo
  have hU := lu_h3 h hn c zo fun k hk => hok k zo
  have hK := hok c (Nat.lt_succ_self c)
  have hU2 := hU.swap (show c < n by omega) hK
  show htq (lowQ _ _ c n i j) ≤ _
  unfold lowQ
  split
  ·split
   ·rw [ht_one]; omega
   ·have h1 := ht_div (swapR (luS n A c).1 c (luK n (luS n A c) c) i c) (swapR (luS n A c).1 c (luK n (luS n A c) c) c c)
    have h2 := hU2 i hi c zo
    have h3 := hU2 c zo c zo
    omega
  ·exact ih _ (sw_lt (show c < n by omega) hK hi) j hj
theorem lu_hL {n : Nat} {A : Nat → Nat → Rat} (h : HtB n n 3 A) (hn : n ≤ 6) (hok : luOK n A n) : ∀ k, k < n → ∀ c, c < n → htq ((luS n A n).2.1 k c) ≤ 30000 := fun k hk c hc => by
 have := lu_hL2 h hn n (Nat.le_refl n) hok k hk c hc
 omega
theorem sMakeCut {l0 : Nat} {k0 : Nat → Nat} {p0 d0 : Nat → Nat → Int} {n m : Nat} (h0 : ∀ r, r < l0 → ∀ c, c < k0 r → Wd64 (p0 r c) ∧ Wd64 (d0 r c)) (hn : n ≤ 6) (hm : min l0 n = m) : CallOK Tryz.prog 8 [.agg (.cn (.ex (.int .u8 (n : Int))) (.cn (.sl 1 (gE k0 p0 d0) m) (.nl)))] (.agg (.cn (.sl 1 (fun i0 => .sl 3 (fun i1 => .rat (gQ k0 p0 d0 i0 i1)) n) m) (.cn (.ex (.int .i64 (n : Int))) (.nl)))) [] := by
 have h := sMake11 (z := n) (l := m) (k := k0) (p := p0) (d := d0) (fun r hr => h0 r zo)
 rw [Nat.mod_eq_of_lt (show n < 7 by omega), Nat.min_eq_left (show m ≤ 6 by omega)] at h
 exact h
theorem gQ_ht {l0 : Nat} {k0 : Nat → Nat} {p0 d0 : Nat → Nat → Int} {n m : Nat} (h0 : ∀ r, r < l0 → ∀ c, c < k0 r → Wd64 (p0 r c) ∧ Wd64 (d0 r c)) (hn : n ≤ 6) (hm : min l0 n = m) : HtB m n 3 (gQ k0 p0 d0) := fun i hi j _ => Nat.succ_le_succ (Nat.le_trans (ht_sz _) (gQ_sz h0 (show i < min l0 6 by omega)))
theorem sCut4 {z0 l0 : Nat} {k0 : Nat → Nat} {p0 d0 : Nat → Nat → Int} {n m : Nat} (hn : z0 % 5 = n) (hm : min l0 n = m) : CallOK Tryz.prog 9 [.agg (.cn (.ex (.int .u8 (z0 : Int))) (.cn (.sl 1 (gE k0 p0 d0) l0) (.nl))), .ex (.int .i64 ((4 : Nat) : Int))] (.agg (.cn (.ex (.int .u8 (n : Int))) (.cn (.sl 1 (gE k0 p0 d0) m) (.nl)))) [] := by
 exact callOK_P (ch := [.reg 1 [(4, .z (((4 : Nat) : Int) + 1)), (5, .z (n : Int))], .reg 2 [(5, .z (n : Int))], .reg 3 [(4, .kk 0 m)]]) hMix Tryz.func9 rfl (by kernel_rfl) (by kernel_rfl) ((∀ j0, j0 < l0 → (∀ j1, j1 < (k0 j0) → True)) ∧ (IntKind.wrap .i64 (((4 : Nat) : Int) + 1) = (((4 : Nat) : Int) + 1)) ∧ (IntKind.wrap .u8 (((4 : Nat) : Int) + 1 : Int) = (((4 : Nat) : Int) + 1)) ∧ ((((4 : Nat) : Int) + 1 : Int) ≠ 0) ∧ ((z0 : Int).tmod (((4 : Nat) : Int) + 1) = ((n : Int))) ∧ (IntKind.wrap .i64 (n : Int) = ((n : Int))) ∧ (((decide ((n : Int) < (l0 : Int))) = true → ((n : Int) = (m : Int)) ∧ (m ≤ l0) ∧ (_ ∧ _ ∧ _)) ∧ ((decide ((n : Int) < (l0 : Int))) = false → (_ ∧ ((l0 : Nat) = m) ∧ _)))) (by kernel_rfl)
  ⟨(fun _ _ => (fun _ _ => trivial)), ⟨(by rw [IntKind.wrap_i64]; omega), ⟨(by rw [IntKind.wrap_u8]; omega), ⟨(by decide), ⟨(by rw [← hn]; rfl), ⟨(by rw [IntKind.wrap_i64]; omega), ⟨fun hc18 => have hc18 := of_decide_eq_true hc18; have hc := hc18; ⟨zo, ⟨zo, ⟨(rf (n : Int)), (rf m), (leS (gE k0 p0 d0) m)⟩⟩⟩, fun hc18 => have hc18 := of_decide_eq_false hc18; have hc := hc18; ⟨(rf (n : Int)), zo, (leS (gE k0 p0 d0) l0)⟩⟩⟩⟩⟩⟩⟩⟩
theorem sAwake13   : CallOK Tryz.prog 7 [] (.ex (.bool true)) [] := by
 exact callOK_P (ch := [.reg 1 [(0, .row 0 (fun i0 => .ex (.int .i64 (litI [0, 2] i0)))), (1, .callS (.sl 3 (fun i0 => .rat (((litI [0, 2]) i0 : Int) : Rat)) 2) []), (2, .row 0 (fun i0 => .ex (.int .i64 (litI [3, 4] i0)))), (3, .callS (.sl 3 (fun i0 => .rat (((litI [3, 4]) i0 : Int) : Rat)) 2) []), (4, .row 0 (fun i0 => .sl 3 (fun i1 => .rat ((litLL [[0, 2], [3, 4]] i0 i1 : Int) : Rat)) 2)), (5, .callS (.cn (.agg (.cn (.sl 1 (fun i0 => .sl 3 (fun i1 => .rat ((litLL [[0, 2], [3, 4]] i0 i1 : Int) : Rat)) 2) 2) (.cn (.ex (.int .i64 ((2 : Nat) : Int))) (.nl)))) (.cn (.ex (.bool true)) (.nl))) [])], .reg 2 [(1, .callS (.cn (.ep (.agg (.cn (.sl 1 (fun i0 => .sl 3 (fun i1 => .rat ((luS 2 (fun r c => ((litLL [[0, 2], [3, 4]] r c : Int) : Rat)) 2).2.1 i0 i1)) 2) 2) (.cn (.sl 1 (fun i0 => .sl 3 (fun i1 => .rat (((luS 2 (fun r c => ((litLL [[0, 2], [3, 4]] r c : Int) : Rat)) 2).1) i0 i1)) 2) 2) (.cn (.sl 1 (fun i0 => .ex (.int .i64 (((luS 2 (fun r c => ((litLL [[0, 2], [3, 4]] r c : Int) : Rat)) 2).2.2.1 i0 : Nat) : Int))) 2) (.cn (.ex (.bool ((luS 2 (fun r c => ((litLL [[0, 2], [3, 4]] r c : Int) : Rat)) 2).2.2.2.2))) (.nl))))))) (.cn (.ex (.bool true)) (.nl))) [])], .reg 3 [(5, .skip)], .dec 33 false, .reg 5 [(1, .callS (.sl 1 (fun i0 => .ex (.int .i64 (((luS 2 (fun r c => ((litLL [[0, 2], [3, 4]] r c : Int) : Rat)) 2).2.2.1 i0 : Nat) : Int))) 2) [])], .reg 6 [(0, .row 0 (fun i0 => .ex (.int .i64 (litI [3, 4] i0)))), (1, .callS (.sl 3 (fun i0 => .rat (((litI [3, 4]) i0 : Int) : Rat)) 2) []), (2, .row 0 (fun i0 => .ex (.int .i64 (litI [0, 2] i0)))), (3, .callS (.sl 3 (fun i0 => .rat (((litI [0, 2]) i0 : Int) : Rat)) 2) []), (4, .row 0 (fun i0 => .sl 3 (fun i1 => .rat ((litLL [[3, 4], [0, 2]] i0 i1 : Int) : Rat)) 2)), (5, .callS (.cn (.agg (.cn (.sl 1 (fun i0 => .sl 3 (fun i1 => .rat ((litLL [[3, 4], [0, 2]] i0 i1 : Int) : Rat)) 2) 2) (.cn (.ex (.int .i64 ((2 : Nat) : Int))) (.nl)))) (.cn (.ex (.bool true)) (.nl))) [])], .reg 7 [(0, .callS (.cn (.agg (.cn (.sl 1 (fun i0 => .sl 3 (fun i1 => .rat (idQ i0 i1)) 2) 2) (.cn (.ex (.int .i64 ((2 : Nat) : Int))) (.nl)))) (.cn (.ex (.bool true)) (.nl))) [])], .reg 8 [(1, .row 0 (fun i0 => .ex (.int .i64 (litI [2, 7] i0)))), (2, .callS (.sl 3 (fun i0 => .rat (((litI [2, 7]) i0 : Int) : Rat)) 2) []), (3, .callS (.cn (.sl 3 (fun i0 => .rat (luX 2 (luS 2 (fun r c => ((litLL [[0, 2], [3, 4]] r c : Int) : Rat)) 2).1 (luS 2 (fun r c => ((litLL [[0, 2], [3, 4]] r c : Int) : Rat)) 2).2.1 (fun i => (fun i => (((litI [2, 7]) i : Int) : Rat)) ((luS 2 (fun r c => ((litLL [[0, 2], [3, 4]] r c : Int) : Rat)) 2).2.2.1 i)) i0)) 2) (.cn (.ex (.bool true)) (.nl))) [])], .reg 9 [(1, .row 0 (fun i0 => .ex (.int .i64 (litI [3, 6] i0)))), (2, .callS (.sl 3 (fun i0 => .rat (((litI [3, 6]) i0 : Int) : Rat)) 2) []), (3, .callS (.cn (.sl 3 (fun i0 => .rat (luW 2 (luS 2 (fun r c => ((litLL [[0, 2], [3, 4]] r c : Int) : Rat)) 2).1 (luS 2 (fun r c => ((litLL [[0, 2], [3, 4]] r c : Int) : Rat)) 2).2.1 (fun i => (((litI [3, 6]) i : Int) : Rat)) ((luS 2 (fun r c => ((litLL [[0, 2], [3, 4]] r c : Int) : Rat)) 2).2.2.2.1 i0))) 2) (.cn (.ex (.bool true)) (.nl))) [])], .reg 10 [(5, .k 0), (8, .sure .no), (11, .callS (.agg (.cn (.sl 1 (fun i0 => .sl 3 (fun i1 => .rat (((luS 2 (fun r c => ((litLL [[0, 2], [3, 4]] r c : Int) : Rat)) 2).1) i0 i1)) 2) 2) (.cn (.ex (.int .i64 ((2 : Nat) : Int))) (.nl)))) []), (13, .callS (.ex (.bool (decide (2 = 2 ∧ 2 = 2 ∧ ∀ r : Nat, r < 2 → ∀ c : Nat, c < 2 → ((luS 2 (fun r c => ((litLL [[0, 2], [3, 4]] r c : Int) : Rat)) 2).1) r c = ((litLL [[3, 4], [0, 2]] r c : Int) : Rat))))) []), (14, .sure .no), (17, .callS (.agg (.cn (.sl 1 (fun i0 => .sl 3 (fun i1 => .rat (((luS 2 (fun r c => ((litLL [[0, 2], [3, 4]] r c : Int) : Rat)) 2).2.1) i0 i1)) 2) 2) (.cn (.ex (.int .i64 ((2 : Nat) : Int))) (.nl)))) []), (19, .callS (.ex (.bool (decide (2 = 2 ∧ 2 = 2 ∧ ∀ r : Nat, r < 2 → ∀ c : Nat, c < 2 → ((luS 2 (fun r c => ((litLL [[0, 2], [3, 4]] r c : Int) : Rat)) 2).2.1) r c = idQ r c)))) []), (20, .sure .no), (23, .callS (.rat (if (luS 2 (fun r c => ((litLL [[0, 2], [3, 4]] r c : Int) : Rat)) 2).2.2.2.2 = true then -(prodD (luS 2 (fun r c => ((litLL [[0, 2], [3, 4]] r c : Int) : Rat)) 2).1 2) else prodD (luS 2 (fun r c => ((litLL [[0, 2], [3, 4]] r c : Int) : Rat)) 2).1 2)) []), (24, .callS (.ex (.bool (decide ((if (luS 2 (fun r c => ((litLL [[0, 2], [3, 4]] r c : Int) : Rat)) 2).2.2.2.2 = true then -(prodD (luS 2 (fun r c => ((litLL [[0, 2], [3, 4]] r c : Int) : Rat)) 2).1 2) else prodD (luS 2 (fun r c => ((litLL [[0, 2], [3, 4]] r c : Int) : Rat)) 2).1 2) = Rat.divInt (-6) 1)))) []), (25, .sure .no), (28, .sure .no), (31, .row 0 (fun i0 => .ex (.int .i64 (litI [1, 1] i0)))), (32, .callS (.sl 3 (fun i0 => .rat (((litI [1, 1]) i0 : Int) : Rat)) 2) []), (33, .callS (.ex (.bool (decide (2 = 2 ∧ ∀ j : Nat, j < 2 → (luX 2 (luS 2 (fun r c => ((litLL [[0, 2], [3, 4]] r c : Int) : Rat)) 2).1 (luS 2 (fun r c => ((litLL [[0, 2], [3, 4]] r c : Int) : Rat)) 2).2.1 (fun i => (fun i => (((litI [2, 7]) i : Int) : Rat)) ((luS 2 (fun r c => ((litLL [[0, 2], [3, 4]] r c : Int) : Rat)) 2).2.2.1 i)) j : Rat) = (((litI [1, 1]) j : Int) : Rat))))) []), (34, .sure .no), (37, .sure .no), (40, .row 0 (fun i0 => .ex (.int .i64 (litI [1, 1] i0)))), (41, .callS (.sl 3 (fun i0 => .rat (((litI [1, 1]) i0 : Int) : Rat)) 2) []), (42, .callS (.ex (.bool (decide (2 = 2 ∧ ∀ j : Nat, j < 2 → (luW 2 (luS 2 (fun r c => ((litLL [[0, 2], [3, 4]] r c : Int) : Rat)) 2).1 (luS 2 (fun r c => ((litLL [[0, 2], [3, 4]] r c : Int) : Rat)) 2).2.1 (fun i => (((litI [3, 6]) i : Int) : Rat)) ((luS 2 (fun r c => ((litLL [[0, 2], [3, 4]] r c : Int) : Rat)) 2).2.2.2.1 j) : Rat) = (((litI [1, 1]) j : Int) : Rat))))) []), (43, .sure .no)]]) hMix Tryz.func7 rfl (by kernel_rfl) (by kernel_rfl) (let y0 := (decide (2 = 2 ∧ 2 = 2 ∧ ∀ r : Nat, r < 2 → ∀ c : Nat, c < 2 → ((luS 2 (fun r c => ((litLL [[0, 2], [3, 4]] r c : Int) : Rat)) 2).1) r c = ((litLL [[3, 4], [0, 2]] r c : Int) : Rat))); let y1 := (decide (2 = 2 ∧ 2 = 2 ∧ ∀ r : Nat, r < 2 → ∀ c : Nat, c < 2 → ((luS 2 (fun r c => ((litLL [[0, 2], [3, 4]] r c : Int) : Rat)) 2).2.1) r c = idQ r c)); let y2 := ((decide (((2 : Nat) : Int) = 2)) == true); let y3 := (true == true); let y4 := ((false && true) == false); ((0 : Int) = (litI [0, 2] 0)) ∧ ((2 : Int) = (litI [0, 2] 1)) ∧ _ ∧ ((3 : Int) = (litI [3, 4] 0)) ∧ ((4 : Int) = (litI [3, 4] 1)) ∧ _ ∧ _ ∧ (∀ j0, j0 < 2 → (((((litI [0, 2]) j0 : Int) : Rat) : Rat) = ((litLL [[0, 2], [3, 4]] 0 j0 : Int) : Rat))) ∧ _ ∧ (∀ j0, j0 < 2 → (((((litI [3, 4]) j0 : Int) : Rat) : Rat) = ((litLL [[0, 2], [3, 4]] 1 j0 : Int) : Rat))) ∧ (CallOK Tryz.prog 36 [.ex (.int .i64 2), .sl 1 (fun i0 => .sl 3 (fun i1 => .rat ((litLL [[0, 2], [3, 4]] i0 i1 : Int) : Rat)) 2) 2] (.cn (.agg (.cn (.sl 1 (fun i0 => .sl 3 (fun i1 => .rat ((litLL [[0, 2], [3, 4]] i0 i1 : Int) : Rat)) 2) 2) (.cn (.ex (.int .i64 ((2 : Nat) : Int))) (.nl)))) (.cn (.ex (.bool true)) (.nl))) []) ∧ _ ∧ (y4 = true → y4 = true) ∧ ((false && true) = false) ∧ (y4 = true) ∧ ((!true) = false) ∧ _ ∧ ((3 : Int) = (litI [3, 4] 0)) ∧ ((4 : Int) = (litI [3, 4] 1)) ∧ _ ∧ ((0 : Int) = (litI [0, 2] 0)) ∧ ((2 : Int) = (litI [0, 2] 1)) ∧ _ ∧ _ ∧ (∀ j0, j0 < 2 → (((((litI [3, 4]) j0 : Int) : Rat) : Rat) = ((litLL [[3, 4], [0, 2]] 0 j0 : Int) : Rat))) ∧ _ ∧ (∀ j0, j0 < 2 → (((((litI [0, 2]) j0 : Int) : Rat) : Rat) = ((litLL [[3, 4], [0, 2]] 1 j0 : Int) : Rat))) ∧ (CallOK Tryz.prog 36 [.ex (.int .i64 2), .sl 1 (fun i0 => .sl 3 (fun i1 => .rat ((litLL [[3, 4], [0, 2]] i0 i1 : Int) : Rat)) 2) 2] (.cn (.agg (.cn (.sl 1 (fun i0 => .sl 3 (fun i1 => .rat ((litLL [[3, 4], [0, 2]] i0 i1 : Int) : Rat)) 2) 2) (.cn (.ex (.int .i64 ((2 : Nat) : Int))) (.nl)))) (.cn (.ex (.bool true)) (.nl))) []) ∧ (CallOK Tryz.prog 39 [.ex (.int .i64 2)] (.cn (.agg (.cn (.sl 1 (fun i0 => .sl 3 (fun i1 => .rat (idQ i0 i1)) 2) 2) (.cn (.ex (.int .i64 ((2 : Nat) : Int))) (.nl)))) (.cn (.ex (.bool true)) (.nl))) []) ∧ ((2 : Int) = (litI [2, 7] 0)) ∧ ((7 : Int) = (litI [2, 7] 1)) ∧ _ ∧ _ ∧ ((3 : Int) = (litI [3, 6] 0)) ∧ ((6 : Int) = (litI [3, 6] 1)) ∧ _ ∧ _ ∧ (y2 = true → y2 = true) ∧ (y2 = true → (0 : Int) = ((0 : Nat) : Int)) ∧ (y2 = true → 0 < 2) ∧ (y2 = true → y2 = true) ∧ (y2 = true → y2 = true) ∧ ((decide (((2 : Nat) : Int) = 2)) = true) ∧ (y2 = true) ∧ (((decide ((((luS 2 (fun r c => ((litLL [[0, 2], [3, 4]] r c : Int) : Rat)) 2).2.2.1 0 : Nat) : Int) = 1)) == true) = true → ((decide ((((luS 2 (fun r c => ((litLL [[0, 2], [3, 4]] r c : Int) : Rat)) 2).2.2.1 0 : Nat) : Int) = 1)) == true) = true) ∧ (((decide ((((luS 2 (fun r c => ((litLL [[0, 2], [3, 4]] r c : Int) : Rat)) 2).2.2.1 0 : Nat) : Int) = 1)) == true) = true → _) ∧ (((decide ((((luS 2 (fun r c => ((litLL [[0, 2], [3, 4]] r c : Int) : Rat)) 2).2.2.1 0 : Nat) : Int) = 1)) == true) = true → ((decide ((((luS 2 (fun r c => ((litLL [[0, 2], [3, 4]] r c : Int) : Rat)) 2).2.2.1 0 : Nat) : Int) = 1)) == true) = true) ∧ (((decide ((((luS 2 (fun r c => ((litLL [[0, 2], [3, 4]] r c : Int) : Rat)) 2).2.2.1 0 : Nat) : Int) = 1)) == true) = true → ((decide ((((luS 2 (fun r c => ((litLL [[0, 2], [3, 4]] r c : Int) : Rat)) 2).2.2.1 0 : Nat) : Int) = 1)) == true) = true) ∧ (((decide ((((luS 2 (fun r c => ((litLL [[0, 2], [3, 4]] r c : Int) : Rat)) 2).2.2.1 0 : Nat) : Int) = 1)) == true) = true → _) ∧ ((decide ((((luS 2 (fun r c => ((litLL [[0, 2], [3, 4]] r c : Int) : Rat)) 2).2.2.1 0 : Nat) : Int) = 1)) = true) ∧ (((decide ((((luS 2 (fun r c => ((litLL [[0, 2], [3, 4]] r c : Int) : Rat)) 2).2.2.1 0 : Nat) : Int) = 1)) == true) = true) ∧ ((y0 == true) = true → (y0 == true) = true) ∧ ((y0 == true) = true → _) ∧ ((y0 == true) = true → (y0 == true) = true) ∧ ((y0 == true) = true → (y0 == true) = true) ∧ ((y0 == true) = true → _) ∧ (y0 = true) ∧ ((y0 == true) = true) ∧ ((y1 == true) = true → (y1 == true) = true) ∧ ((y1 == true) = true → _) ∧ ((y1 == true) = true → (y1 == true) = true) ∧ ((y1 == true) = true → _) ∧ (y1 = true) ∧ ((y1 == true) = true) ∧ ((decide ((if (luS 2 (fun r c => ((litLL [[0, 2], [3, 4]] r c : Int) : Rat)) 2).2.2.2.2 = true then -(prodD (luS 2 (fun r c => ((litLL [[0, 2], [3, 4]] r c : Int) : Rat)) 2).1 2) else prodD (luS 2 (fun r c => ((litLL [[0, 2], [3, 4]] r c : Int) : Rat)) 2).1 2) = Rat.divInt (-6) 1)) = true) ∧ (((decide ((if (luS 2 (fun r c => ((litLL [[0, 2], [3, 4]] r c : Int) : Rat)) 2).2.2.2.2 = true then -(prodD (luS 2 (fun r c => ((litLL [[0, 2], [3, 4]] r c : Int) : Rat)) 2).1 2) else prodD (luS 2 (fun r c => ((litLL [[0, 2], [3, 4]] r c : Int) : Rat)) 2).1 2) = Rat.divInt (-6) 1)) == true) = true) ∧ (y3 = true → (1 : Int) = (litI [1, 1] 0)) ∧ (y3 = true → (1 : Int) = (litI [1, 1] 1)) ∧ (y3 = true → y3 = true) ∧ (y3 = true → _) ∧ (y3 = true → y3 = true) ∧ (y3 = true → y3 = true) ∧ (y3 = true → _) ∧ (true = true) ∧ (y3 = true) ∧ ((decide (2 = 2 ∧ ∀ j : Nat, j < 2 → (luX 2 (luS 2 (fun r c => ((litLL [[0, 2], [3, 4]] r c : Int) : Rat)) 2).1 (luS 2 (fun r c => ((litLL [[0, 2], [3, 4]] r c : Int) : Rat)) 2).2.1 (fun i => (fun i => (((litI [2, 7]) i : Int) : Rat)) ((luS 2 (fun r c => ((litLL [[0, 2], [3, 4]] r c : Int) : Rat)) 2).2.2.1 i)) j : Rat) = (((litI [1, 1]) j : Int) : Rat))) = true) ∧ (((decide (2 = 2 ∧ ∀ j : Nat, j < 2 → (luX 2 (luS 2 (fun r c => ((litLL [[0, 2], [3, 4]] r c : Int) : Rat)) 2).1 (luS 2 (fun r c => ((litLL [[0, 2], [3, 4]] r c : Int) : Rat)) 2).2.1 (fun i => (fun i => (((litI [2, 7]) i : Int) : Rat)) ((luS 2 (fun r c => ((litLL [[0, 2], [3, 4]] r c : Int) : Rat)) 2).2.2.1 i)) j : Rat) = (((litI [1, 1]) j : Int) : Rat))) == true) = true) ∧ (y3 = true → (1 : Int) = (litI [1, 1] 0)) ∧ (y3 = true → (1 : Int) = (litI [1, 1] 1)) ∧ (y3 = true → y3 = true) ∧ (y3 = true → _) ∧ (y3 = true → y3 = true) ∧ (y3 = true → y3 = true) ∧ (y3 = true → _) ∧ (true = true) ∧ (y3 = true) ∧ (((decide (2 = 2 ∧ ∀ j : Nat, j < 2 → (luW 2 (luS 2 (fun r c => ((litLL [[0, 2], [3, 4]] r c : Int) : Rat)) 2).1 (luS 2 (fun r c => ((litLL [[0, 2], [3, 4]] r c : Int) : Rat)) 2).2.1 (fun i => (((litI [3, 6]) i : Int) : Rat)) ((luS 2 (fun r c => ((litLL [[0, 2], [3, 4]] r c : Int) : Rat)) 2).2.2.2.1 j) : Rat) = (((litI [1, 1]) j : Int) : Rat)) : Bool) = true))) (by kernel_rfl)
  ⟨rfl, ⟨rfl, ⟨(sVecOf (n := 2) (a := (litI [0, 2])) (by decide) (by decide +kernel)).frzV, ⟨rfl, ⟨rfl, ⟨(sVecOf (n := 2) (a := (litI [3, 4])) (by decide) (by decide +kernel)).frzV, ⟨(rf 2), ⟨(fun j0 hj0 => rfl), ⟨(rf 2), ⟨(fun j0 hj0 => rfl), ⟨(sMatOf (q := fun r c => ((litLL [[0, 2], [3, 4]] r c : Int) : Rat)) (by decide) (by decide)), ⟨(sLuFactor (n := 2) (q := (fun r c => ((litLL [[0, 2], [3, 4]] r c : Int) : Rat))) (by decide) (lu_hH (by unfold HtB; decide +kernel) (by decide)) (by unfold luOK; decide +kernel)), ⟨id, ⟨(by decide +kernel), ⟨(by decide +kernel), ⟨rfl, ⟨(sLuPerm (U := ((luS 2 (fun r c => (((litLL [[0, 2], [3, 4]] r c) : Int) : Rat)) 2).1)) (L := (luS 2 (fun r c => (((litLL [[0, 2], [3, 4]] r c) : Int) : Rat)) 2).2.1) (P := (luS 2 (fun r c => (((litLL [[0, 2], [3, 4]] r c) : Int) : Rat)) 2).2.2.1) (o := ((luS 2 (fun r c => (((litLL [[0, 2], [3, 4]] r c) : Int) : Rat)) 2).2.2.2.2)) (n := 2) (by decide)), ⟨rfl, ⟨rfl, ⟨(sVecOf (n := 2) (a := (litI [3, 4])) (by decide) (by decide +kernel)).frzV, ⟨rfl, ⟨rfl, ⟨(sVecOf (n := 2) (a := (litI [0, 2])) (by decide) (by decide +kernel)).frzV, ⟨(rf 2), ⟨(fun j0 hj0 => rfl), ⟨(rf 2), ⟨(fun j0 hj0 => rfl), ⟨(sMatOf (q := fun r c => ((litLL [[3, 4], [0, 2]] r c : Int) : Rat)) (by decide) (by decide)), ⟨sMatOne (by decide), ⟨rfl, ⟨rfl, ⟨(sVecOf (n := 2) (a := (litI [2, 7])) (by decide) (by decide +kernel)).frzV, ⟨(sLuSolve (U := ((luS 2 (fun r c => (((litLL [[0, 2], [3, 4]] r c) : Int) : Rat)) 2).1)) (L := (luS 2 (fun r c => (((litLL [[0, 2], [3, 4]] r c) : Int) : Rat)) 2).2.1) (o := ((luS 2 (fun r c => (((litLL [[0, 2], [3, 4]] r c) : Int) : Rat)) 2).2.2.2.2)) (n := 2) (b := (fun i => (((litI [2, 7]) i : Int) : Rat))) (P := (luS 2 (fun r c => ((litLL [[0, 2], [3, 4]] r c : Int) : Rat)) 2).2.2.1) (by decide) (lu_bij _ (Nat.le_refl _) (by unfold luOK; decide +kernel)).lt (lu_hL (by unfold HtB; decide +kernel) (by decide) (by unfold luOK; decide +kernel)) (lu_hU (by unfold HtB; decide +kernel) (by decide) (by unfold luOK; decide +kernel)) (by decide +kernel)).frzV2, ⟨rfl, ⟨rfl, ⟨(sVecOf (n := 2) (a := (litI [3, 6])) (by decide) (by decide +kernel)).frzV, ⟨(sLuSolveT (U := ((luS 2 (fun r c => (((litLL [[0, 2], [3, 4]] r c) : Int) : Rat)) 2).1)) (L := (luS 2 (fun r c => (((litLL [[0, 2], [3, 4]] r c) : Int) : Rat)) 2).2.1) (P := (luS 2 (fun r c => (((litLL [[0, 2], [3, 4]] r c) : Int) : Rat)) 2).2.2.1) (o := ((luS 2 (fun r c => (((litLL [[0, 2], [3, 4]] r c) : Int) : Rat)) 2).2.2.2.2)) (n := 2) (b := (fun i => (((litI [3, 6]) i : Int) : Rat))) (ρ := (luS 2 (fun r c => ((litLL [[0, 2], [3, 4]] r c : Int) : Rat)) 2).2.2.2.1) (by decide) (lu_bij _ (Nat.le_refl _) (by unfold luOK; decide +kernel)) (lu_hL (by unfold HtB; decide +kernel) (by decide) (by unfold luOK; decide +kernel)) (lu_hU (by unfold HtB; decide +kernel) (by decide) (by unfold luOK; decide +kernel)) (by decide +kernel)).frzV2, ⟨id, ⟨(fun hg => rfl), ⟨(fun hg => zo), ⟨id, ⟨id, ⟨(by decide +kernel), ⟨(by decide +kernel), ⟨id, ⟨(fun hg => (sLuUpper (U := ((luS 2 (fun r c => (((litLL [[0, 2], [3, 4]] r c) : Int) : Rat)) 2).1)) (L := (luS 2 (fun r c => (((litLL [[0, 2], [3, 4]] r c) : Int) : Rat)) 2).2.1) (P := (luS 2 (fun r c => (((litLL [[0, 2], [3, 4]] r c) : Int) : Rat)) 2).2.2.1) (o := ((luS 2 (fun r c => (((litLL [[0, 2], [3, 4]] r c) : Int) : Rat)) 2).2.2.2.2)) (n := 2) (by decide))), ⟨id, ⟨id, ⟨(fun hg => (sMatSame (m := 2) (n := 2) (k := 2) (l := 2) (p := (fun r c => ((luS 2 (fun r c => ((litLL [[0, 2], [3, 4]] r c : Int) : Rat)) 2).1) r c)) (q := (fun r c => ((litLL [[3, 4], [0, 2]] r c : Int) : Rat))) (by decide) (by decide) (by decide +kernel))), ⟨(by decide +kernel), ⟨(by decide +kernel), ⟨id, ⟨(fun hg => (sLuLower (U := ((luS 2 (fun r c => (((litLL [[0, 2], [3, 4]] r c) : Int) : Rat)) 2).1)) (L := (luS 2 (fun r c => (((litLL [[0, 2], [3, 4]] r c) : Int) : Rat)) 2).2.1) (P := (luS 2 (fun r c => (((litLL [[0, 2], [3, 4]] r c) : Int) : Rat)) 2).2.2.1) (o := ((luS 2 (fun r c => (((litLL [[0, 2], [3, 4]] r c) : Int) : Rat)) 2).2.2.2.2)) (n := 2) (by decide))), ⟨id, ⟨id, ⟨(fun hg => (sMatSame (m := 2) (n := 2) (k := 2) (l := 2) (p := (fun r c => ((luS 2 (fun r c => ((litLL [[0, 2], [3, 4]] r c : Int) : Rat)) 2).2.1) r c)) (q := idQ) (by decide) (by decide) (by decide +kernel))), ⟨(by decide +kernel), ⟨(by decide +kernel), ⟨id, ⟨(fun hg => (sLuDet (U := ((luS 2 (fun r c => (((litLL [[0, 2], [3, 4]] r c) : Int) : Rat)) 2).1)) (L := (luS 2 (fun r c => (((litLL [[0, 2], [3, 4]] r c) : Int) : Rat)) 2).2.1) (P := (luS 2 (fun r c => (((litLL [[0, 2], [3, 4]] r c) : Int) : Rat)) 2).2.2.1) (o := ((luS 2 (fun r c => (((litLL [[0, 2], [3, 4]] r c) : Int) : Rat)) 2).2.2.2.2)) (n := 2) (by decide) (by decide +kernel))), ⟨id, ⟨(fun hg => sIs (q := (if (luS 2 (fun r c => (((litLL [[0, 2], [3, 4]] r c) : Int) : Rat)) 2).2.2.2.2 = true then - (prodD (luS 2 (fun r c => (((litLL [[0, 2], [3, 4]] r c) : Int) : Rat)) 2).1 2) else prodD (luS 2 (fun r c => (((litLL [[0, 2], [3, 4]] r c) : Int) : Rat)) 2).1 2)) (p := -6) (d := 1) (by decide +kernel) (by decide +kernel) (by decide +kernel) (by decide +kernel)), ⟨(by decide +kernel), ⟨(by decide +kernel), ⟨(by decide +kernel), ⟨(by decide +kernel), ⟨(fun hg => rfl), ⟨(fun hg => rfl), ⟨id, ⟨(fun hg => (sVecOf (n := 2) (a := (litI [1, 1])) (by decide) (by decide +kernel)).frzV), ⟨id, ⟨id, ⟨(fun hg => (sVecSame (n := 2) (m := 2) (a := (fun i => luX 2 (luS 2 (fun r c => ((litLL [[0, 2], [3, 4]] r c : Int) : Rat)) 2).1 (luS 2 (fun r c => ((litLL [[0, 2], [3, 4]] r c : Int) : Rat)) 2).2.1 (fun i => (fun i => (((litI [2, 7]) i : Int) : Rat)) ((luS 2 (fun r c => ((litLL [[0, 2], [3, 4]] r c : Int) : Rat)) 2).2.2.1 i)) i)) (b := (fun i => (((litI [1, 1]) i : Int) : Rat))) (by decide) (by decide +kernel))), ⟨(by decide +kernel), ⟨(by decide +kernel), ⟨(by decide +kernel), ⟨(by decide +kernel), ⟨(fun hg => rfl), ⟨(fun hg => rfl), ⟨id, ⟨(fun hg => (sVecOf (n := 2) (a := (litI [1, 1])) (by decide) (by decide +kernel)).frzV), ⟨id, ⟨id, ⟨(fun hg => (sVecSame (n := 2) (m := 2) (a := (fun i => luW 2 (luS 2 (fun r c => ((litLL [[0, 2], [3, 4]] r c : Int) : Rat)) 2).1 (luS 2 (fun r c => ((litLL [[0, 2], [3, 4]] r c : Int) : Rat)) 2).2.1 (fun i => (((litI [3, 6]) i : Int) : Rat)) ((luS 2 (fun r c => ((litLL [[0, 2], [3, 4]] r c : Int) : Rat)) 2).2.2.2.1 i))) (b := (fun i => (((litI [1, 1]) i : Int) : Rat))) (by decide) (by decide +kernel))), ⟨(by decide +kernel), ⟨(by decide +kernel), (by decide +kernel)⟩⟩⟩⟩⟩⟩⟩⟩⟩⟩⟩⟩⟩⟩⟩⟩⟩⟩⟩⟩⟩⟩⟩⟩⟩⟩⟩⟩⟩⟩⟩⟩⟩⟩⟩⟩⟩⟩⟩⟩⟩⟩⟩⟩⟩⟩⟩⟩⟩⟩⟩⟩⟩⟩⟩⟩⟩⟩⟩⟩⟩⟩⟩⟩⟩⟩⟩⟩⟩⟩⟩⟩⟩⟩⟩⟩⟩⟩⟩⟩⟩⟩⟩⟩⟩⟩
def dg (x i : Nat) : Nat := x / 2 ^ (16 * i) % 65536
def nd (x : Nat) : Nat := (Wd.blen x + 15) / 16
theorem nd_le (x k : Nat) : nd x ≤ k ↔ x < 2 ^ (16 * k) := by
 rw [← Wd.blen_le]; unfold nd; omega
theorem lt_nd (x : Nat) : x < 2 ^ (16 * nd x) := (nd_le x _).1 (Nat.le_refl _)
theorem lt_nd_of {x n : Nat} (h : nd x ≤ n) : x < 2 ^ (16 * n) := (nd_le x n).1 h
theorem nd_eq_zero (x : Nat) : nd x = 0 ↔ x = 0 := by
 constructor
 ·intro h
  have := (nd_le x 0).1 zo
  simpa using this
 ·rintro rfl; rfl
theorem nd_nw (x : Nat) : nd x ≤ 4 * nw x := by unfold nd nw; omega
theorem nw_nd (x : Nat) : nw x = (nd x + 3) / 4 := by unfold nd nw; omega
theorem p16 (n : Nat) : 2 ^ (16 * (n + 1)) = 65536 * 2 ^ (16 * n) := by
 rw [show 16 * (n + 1) = 16 + 16 * n by omega, Nat.pow_add]
theorem p16_pos (n : Nat) : 0 < 2 ^ (16 * n) := Nat.pow_pos (by decide)
theorem dg_lt (x i : Nat) : dg x i < 65536 := Nat.mod_lt _ (by decide)
theorem dg_zero {x i : Nat} (h : x < 2 ^ (16 * i)) : dg x i = 0 := by unfold dg; rw [Nat.div_eq_of_lt h]
theorem dg_nd {x i : Nat} (h : nd x ≤ i) : dg x i = 0 := dg_zero (lt_nd_of h)
theorem div16 (x n : Nat) : x / 2 ^ (16 * (n + 1)) = x / 2 ^ (16 * n) / 65536 := by
 rw [Nat.div_div_eq_div_mul, p16, Nat.mul_comm]
theorem dg_split (x n : Nat) : x / 2 ^ (16 * n) = x / 2 ^ (16 * (n + 1)) * 65536 + dg x n := by
 unfold dg; rw [div16]; omega
theorem nd_step {x n : Nat} (h : x < 2 ^ (16 * (n + 1))) (e : dg x n = 0) : x < 2 ^ (16 * n) := by
 have h1 := dg_split x n
 rw [Nat.div_eq_of_lt h, e] at h1
 exact (Nat.div_eq_zero_iff_lt (p16_pos n)).1 zo
theorem nd_top {x n : Nat} (h : x < 2 ^ (16 * (n + 1))) (e : dg x n ≠ 0) : nd x = n + 1 := by
 have h1 := (nd_le x (n + 1)).2 h
 by_cases h2 : nd x ≤ n
 ·exact absurd (dg_nd h2) e
 ·omega
theorem nd_end {x n : Nat} (h : x < 2 ^ (16 * n)) (e : n = 0 ∨ dg x (n - 1) ≠ 0) : nd x = n := by
 cases n with
 | zero => have := (nd_le x 0).2 h; omega
 | succ n => exact nd_top h (by rcases e with e | e; exact absurd e zo; simpa using e)
theorem nd_last {x : Nat} (h : x ≠ 0) : dg x (nd x - 1) ≠ 0 := fun e => by
 have h0 : nd x ≠ 0 := fun e => h ((nd_eq_zero x).1 e)
 have h1 := lt_nd x
 rw [show nd x = nd x - 1 + 1 by omega] at h1
 have := (nd_le x (nd x - 1)).2 (nd_step h1 e)
 omega
def cry (x y g : Nat) : Nat := (x % 2 ^ (16 * g) + y % 2 ^ (16 * g)) / 2 ^ (16 * g)
theorem cry_zero (x y : Nat) : cry x y 0 = 0 := by simp [cry, Nat.mod_one]
theorem add_div (x y g : Nat) : (x + y) / 2 ^ (16 * g) = x / 2 ^ (16 * g) + y / 2 ^ (16 * g) + cry x y g := by
 unfold cry
 have hp := p16_pos g
 generalize 2 ^ (16 * g) = B at *
 have h1 := Nat.div_add_mod x B
 have h2 := Nat.div_add_mod y B
 have : x + y = (x % B + y % B) + (x / B + y / B) * B := by rw [Nat.add_mul]; have := Nat.mul_comm B (x / B); have := Nat.mul_comm B (y / B); omega
 rw [this, Nat.add_mul_div_right _ _ hp]; omega
theorem cry_step (x y g : Nat) : (dg x g + dg y g + cry x y g) / 65536 = cry x y (g + 1) ∧ (dg x g + dg y g + cry x y g) % 65536 = dg (x + y) g := by
 have h1 := add_div x y g
 have h2 := add_div x y (g + 1)
 have h3 := dg_split x g
 have h4 := dg_split y g
 have h5 := dg_split (x + y) g
 have h6 := dg_lt (x + y) g
 omega
theorem cry_le (x y g : Nat) : cry x y g ≤ 1 := by
 unfold cry
 have hp := p16_pos g
 have h1 := Nat.mod_lt x hp
 have h2 := Nat.mod_lt y hp
 generalize 2 ^ (16 * g) = B at *
 have := (Nat.div_lt_iff_lt_mul (k := B) (x := x % B + y % B) (y := 2) hp).2 zo
 omega
theorem cry_top {x y g : Nat} (h1 : nd x ≤ g) (h2 : nd y ≤ g) (h : cry x y g = 0) : x + y < 2 ^ (16 * g) := by
 have := add_div x y g
 rw [Nat.div_eq_of_lt (lt_nd_of h1), Nat.div_eq_of_lt (lt_nd_of h2), h] at this
 exact (Nat.div_eq_zero_iff_lt (p16_pos g)).1 zo
theorem cry_over {x y g : Nat} (h1 : nd x < g) (h2 : nd y < g) : cry x y g = 0 := by
 have h3 : x < 2 ^ (16 * (g - 1)) := lt_nd_of zo
 have h4 : y < 2 ^ (16 * (g - 1)) := lt_nd_of zo
 have h5 := p16 (g - 1)
 rw [show g - 1 + 1 = g by omega] at h5
 unfold cry
 rw [Nat.mod_eq_of_lt zo, Nat.mod_eq_of_lt zo]
 exact Nat.div_eq_of_lt zo
def brw (x y g : Nat) : Nat := if x % 2 ^ (16 * g) < y % 2 ^ (16 * g) then 1 else 0
theorem brw_zero (x y : Nat) : brw x y 0 = 0 := by simp [brw, Nat.mod_one]
theorem sub_div {x y : Nat} (h : y ≤ x) (g : Nat) : (x - y) / 2 ^ (16 * g) + y / 2 ^ (16 * g) + brw x y g = x / 2 ^ (16 * g) := by
 have hp := p16_pos g
 unfold brw
 generalize 2 ^ (16 * g) = B at *
 have h1 := Nat.div_add_mod x B
 have h2 := Nat.div_add_mod y B
 have h3 := Nat.mod_lt x hp
 have h4 := Nat.mod_lt y hp
 have h5 : y / B ≤ x / B := Nat.div_le_div_right h
 have key : ∀ q r, q * B + r = x - y → r < B → (x - y) / B = q := by
  intro q r e hr
  rw [← e, Nat.add_comm, Nat.add_mul_div_right _ _ hp, Nat.div_eq_of_lt hr]; omega
 have e1 : (x / B - y / B) * B = B * (x / B) - B * (y / B) := by rw [Nat.mul_comm, Nat.mul_sub]
 have e2 : B * (y / B) ≤ B * (x / B) := Nat.mul_le_mul_left _ h5
 split
 ·rename_i hlt
  have h6 : y / B < x / B := by
   apply Nat.lt_of_le_of_ne h5
   intro e
   rw [e] at h2
   omega
  have e3 : (x / B - y / B - 1) * B = (x / B - y / B) * B - B := by rw [Nat.sub_mul]; omega
  have e4 : B ≤ (x / B - y / B) * B := Nat.le_mul_of_pos_left _ zo
  have := key (x / B - y / B - 1) (x % B + B - y % B) zo zo
  omega
 ·have := key (x / B - y / B) (x % B - y % B) zo zo
  omega
theorem brw_le (x y g : Nat) : brw x y g ≤ 1 := by unfold brw; split <;> omega
theorem brw_step {x y : Nat} (h : y ≤ x) (g : Nat) : (dg x g < dg y g + brw x y g → brw x y (g + 1) = 1 ∧ dg x g + 65536 = dg (x - y) g + dg y g + brw x y g) ∧ (¬ dg x g < dg y g + brw x y g → brw x y (g + 1) = 0 ∧ dg x g = dg (x - y) g + dg y g + brw x y g) := by
 have h1 := sub_div h g
 have h2 := sub_div h (g + 1)
 have h3 := dg_split x g
 have h4 := dg_split y g
 have h5 := dg_split (x - y) g
 have h6 := dg_lt (x - y) g
 have h7 := dg_lt x g
 have h8 := dg_lt y g
 have h9 := brw_le x y g
 have h10 := brw_le x y (g + 1)
 omega
def cryM (x m a g : Nat) : Nat := (x % 2 ^ (16 * g) * m + a) / 2 ^ (16 * g)
theorem cryM_zero (x m a : Nat) : cryM x m a 0 = a := by simp [cryM, Nat.mod_one]
theorem mul_div' (x m a g : Nat) : (x * m + a) / 2 ^ (16 * g) = x / 2 ^ (16 * g) * m + cryM x m a g := by
 unfold cryM
 have hp := p16_pos g
 generalize 2 ^ (16 * g) = B at *
 have h1 := Nat.div_add_mod x B
 have : x * m + a = (x % B * m + a) + x / B * m * B := by
  conv => lhs; rw [← h1, Nat.add_mul, Nat.mul_comm B, Nat.mul_right_comm]
  omega
 rw [this, Nat.add_mul_div_right _ _ hp]; omega
theorem cryM_step (x m a g : Nat) : (dg x g * m + cryM x m a g) / 65536 = cryM x m a (g + 1) ∧ (dg x g * m + cryM x m a g) % 65536 = dg (x * m + a) g := by
 have h1 := mul_div' x m a g
 have h2 := mul_div' x m a (g + 1)
 have h3 := dg_split x g
 have h5 := dg_split (x * m + a) g
 have h6 := dg_lt (x * m + a) g
 have h7 : x / 2 ^ (16 * g) * m = x / 2 ^ (16 * (g + 1)) * m * 65536 + dg x g * m := by
  conv => lhs; rw [h3, Nat.add_mul, Nat.mul_right_comm]
 generalize x / 2 ^ (16 * g) * m = u at *
 generalize x / 2 ^ (16 * (g + 1)) * m = v at *
 generalize dg x g * m = w at *
 omega
theorem cryM_le {x m a g : Nat} : cryM x m a g ≤ m + a := by
 unfold cryM
 have hp := p16_pos g
 have h1 := Nat.mod_lt x hp
 generalize 2 ^ (16 * g) = B at *
 have h2 : x % B * m ≤ B * m := Nat.mul_le_mul_right _ (Nat.le_of_lt h1)
 have h3 : a ≤ B * a := Nat.le_mul_of_pos_left _ hp
 apply Nat.div_le_of_le_mul
 rw [Nat.mul_add]; omega
theorem dgm_le {x m i : Nat} (hm : m ≤ 65536) : dg x i * m ≤ 4294967296 := by
 have := Nat.mul_le_mul (Nat.le_of_lt (dg_lt x i)) hm
 omega
theorem cryM_top {x m a n : Nat} (h : x < 2 ^ (16 * n)) : (x * m + a) / 2 ^ (16 * n) = cryM x m a n := by
 have := mul_div' x m a n
 rw [Nat.div_eq_of_lt h] at this
 omega
theorem cryM_end {x m a n : Nat} (h : x < 2 ^ (16 * n)) (hm : m + a < 4294967296) : x * m + a < 2 ^ (16 * (n + 2)) ∧ cryM x m a n % 65536 = dg (x * m + a) n ∧ cryM x m a n / 65536 = dg (x * m + a) (n + 1) := by
 have h1 := cryM_top (m := m) (a := a) h
 have h2 := cryM_le (x := x) (m := m) (a := a) (g := n)
 have h3 := div16 (x * m + a) n
 have h4 := div16 (x * m + a) (n + 1)
 refine ⟨(Nat.div_eq_zero_iff_lt (p16_pos _)).1 (by show _ / 2 ^ (16 * (n + 1 + 1)) = 0; omega), by unfold dg; rw [h1], by unfold dg; omega⟩
theorem half_step {x m : Nat} (hm : 0 < m) (g : Nat) : (x / 2 ^ (16 * (g + 1)) % m * 65536 + dg x g) % m = x / 2 ^ (16 * g) % m ∧ (x / 2 ^ (16 * (g + 1)) % m * 65536 + dg x g) / m = dg (x / m) g := by
 have h1 := dg_split x g
 have h2 := dg_lt x g
 have h3 : ∀ n, x / m / 2 ^ (16 * n) = x / 2 ^ (16 * n) / m := fun n => by rw [Nat.div_div_eq_div_mul, Nat.div_div_eq_div_mul, Nat.mul_comm]
 generalize hu : x / 2 ^ (16 * (g + 1)) = u at *
 generalize hd : dg x g = d at *
 have h4 := Nat.div_add_mod u m
 have h5 := Nat.mod_lt u hm
 have e : u * 65536 + d = (u % m * 65536 + d) + u / m * 65536 * m := by
  conv => lhs; rw [← h4, Nat.add_mul, Nat.mul_comm m, Nat.mul_right_comm]
  omega
 refine ⟨by rw [h1, e, Nat.add_mul_mod_self_right], ?_⟩
 unfold dg
 rw [h3, h1, e, Nat.add_mul_div_right _ _ hm]
 have : (u % m * 65536 + d) / m < 65536 := (Nat.div_lt_iff_lt_mul hm).2 (by have := Nat.mul_le_mul_right 65536 (show u % m + 1 ≤ m by omega); rw [Nat.mul_comm 65536]; omega)
 generalize (u % m * 65536 + d) / m = A at *
 omega
theorem dg_mul_pow {x k i : Nat} : dg (x * 2 ^ k) i = if i < k / 16 then 0 else dg (x * 2 ^ (k % 16)) (i - k / 16) := by
 unfold dg
 split
 ·rename_i h
  rw [show k = 16 * i + (16 + (k - 16 * i - 16)) by omega, Nat.pow_add, Nat.mul_comm, Nat.mul_assoc, Nat.mul_div_cancel_left _ (p16_pos i), Nat.pow_add, Nat.mul_assoc]
  exact Nat.mul_mod_right _ _
 ·rename_i h
  have e : x * 2 ^ k = x * 2 ^ (k % 16) * 2 ^ (16 * (k / 16)) := by
   rw [Nat.mul_assoc, ← Nat.pow_add, show k % 16 + 16 * (k / 16) = k by omega]
  rw [e, show 16 * i = 16 * (k / 16) + 16 * (i - k / 16) by omega, Nat.pow_add, ← Nat.div_div_eq_div_mul, Nat.mul_div_cancel _ (p16_pos _)]
theorem mul_pow_lt {x k : Nat} : x * 2 ^ k < 2 ^ (16 * (k / 16 + nd (x * 2 ^ (k % 16)))) := by
 have h := lt_nd (x * 2 ^ (k % 16))
 have e : x * 2 ^ k = x * 2 ^ (k % 16) * 2 ^ (16 * (k / 16)) := by
  rw [Nat.mul_assoc, ← Nat.pow_add, show k % 16 + 16 * (k / 16) = k by omega]
 rw [e, Nat.mul_add, Nat.pow_add, Nat.mul_comm]
 exact Nat.mul_lt_mul_of_pos_left h (p16_pos _)
theorem nd_mul (x y : Nat) : nd (x * y) ≤ nd x + nd y := by
 rw [nd_le, Nat.mul_add, Nat.pow_add]
 exact Nat.mul_lt_mul'' (lt_nd x) (lt_nd y)
theorem nd_mono {x y : Nat} (h : x ≤ y) : nd x ≤ nd y := (nd_le x _).2 (Nat.lt_of_le_of_lt h (lt_nd y))
theorem nd_add (x y : Nat) : nd (x + y) ≤ max (nd x) (nd y) + 1 := by
 rw [nd_le, p16]
 have h1 := lt_nd_of (Nat.le_max_left (nd x) (nd y))
 have h2 := lt_nd_of (Nat.le_max_right (nd x) (nd y))
 omega
theorem nd_pow (k : Nat) : nd (2 ^ k) = k / 16 + 1 := by
 have h : Wd.blen (2 ^ k) = k + 1 := Wd.blen_eq _ _ (Nat.pow_lt_pow_right (by decide) (Nat.lt_succ_self k)) (Nat.le_refl _)
 unfold nd; rw [h]; omega
def cmpN (x y : Nat) : Int := if x < y then -1 else if x = y then 0 else 1
theorem cmpN_len {x y : Nat} (h : nd x < nd y) : cmpN x y = -1 := by
 unfold cmpN
 rw [if_pos]
 by_cases e : x < y
 ·exact e
 ·have := nd_mono (Nat.le_of_not_lt e); omega
theorem cmpN_len' {x y : Nat} (h : nd y < nd x) : cmpN x y = 1 := by
 unfold cmpN
 have : ¬ x < y := fun e => by have := nd_mono (Nat.le_of_lt e); omega
 rw [if_neg this, if_neg (fun e => by subst e; omega)]
theorem lt_of_dg {x y g : Nat} (e : x / 2 ^ (16 * (g + 1)) = y / 2 ^ (16 * (g + 1))) (h : dg x g < dg y g) : x < y := by
 have h1 := dg_split x g
 have h2 := dg_split y g
 by_cases c : x < y
 ·exact c
 ·have := Nat.div_le_div_right (c := 2 ^ (16 * g)) (Nat.le_of_not_lt c)
  omega
theorem cmpN_lt {x y g : Nat} (e : x / 2 ^ (16 * (g + 1)) = y / 2 ^ (16 * (g + 1))) (h : dg x g < dg y g) : cmpN x y = -1 := if_pos (lt_of_dg e h)
theorem cmpN_gt {x y g : Nat} (e : x / 2 ^ (16 * (g + 1)) = y / 2 ^ (16 * (g + 1))) (h : dg y g < dg x g) : cmpN x y = 1 := by
 have := lt_of_dg e.symm h
 unfold cmpN
 rw [if_neg zo, if_neg zo]
theorem eq_step16 {x y g : Nat} (e : x / 2 ^ (16 * (g + 1)) = y / 2 ^ (16 * (g + 1))) (h1 : ¬ dg x g < dg y g) (h2 : ¬ dg y g < dg x g) : x / 2 ^ (16 * g) = y / 2 ^ (16 * g) := by
 rw [dg_split x g, dg_split y g, e, show dg x g = dg y g by omega]
theorem cmpN_self {x y : Nat} (e : x / 2 ^ (16 * 0) = y / 2 ^ (16 * 0)) : cmpN x y = 0 := by
 simp at e; subst e; unfold cmpN; rw [if_neg zo, if_pos rfl]
theorem cmpN_ge {x y : Nat} : (0 ≤ cmpN x y) ↔ y ≤ x := by
 unfold cmpN
 split
 ·omega
 ·split <;> omega
theorem cmpN_neg {x y : Nat} : (cmpN x y < 0) ↔ x < y := by
 unfold cmpN
 split
 ·omega
 ·split <;> omega
theorem cmpN_zero {x y : Nat} : (cmpN x y = 0) ↔ x = y := by
 unfold cmpN
 split
 ·omega
 ·split <;> omega
theorem bits_step (x g : Nat) : x / 2 ^ g = x / 2 ^ (g + 1) * 2 + x / 2 ^ g % 2 := by
 rw [Nat.pow_succ, ← Nat.div_div_eq_div_mul]; omega
theorem div_bit {n d r q b : Nat} (hd : 0 < d) (hq : q = n / d) (hr : r = n % d) (hb : b ≤ 1) : (r * 2 + b < d → (n * 2 + b) / d = q * 2 ∧ (n * 2 + b) % d = r * 2 + b) ∧ (d ≤ r * 2 + b → (n * 2 + b) / d = q * 2 + 1 ∧ (n * 2 + b) % d = r * 2 + b - d) := by
 have h1 := Nat.div_add_mod n d
 have h2 := Nat.mod_lt n hd
 rw [← hq, ← hr] at h1
 rw [← hr] at h2
 have key : ∀ q' r', q' * d + r' = n * 2 + b → r' < d → (n * 2 + b) / d = q' ∧ (n * 2 + b) % d = r' := by
  intro q' r' e hr'
  rw [← e, Nat.add_comm]
  exact ⟨by rw [Nat.add_mul_div_right _ _ hd, Nat.div_eq_of_lt hr']; omega, by rw [Nat.add_mul_mod_self_right, Nat.mod_eq_of_lt hr']⟩
 have e1 : q * 2 * d = d * q * 2 := by rw [Nat.mul_right_comm, Nat.mul_comm q d]
 have e2 : (q * 2 + 1) * d = d * q * 2 + d := by rw [Nat.add_mul, e1]; omega
 exact ⟨fun h => key _ _ zo h, fun h => key _ _ zo zo⟩
theorem bit_dg (x k : Nat) : dg x (k / 16) / 2 ^ (k % 16) % 2 = x / 2 ^ k % 2 := by
 unfold dg
 rw [show (65536 : Nat) = 2 ^ (k % 16) * 2 ^ (16 - k % 16) by rw [← Nat.pow_add, show k % 16 + (16 - k % 16) = 16 by omega], Nat.mod_mul_right_div_self, Nat.div_div_eq_div_mul, ← Nat.pow_add, show 16 * (k / 16) + k % 16 = k by omega]
 have : 2 ^ (16 - k % 16) = 2 * 2 ^ (16 - k % 16 - 1) := by rw [Nat.mul_comm, ← Nat.pow_succ, show (16 - k % 16 - 1).succ = 16 - k % 16 by omega]
 rw [this, Nat.mod_mul_right_mod]
theorem blen_dg {x : Nat} (h : x ≠ 0) : Wd.blen x = 16 * (nd x - 1) + Wd.blen (dg x (nd x - 1)) := by
 have h1 := Wd.blen_pos x h
 have h2 : nd x = (Wd.blen x + 15) / 16 := rfl
 have h3 : dg x (nd x - 1) = x / 2 ^ (16 * (nd x - 1)) := by
  have := div16 x (nd x - 1)
  rw [show nd x - 1 + 1 = nd x by omega, Nat.div_eq_of_lt (lt_nd x)] at this
  unfold dg; omega
 rw [h3]
 refine Wd.blen_shift x _ ?_
 rw [← h3]; exact nd_last h
theorem blen_half {x : Nat} (h : x ≠ 0) : Wd.blen x = Wd.blen (x / 2) + 1 := by
 by_cases h2 : x / 2 = 0
 ·rw [h2]
  have : x = 1 := by omega
  subst this; decide
 ·have := Wd.blen_shift x 1 (by simpa using h2)
  simp at this
  omega
theorem gcd_2_2 {a b : Nat} (ha : a % 2 = 0) (hb : b % 2 = 0) : Nat.gcd a b = Nat.gcd (a / 2) (b / 2) * 2 := by
 conv => lhs; rw [show a = 2 * (a / 2) by omega, show b = 2 * (b / 2) by omega]
 rw [Nat.gcd_mul_left, Nat.mul_comm]
theorem gcd_2_odd {a b : Nat} (ha : a % 2 = 0) (hb : b % 2 = 1) : Nat.gcd (a / 2) b = Nat.gcd a b := by
 conv => rhs; rw [show a = 2 * (a / 2) by omega]
 have : Nat.Coprime b 2 := by
  show Nat.gcd b 2 = 1
  rw [Nat.gcd_comm, Nat.gcd_rec, hb]; rfl
 rw [Nat.gcd_comm, Nat.gcd_comm (2 * (a / 2)), Nat.Coprime.gcd_mul_left_cancel_right (m := b) (a / 2) this.symm]
theorem gcd_sub_left' {a b : Nat} (h : b ≤ a) : Nat.gcd (a - b) b = Nat.gcd a b := by
 conv => rhs; rw [show a = a - b + b by omega]
 rw [Nat.gcd_add_self_left]
end Go.Proofs.YtlgbhpdblpekfaaGreat
