import Derived.Test.YtknflfnkdieomaaBases
import Derived.OwnWalk
import Derived.OneCell
import Derived.Maps.AppendAt
import Derived.WalkSmall
namespace Go.Proofs.Ytknflfnkdieomaa
open Go.RowKit

theorem intInfo : (Try.prog.info? 3).map (fun i => (i.zero, i.size, i.bytes)) = some (some (.int .i64 0), 1, 8) := by kernel_rfl
theorem info_parts' {P : Program} {t : TypeId} {z : Option Value} {s b : Nat} (h : (P.info? t).map (fun i => (i.zero, i.size, i.bytes)) = some (z, s, b)) : ∃ i, P.info? t = some i ∧ i.zero = z ∧ i.size = s ∧ i.bytes = b := by
  cases hi : P.info? t with
  | none => rw [hi] at h; cases h
  | some i =>
    rw [hi] at h
    simp only [Option.map_some, Option.some.injEq, Prod.mk.injEq] at h
    exact ⟨i, rfl, h.1, h.2.1, h.2.2⟩

def capped (k i M : Nat) : Nat := min (Ch.choose k i) (M + 1)
theorem capped_step (k i M : Nat) : capped (k + 1) (i + 1) M = min (capped k i M + capped k (i + 1) M) (M + 1) := by
  unfold capped; rw [Ch.cs]; omega
theorem capped_le (k i M : Nat) : capped k i M ≤ M + 1 := Nat.min_le_right _ _
theorem capped_zero (k M : Nat) : capped k 0 M = 1 := by unfold capped; rw [Ch.c0]; omega
theorem capped_self (k M : Nat) : capped k k M = 1 := by unfold capped; rw [Ch.self]; omega
def crow (k M : Nat) : List Value := (List.range (k + 1)).map fun i => Value.int .i64 (capped k i M : Nat)
theorem crow_length (k M : Nat) : (crow k M).length = k + 1 := by simp [crow]
theorem crow_at (k M i : Nat) (h : i < k + 1) : (crow k M)[i]? = some (.int .i64 (capped k i M : Nat)) := by
  simp [crow, h]
theorem crow_take (k M j : Nat) (h : j < k + 1) : (crow k M).take (j + 1) = (crow k M).take j ++ [.int .i64 (capped k j M : Nat)] := by
  rw [List.take_add_one, crow_at k M j h]; rfl
theorem crow_one (k M : Nat) : (crow k M).take 1 = [.int .i64 1] := by
  rw [crow_take k M 0 (by omega), capped_zero]; rfl
theorem crow_all (k M : Nat) : (crow (k + 1) M).take (k + 1) ++ [.int .i64 1] = crow (k + 1) M := by
  have := crow_take (k + 1) M (k + 1) (by omega)
  rw [capped_self] at this
  rw [show (1 : Int) = ((1 : Nat) : Int) from rfl, ← this]
  exact List.take_of_length_le (by rw [crow_length]; omega)
theorem bases_low (n m M : Nat) (h : capped n m M ≤ M) : Ch.basesV n m M = capped n m M ∧ Ch.basesB n m M = true := by
  unfold Ch.basesV Ch.basesB
  unfold capped at *
  have : Ch.choose n m ≤ M := by omega
  rw [if_pos this]
  exact ⟨by omega, decide_eq_true this⟩
theorem bases_high (n m M : Nat) (h : M < capped n m M) : Ch.basesV n m M = M + 1 ∧ Ch.basesB n m M = false := by
  unfold Ch.basesV Ch.basesB
  unfold capped at *
  have : ¬ Ch.choose n m ≤ M := by omega
  rw [if_neg this]
  exact ⟨rfl, decide_eq_false this⟩
theorem own_form {w : World} {base e size : Nat} {v : Value} {n : Nat} {xs : List Value} (h : w.ownsRow base e size v n xs) (hn : 0 < n) : ∃ g cap, v = .slice (some ⟨g, 0, none⟩) n cap ∧ base ≤ g ∧ g < w.heap.size := by
  rcases h.2 with ⟨_, h0⟩ | ⟨g, cap, cur, hv, hb, hh, _⟩
  · omega
  · refine ⟨g, cap, hv, hb, ?_⟩
    rcases Nat.lt_or_ge g w.heap.size with hl | hl
    · exact hl
    · rw [Array.getElem?_eq_none hl] at hh; cases hh

theorem own_base {w : World} {base base' e size : Nat} {v : Value} {n : Nat} {xs : List Value} (h : w.ownsRow base e size v n xs) (hb : base' ≤ base) : w.ownsRow base' e size v n xs := by
  refine ⟨h.1, ?_⟩
  rcases h.2 with h0 | ⟨g, cap, cur, hv, hg, r⟩
  · exact .inl h0
  · exact .inr ⟨g, cap, cur, hv, Nat.le_trans hb hg, r⟩
set_option maxHeartbeats 400000 in
theorem rBases_out (n m most : Int) (h : m < 0 ∨ n < m) (w : World) :
    Calls Try.prog 15 #[.int .i64 n, .int .i64 m, .int .i64 most] w fun e w' => e = .returned (.tuple #[.int .i64 0, .bool true]) ∧ Below w.heap.size w w' := by
  by_cases h1 : m < 0
  · clear h
    by_cases h2 : most < 0
    all_goals by_cases h3 : 1099511627776 < most
    all_goals
      go_enter Try.func15, Try.ntmps15
      go_wp2
      go_ret2
      exact ⟨rfl, Below.refl _ _⟩
  · have h4 : n < m := by omega
    clear h
    by_cases h2 : most < 0
    all_goals by_cases h3 : 1099511627776 < most
    all_goals
      go_enter Try.func15, Try.ntmps15
      go_wp2
      go_ret2
      exact ⟨rfl, Below.refl _ _⟩

set_option maxRecDepth 100000 in
set_option maxHeartbeats 2000000 in
theorem rBases_a (n m : Nat) (M : Nat) (hmj : m ≤ n) (hn : n ≤ 200) (hM : M ≤ 1099511627776) (w : World) :
    Calls Try.prog 15 #[.int .i64 n, .int .i64 m, .int .i64 M] w fun e w' => e = .returned (.tuple #[.int .i64 (Ch.basesV n m M), .bool (Ch.basesB n m M)]) ∧ Below w.heap.size w w' := by
  obtain ⟨i0, hi0, hz0, hz1, hz2⟩ := info_parts' intInfo
  have hmj' : (m : Int) ≤ n := by omega
  have d1 : decide (n < m) = false := decide_eq_false (by omega)
  have d2 : decide ((m : Int) < 0) = false := decide_eq_false (by omega)
  have d3 : decide ((M : Int) < 0) = false := decide_eq_false (by omega)
  have d4 : decide ((1099511627776 : Int) < M) = false := decide_eq_false (by omega)
  go_enter Try.func15, Try.ntmps15
  go_wp2_with fail
  go_loopw [8, 9] (fun r i wr => ∃ k cap g : Nat, i = .int .i64 k ∧ k ≤ n ∧ r = .slice (some ⟨g, 0, none⟩) (k + 1) cap ∧ wr.ownsRow w.heap.size 3 1 r (k + 1) (crow k M) ∧ Below w.heap.size w wr) (fun r i wr => (n - (intOf i).toNat))
  case atStart =>
    refine ⟨0, 1, w.heap.size, rfl, by omega, rfl, ?_, (Below.refl _ _).alloc (Nat.le_refl _) _⟩
    exact World.ownsRow_lit (base := w.heap.size) (size := 1) w #[.int .i64 1] 1 (Nat.le_refl _) (by unfold maxLen; omega) rfl
  case round =>
    obtain ⟨k, cap, g, rfl, hk, rfl, hown, hbel⟩ := hrel
    by_cases hlt : k < n
    · obtain ⟨wo, rfl⟩ : ∃ wo : World, wo = wr := ⟨_, rfl⟩
      have hgw : g < wo.heap.size := by
        obtain ⟨g', cap', hv, _, hl⟩ := own_form hown (by omega)
        simp only [Value.slice.injEq, Option.some.injEq, Addr.mk.injEq] at hv
        obtain ⟨⟨rfl, _⟩, _⟩ := hv
        exact hl
      have hcells : Hid (∀ i, i < k + 1 → wo.cell? ⟨g, i, none⟩ = some (.int .i64 (capped k i M : Nat))) := fun i hi => by
        rw [hown.cellAt i (by omega), crow_at _ _ _ hi]
      have HO := Lib.hid hown
      clear hown
      go_wp2_with fail
      go_loopw [10, 11] (fun r i wr => ∃ j : Nat, i = .int .i64 ((j : Int) + 1) ∧ j ≤ k ∧ wr.ownsRow wo.heap.size 3 1 r (j + 1) ((crow (k + 1) M).take (j + 1)) ∧ Below wo.heap.size wo wr) (fun r i wr => (k + 1 - (intOf i).toNat))
      case atStart =>
        refine ⟨0, rfl, by omega, ?_, (Below.refl _ _).alloc (Nat.le_refl _) _⟩
        rw [crow_one]
        exact World.ownsRow_lit (base := wo.heap.size) (size := 1) wo #[.int .i64 1] 1 (Nat.le_refl _) (by unfold maxLen; omega) rfl
      case round =>
        obtain ⟨j, rfl, hj, hown, hbel'⟩ := hrel
        by_cases hjk : j < k
        · have c1 : wr.cell? ⟨g, j, none⟩ = some (.int .i64 (capped k j M : Nat)) := (hbel'.cell (p := ⟨g, j, none⟩) hgw).trans (hcells.out j (by omega))
          have c2 : wr.cell? ⟨g, j + 1, none⟩ = some (.int .i64 (capped k (j + 1) M : Nat)) := (hbel'.cell (p := ⟨g, j + 1, none⟩) hgw).trans (hcells.out (j + 1) (by omega))
          have b1 : (capped k j M : Int) ≤ 1099511627777 := by have := capped_le k j M; omega
          have b2 : (capped k (j + 1) M : Int) ≤ 1099511627777 := by have := capped_le k (j + 1) M; omega
          by_cases hov : capped k j M + capped k (j + 1) M ≤ M + 1
          · have hov' : (capped k j M : Int) + (capped k (j + 1) M : Nat) ≤ M + 1 := by omega
            have HV := Lib.hid (by rw [capped_step]; omega : ((capped (k + 1) (j + 1) M : Nat) : Int) = (capped k j M : Int) + (capped k (j + 1) M : Nat))
            go_wp2_with fail
            go_quiet (fail)
            go_wp2_with (
              (at_builtin
               refine wpList_append_own _ rfl (.tmp 53) (.tmp 55) 41 rfl wo.heap.size 3 i0 (.int .i64 0) 1 8 Try.underlying41 hi0 hz0 hz1 hz2 rfl (by decide) _ (j + 1) _ rfl (World.ownsRow.alloc (w := wr.drewN nq) hown _) ⟨wr.heap.size, 0, none⟩ 1 1 [.int .i64 ((capped k j M : Int) + (capped k (j + 1) M : Nat))] rfl rfl ?c1 ?c2 ?c3 ?c4 ?c5 ?_))
            case c1 => exact cell_one_new _ _ _
            case c2 => intro u hu; simp at hu; subst hu; rfl
            case c3 => unfold maxLen; omega
            case c4 => omega
            case c5 => simp; exact Nat.le_succ_of_le hbel'.size
            intro v' w1 hown' hgrow _
            have hbel2 : Below wo.heap.size wo w1 := ((below_drewN hbel' nq).alloc hbel'.size _).grown hgrow (by simp; exact Nat.le_succ_of_le hbel'.size) (fun q hq => by have := (World.ownsRow.lt hown q hq).1; exact this)
            rw [← HV.out, ← crow_take _ _ _ (by omega)] at hown'
            have HO2 := Lib.hid hown'
            clear hown' hgrow hown
            go_wp2
            go_roundw
            case rel => exact ⟨j + 1, rfl, by omega, HO2.out, hbel2⟩
            case measure => simp [intOf]; omega
          · have hov' : (M : Int) + 1 < (capped k j M : Int) + (capped k (j + 1) M : Nat) := by omega
            have HV := Lib.hid (by rw [capped_step]; omega : ((capped (k + 1) (j + 1) M : Nat) : Int) = ((M : Int) + 1))
            go_wp2_with fail
            go_quiet (fail)
            go_wp2_with (
              (at_builtin
               refine wpList_append_own _ rfl (.tmp 53) (.tmp 55) 41 rfl wo.heap.size 3 i0 (.int .i64 0) 1 8 Try.underlying41 hi0 hz0 hz1 hz2 rfl (by decide) _ (j + 1) _ rfl (World.ownsRow.alloc (w := wr.drewN nq) hown _) ⟨wr.heap.size, 0, none⟩ 1 1 [.int .i64 ((M : Int) + 1)] rfl rfl ?c1 ?c2 ?c3 ?c4 ?c5 ?_))
            case c1 => exact cell_one_new _ _ _
            case c2 => intro u hu; simp at hu; subst hu; rfl
            case c3 => unfold maxLen; omega
            case c4 => omega
            case c5 => simp; exact Nat.le_succ_of_le hbel'.size
            intro v' w1 hown' hgrow _
            have hbel2 : Below wo.heap.size wo w1 := ((below_drewN hbel' nq).alloc hbel'.size _).grown hgrow (by simp; exact Nat.le_succ_of_le hbel'.size) (fun q hq => by have := (World.ownsRow.lt hown q hq).1; exact this)
            rw [← HV.out, ← crow_take _ _ _ (by omega)] at hown'
            have HO2 := Lib.hid hown'
            clear hown' hgrow hown
            go_wp2
            go_roundw
            case rel => exact ⟨j + 1, rfl, by omega, HO2.out, hbel2⟩
            case measure => simp [intOf]; omega
        · obtain rfl : k = j := by omega
          have HB := Lib.hid hbel
          clear hbel
          go_wp2_with (
            (at_builtin
             refine wpList_append_own _ rfl (.tmp 57) (.tmp 58) 41 rfl wo.heap.size 3 i0 (.int .i64 0) 1 8 Try.underlying41 hi0 hz0 hz1 hz2 rfl (by decide) _ (k + 1) _ rfl (World.ownsRow.alloc hown _) ⟨wr.heap.size, 0, none⟩ 1 1 [.int .i64 1] rfl rfl ?c1 ?c2 ?c3 ?c4 ?c5 ?_))
          case c1 => exact cell_one_new _ _ _
          case c2 => intro u hu; simp at hu; subst hu; rfl
          case c3 => unfold maxLen; omega
          case c4 => omega
          case c5 => simp; exact Nat.le_succ_of_le hbel'.size
          intro v' w1 hown' hgrow _
          have hbel2 : Below wo.heap.size wo w1 := (hbel'.alloc hbel'.size _).grown hgrow (by simp; exact Nat.le_succ_of_le hbel'.size) (fun q hq => by have := (World.ownsRow.lt hown q hq).1; exact this)
          obtain ⟨g2, cap2, hv, _⟩ := own_form hown' (by omega)
          have hown2 : w1.ownsRow wo.heap.size 3 1 (.slice (some ⟨g2, 0, none⟩) (k + 1 + 1) cap2) (k + 1 + 1) (crow (k + 1) M) := by
            rw [← crow_all, ← hv]; exact hown'
          rw [hv]
          clear hown' hgrow hown hv
          have HO2 := Lib.hid hown2
          clear hown2
          go_wp2
          go_roundw
          case rel => exact ⟨k + 1, cap2, g2, rfl, by omega, rfl, own_base HO2.out HB.out.size, HB.out.trans (hbel2.mono HB.out.size)⟩
          case measure => simp [intOf]; omega
    · obtain rfl : n = k := by omega
      have hcell := hown.cellAt m (by omega)
      rw [crow_at _ _ _ (by omega)] at hcell
      by_cases hc : capped n m M ≤ M
      · have hc' : ((capped n m M : Nat) : Int) ≤ M := by omega
        have HR := Lib.hid (bases_low n m M hc)
        clear hc hown
        go_wp2
        go_ret2
        exact ⟨ret_ibb (by rw [HR.out.1]) HR.out.2.symm, hbel⟩
      · have hc' : (M : Int) < (capped n m M : Nat) := by omega
        have HR := Lib.hid (bases_high n m M (by omega))
        clear hc hown
        go_wp2
        go_ret2
        exact ⟨ret_ibb (by rw [HR.out.1]; rfl) HR.out.2.symm, hbel⟩

set_option maxRecDepth 100000 in
set_option maxHeartbeats 2000000 in
theorem rBases_b (n m : Nat) (most : Int) (hmj : m ≤ n) (hn : n ≤ 200) (hM : most < 0) (w : World) :
    Calls Try.prog 15 #[.int .i64 n, .int .i64 m, .int .i64 most] w fun e w' => e = .returned (.tuple #[.int .i64 (Ch.basesV n m 0), .bool (Ch.basesB n m 0)]) ∧ Below w.heap.size w w' := by
  obtain ⟨i0, hi0, hz0, hz1, hz2⟩ := info_parts' intInfo
  have hmj' : (m : Int) ≤ n := by omega
  have d1 : decide (n < m) = false := decide_eq_false (by omega)
  have d2 : decide ((m : Int) < 0) = false := decide_eq_false (by omega)
  have d3 : decide (most < 0) = true := decide_eq_true (by omega)
  go_enter Try.func15, Try.ntmps15
  go_wp2_with fail
  go_loopw [8, 9] (fun r i wr => ∃ k cap g : Nat, i = .int .i64 k ∧ k ≤ n ∧ r = .slice (some ⟨g, 0, none⟩) (k + 1) cap ∧ wr.ownsRow w.heap.size 3 1 r (k + 1) (crow k 0) ∧ Below w.heap.size w wr) (fun r i wr => (n - (intOf i).toNat))
  case atStart =>
    refine ⟨0, 1, w.heap.size, rfl, by omega, rfl, ?_, (Below.refl _ _).alloc (Nat.le_refl _) _⟩
    exact World.ownsRow_lit (base := w.heap.size) (size := 1) w #[.int .i64 1] 1 (Nat.le_refl _) (by unfold maxLen; omega) rfl
  case round =>
    obtain ⟨k, cap, g, rfl, hk, rfl, hown, hbel⟩ := hrel
    by_cases hlt : k < n
    · obtain ⟨wo, rfl⟩ : ∃ wo : World, wo = wr := ⟨_, rfl⟩
      have hgw : g < wo.heap.size := by
        obtain ⟨g', cap', hv, _, hl⟩ := own_form hown (by omega)
        simp only [Value.slice.injEq, Option.some.injEq, Addr.mk.injEq] at hv
        obtain ⟨⟨rfl, _⟩, _⟩ := hv
        exact hl
      have hcells : Hid (∀ i, i < k + 1 → wo.cell? ⟨g, i, none⟩ = some (.int .i64 (capped k i 0 : Nat))) := fun i hi => by
        rw [hown.cellAt i (by omega), crow_at _ _ _ hi]
      have HO := Lib.hid hown
      clear hown
      go_wp2_with fail
      go_loopw [10, 11] (fun r i wr => ∃ j : Nat, i = .int .i64 ((j : Int) + 1) ∧ j ≤ k ∧ wr.ownsRow wo.heap.size 3 1 r (j + 1) ((crow (k + 1) 0).take (j + 1)) ∧ Below wo.heap.size wo wr) (fun r i wr => (k + 1 - (intOf i).toNat))
      case atStart =>
        refine ⟨0, rfl, by omega, ?_, (Below.refl _ _).alloc (Nat.le_refl _) _⟩
        rw [crow_one]
        exact World.ownsRow_lit (base := wo.heap.size) (size := 1) wo #[.int .i64 1] 1 (Nat.le_refl _) (by unfold maxLen; omega) rfl
      case round =>
        obtain ⟨j, rfl, hj, hown, hbel'⟩ := hrel
        by_cases hjk : j < k
        · have c1 : wr.cell? ⟨g, j, none⟩ = some (.int .i64 (capped k j 0 : Nat)) := (hbel'.cell (p := ⟨g, j, none⟩) hgw).trans (hcells.out j (by omega))
          have c2 : wr.cell? ⟨g, j + 1, none⟩ = some (.int .i64 (capped k (j + 1) 0 : Nat)) := (hbel'.cell (p := ⟨g, j + 1, none⟩) hgw).trans (hcells.out (j + 1) (by omega))
          have b1 : (capped k j 0 : Int) ≤ 1099511627777 := by have := capped_le k j 0; omega
          have b2 : (capped k (j + 1) 0 : Int) ≤ 1099511627777 := by have := capped_le k (j + 1) 0; omega
          by_cases hov : capped k j 0 + capped k (j + 1) 0 ≤ 0 + 1
          · have hov' : (capped k j 0 : Int) + (capped k (j + 1) 0 : Nat) ≤ 0 + 1 := by omega
            have HV := Lib.hid (by rw [capped_step]; omega : ((capped (k + 1) (j + 1) 0 : Nat) : Int) = (capped k j 0 : Int) + (capped k (j + 1) 0 : Nat))
            go_wp2_with fail
            go_quiet (fail)
            go_wp2_with (
              (at_builtin
               refine wpList_append_own _ rfl (.tmp 53) (.tmp 55) 41 rfl wo.heap.size 3 i0 (.int .i64 0) 1 8 Try.underlying41 hi0 hz0 hz1 hz2 rfl (by decide) _ (j + 1) _ rfl (World.ownsRow.alloc (w := wr.drewN nq) hown _) ⟨wr.heap.size, 0, none⟩ 1 1 [.int .i64 ((capped k j 0 : Int) + (capped k (j + 1) 0 : Nat))] rfl rfl ?c1 ?c2 ?c3 ?c4 ?c5 ?_))
            case c1 => exact cell_one_new _ _ _
            case c2 => intro u hu; simp at hu; subst hu; rfl
            case c3 => unfold maxLen; omega
            case c4 => omega
            case c5 => simp; exact Nat.le_succ_of_le hbel'.size
            intro v' w1 hown' hgrow _
            have hbel2 : Below wo.heap.size wo w1 := ((below_drewN hbel' nq).alloc hbel'.size _).grown hgrow (by simp; exact Nat.le_succ_of_le hbel'.size) (fun q hq => by have := (World.ownsRow.lt hown q hq).1; exact this)
            rw [← HV.out, ← crow_take _ _ _ (by omega)] at hown'
            have HO2 := Lib.hid hown'
            clear hown' hgrow hown
            go_wp2
            go_roundw
            case rel => exact ⟨j + 1, rfl, by omega, HO2.out, hbel2⟩
            case measure => simp [intOf]; omega
          · have hov' : (0 : Int) + 1 < (capped k j 0 : Int) + (capped k (j + 1) 0 : Nat) := by omega
            have HV := Lib.hid (by rw [capped_step]; omega : ((capped (k + 1) (j + 1) 0 : Nat) : Int) = 1)
            go_wp2_with fail
            go_quiet (fail)
            go_wp2_with (
              (at_builtin
               refine wpList_append_own _ rfl (.tmp 53) (.tmp 55) 41 rfl wo.heap.size 3 i0 (.int .i64 0) 1 8 Try.underlying41 hi0 hz0 hz1 hz2 rfl (by decide) _ (j + 1) _ rfl (World.ownsRow.alloc (w := wr.drewN nq) hown _) ⟨wr.heap.size, 0, none⟩ 1 1 [.int .i64 1] rfl rfl ?c1 ?c2 ?c3 ?c4 ?c5 ?_))
            case c1 => exact cell_one_new _ _ _
            case c2 => intro u hu; simp at hu; subst hu; rfl
            case c3 => unfold maxLen; omega
            case c4 => omega
            case c5 => simp; exact Nat.le_succ_of_le hbel'.size
            intro v' w1 hown' hgrow _
            have hbel2 : Below wo.heap.size wo w1 := ((below_drewN hbel' nq).alloc hbel'.size _).grown hgrow (by simp; exact Nat.le_succ_of_le hbel'.size) (fun q hq => by have := (World.ownsRow.lt hown q hq).1; exact this)
            rw [← HV.out, ← crow_take _ _ _ (by omega)] at hown'
            have HO2 := Lib.hid hown'
            clear hown' hgrow hown
            go_wp2
            go_roundw
            case rel => exact ⟨j + 1, rfl, by omega, HO2.out, hbel2⟩
            case measure => simp [intOf]; omega
        · obtain rfl : k = j := by omega
          have HB := Lib.hid hbel
          clear hbel
          go_wp2_with (
            (at_builtin
             refine wpList_append_own _ rfl (.tmp 57) (.tmp 58) 41 rfl wo.heap.size 3 i0 (.int .i64 0) 1 8 Try.underlying41 hi0 hz0 hz1 hz2 rfl (by decide) _ (k + 1) _ rfl (World.ownsRow.alloc hown _) ⟨wr.heap.size, 0, none⟩ 1 1 [.int .i64 1] rfl rfl ?c1 ?c2 ?c3 ?c4 ?c5 ?_))
          case c1 => exact cell_one_new _ _ _
          case c2 => intro u hu; simp at hu; subst hu; rfl
          case c3 => unfold maxLen; omega
          case c4 => omega
          case c5 => simp; exact Nat.le_succ_of_le hbel'.size
          intro v' w1 hown' hgrow _
          have hbel2 : Below wo.heap.size wo w1 := (hbel'.alloc hbel'.size _).grown hgrow (by simp; exact Nat.le_succ_of_le hbel'.size) (fun q hq => by have := (World.ownsRow.lt hown q hq).1; exact this)
          obtain ⟨g2, cap2, hv, _⟩ := own_form hown' (by omega)
          have hown2 : w1.ownsRow wo.heap.size 3 1 (.slice (some ⟨g2, 0, none⟩) (k + 1 + 1) cap2) (k + 1 + 1) (crow (k + 1) 0) := by
            rw [← crow_all, ← hv]; exact hown'
          rw [hv]
          clear hown' hgrow hown hv
          have HO2 := Lib.hid hown2
          clear hown2
          go_wp2
          go_roundw
          case rel => exact ⟨k + 1, cap2, g2, rfl, by omega, rfl, own_base HO2.out HB.out.size, HB.out.trans (hbel2.mono HB.out.size)⟩
          case measure => simp [intOf]; omega
    · obtain rfl : n = k := by omega
      have hcell := hown.cellAt m (by omega)
      rw [crow_at _ _ _ (by omega)] at hcell
      by_cases hc : capped n m 0 ≤ 0
      · have hc' : ((capped n m 0 : Nat) : Int) ≤ 0 := by omega
        have HR := Lib.hid (bases_low n m 0 hc)
        clear hc hown
        go_wp2
        go_ret2
        exact ⟨ret_ibb (by rw [HR.out.1]) HR.out.2.symm, hbel⟩
      · have hc' : (0 : Int) < (capped n m 0 : Nat) := by omega
        have HR := Lib.hid (bases_high n m 0 (by omega))
        clear hc hown
        go_wp2
        go_ret2
        exact ⟨ret_ibb (by rw [HR.out.1]; rfl) HR.out.2.symm, hbel⟩

set_option maxRecDepth 100000 in
set_option maxHeartbeats 2000000 in
theorem rBases_c (n m : Nat) (most : Int) (hmj : m ≤ n) (hn : n ≤ 200) (hM : 1099511627776 < most) (w : World) :
    Calls Try.prog 15 #[.int .i64 n, .int .i64 m, .int .i64 most] w fun e w' => e = .returned (.tuple #[.int .i64 (Ch.basesV n m 1099511627776), .bool (Ch.basesB n m 1099511627776)]) ∧ Below w.heap.size w w' := by
  obtain ⟨i0, hi0, hz0, hz1, hz2⟩ := info_parts' intInfo
  have hmj' : (m : Int) ≤ n := by omega
  have d1 : decide (n < m) = false := decide_eq_false (by omega)
  have d2 : decide ((m : Int) < 0) = false := decide_eq_false (by omega)
  have d3 : decide (most < 0) = false := decide_eq_false (by omega)
  have d4 : decide ((1099511627776 : Int) < most) = true := decide_eq_true (by omega)
  go_enter Try.func15, Try.ntmps15
  go_wp2_with fail
  go_loopw [8, 9] (fun r i wr => ∃ k cap g : Nat, i = .int .i64 k ∧ k ≤ n ∧ r = .slice (some ⟨g, 0, none⟩) (k + 1) cap ∧ wr.ownsRow w.heap.size 3 1 r (k + 1) (crow k 1099511627776) ∧ Below w.heap.size w wr) (fun r i wr => (n - (intOf i).toNat))
  case atStart =>
    refine ⟨0, 1, w.heap.size, rfl, by omega, rfl, ?_, (Below.refl _ _).alloc (Nat.le_refl _) _⟩
    exact World.ownsRow_lit (base := w.heap.size) (size := 1) w #[.int .i64 1] 1 (Nat.le_refl _) (by unfold maxLen; omega) rfl
  case round =>
    obtain ⟨k, cap, g, rfl, hk, rfl, hown, hbel⟩ := hrel
    by_cases hlt : k < n
    · obtain ⟨wo, rfl⟩ : ∃ wo : World, wo = wr := ⟨_, rfl⟩
      have hgw : g < wo.heap.size := by
        obtain ⟨g', cap', hv, _, hl⟩ := own_form hown (by omega)
        simp only [Value.slice.injEq, Option.some.injEq, Addr.mk.injEq] at hv
        obtain ⟨⟨rfl, _⟩, _⟩ := hv
        exact hl
      have hcells : Hid (∀ i, i < k + 1 → wo.cell? ⟨g, i, none⟩ = some (.int .i64 (capped k i 1099511627776 : Nat))) := fun i hi => by
        rw [hown.cellAt i (by omega), crow_at _ _ _ hi]
      have HO := Lib.hid hown
      clear hown
      go_wp2_with fail
      go_loopw [10, 11] (fun r i wr => ∃ j : Nat, i = .int .i64 ((j : Int) + 1) ∧ j ≤ k ∧ wr.ownsRow wo.heap.size 3 1 r (j + 1) ((crow (k + 1) 1099511627776).take (j + 1)) ∧ Below wo.heap.size wo wr) (fun r i wr => (k + 1 - (intOf i).toNat))
      case atStart =>
        refine ⟨0, rfl, by omega, ?_, (Below.refl _ _).alloc (Nat.le_refl _) _⟩
        rw [crow_one]
        exact World.ownsRow_lit (base := wo.heap.size) (size := 1) wo #[.int .i64 1] 1 (Nat.le_refl _) (by unfold maxLen; omega) rfl
      case round =>
        obtain ⟨j, rfl, hj, hown, hbel'⟩ := hrel
        by_cases hjk : j < k
        · have c1 : wr.cell? ⟨g, j, none⟩ = some (.int .i64 (capped k j 1099511627776 : Nat)) := (hbel'.cell (p := ⟨g, j, none⟩) hgw).trans (hcells.out j (by omega))
          have c2 : wr.cell? ⟨g, j + 1, none⟩ = some (.int .i64 (capped k (j + 1) 1099511627776 : Nat)) := (hbel'.cell (p := ⟨g, j + 1, none⟩) hgw).trans (hcells.out (j + 1) (by omega))
          have b1 : (capped k j 1099511627776 : Int) ≤ 1099511627777 := by have := capped_le k j 1099511627776; omega
          have b2 : (capped k (j + 1) 1099511627776 : Int) ≤ 1099511627777 := by have := capped_le k (j + 1) 1099511627776; omega
          by_cases hov : capped k j 1099511627776 + capped k (j + 1) 1099511627776 ≤ 1099511627776 + 1
          · have hov' : (capped k j 1099511627776 : Int) + (capped k (j + 1) 1099511627776 : Nat) ≤ 1099511627776 + 1 := by omega
            have HV := Lib.hid (by rw [capped_step]; omega : ((capped (k + 1) (j + 1) 1099511627776 : Nat) : Int) = (capped k j 1099511627776 : Int) + (capped k (j + 1) 1099511627776 : Nat))
            go_wp2_with fail
            go_quiet (fail)
            go_wp2_with (
              (at_builtin
               refine wpList_append_own _ rfl (.tmp 53) (.tmp 55) 41 rfl wo.heap.size 3 i0 (.int .i64 0) 1 8 Try.underlying41 hi0 hz0 hz1 hz2 rfl (by decide) _ (j + 1) _ rfl (World.ownsRow.alloc (w := wr.drewN nq) hown _) ⟨wr.heap.size, 0, none⟩ 1 1 [.int .i64 ((capped k j 1099511627776 : Int) + (capped k (j + 1) 1099511627776 : Nat))] rfl rfl ?c1 ?c2 ?c3 ?c4 ?c5 ?_))
            case c1 => exact cell_one_new _ _ _
            case c2 => intro u hu; simp at hu; subst hu; rfl
            case c3 => unfold maxLen; omega
            case c4 => omega
            case c5 => simp; exact Nat.le_succ_of_le hbel'.size
            intro v' w1 hown' hgrow _
            have hbel2 : Below wo.heap.size wo w1 := ((below_drewN hbel' nq).alloc hbel'.size _).grown hgrow (by simp; exact Nat.le_succ_of_le hbel'.size) (fun q hq => by have := (World.ownsRow.lt hown q hq).1; exact this)
            rw [← HV.out, ← crow_take _ _ _ (by omega)] at hown'
            have HO2 := Lib.hid hown'
            clear hown' hgrow hown
            go_wp2
            go_roundw
            case rel => exact ⟨j + 1, rfl, by omega, HO2.out, hbel2⟩
            case measure => simp [intOf]; omega
          · have hov' : (1099511627776 : Int) + 1 < (capped k j 1099511627776 : Int) + (capped k (j + 1) 1099511627776 : Nat) := by omega
            have HV := Lib.hid (by rw [capped_step]; omega : ((capped (k + 1) (j + 1) 1099511627776 : Nat) : Int) = 1099511627777)
            go_wp2_with fail
            go_quiet (fail)
            go_wp2_with (
              (at_builtin
               refine wpList_append_own _ rfl (.tmp 53) (.tmp 55) 41 rfl wo.heap.size 3 i0 (.int .i64 0) 1 8 Try.underlying41 hi0 hz0 hz1 hz2 rfl (by decide) _ (j + 1) _ rfl (World.ownsRow.alloc (w := wr.drewN nq) hown _) ⟨wr.heap.size, 0, none⟩ 1 1 [.int .i64 1099511627777] rfl rfl ?c1 ?c2 ?c3 ?c4 ?c5 ?_))
            case c1 => exact cell_one_new _ _ _
            case c2 => intro u hu; simp at hu; subst hu; rfl
            case c3 => unfold maxLen; omega
            case c4 => omega
            case c5 => simp; exact Nat.le_succ_of_le hbel'.size
            intro v' w1 hown' hgrow _
            have hbel2 : Below wo.heap.size wo w1 := ((below_drewN hbel' nq).alloc hbel'.size _).grown hgrow (by simp; exact Nat.le_succ_of_le hbel'.size) (fun q hq => by have := (World.ownsRow.lt hown q hq).1; exact this)
            rw [← HV.out, ← crow_take _ _ _ (by omega)] at hown'
            have HO2 := Lib.hid hown'
            clear hown' hgrow hown
            go_wp2
            go_roundw
            case rel => exact ⟨j + 1, rfl, by omega, HO2.out, hbel2⟩
            case measure => simp [intOf]; omega
        · obtain rfl : k = j := by omega
          have HB := Lib.hid hbel
          clear hbel
          go_wp2_with (
            (at_builtin
             refine wpList_append_own _ rfl (.tmp 57) (.tmp 58) 41 rfl wo.heap.size 3 i0 (.int .i64 0) 1 8 Try.underlying41 hi0 hz0 hz1 hz2 rfl (by decide) _ (k + 1) _ rfl (World.ownsRow.alloc hown _) ⟨wr.heap.size, 0, none⟩ 1 1 [.int .i64 1] rfl rfl ?c1 ?c2 ?c3 ?c4 ?c5 ?_))
          case c1 => exact cell_one_new _ _ _
          case c2 => intro u hu; simp at hu; subst hu; rfl
          case c3 => unfold maxLen; omega
          case c4 => omega
          case c5 => simp; exact Nat.le_succ_of_le hbel'.size
          intro v' w1 hown' hgrow _
          have hbel2 : Below wo.heap.size wo w1 := (hbel'.alloc hbel'.size _).grown hgrow (by simp; exact Nat.le_succ_of_le hbel'.size) (fun q hq => by have := (World.ownsRow.lt hown q hq).1; exact this)
          obtain ⟨g2, cap2, hv, _⟩ := own_form hown' (by omega)
          have hown2 : w1.ownsRow wo.heap.size 3 1 (.slice (some ⟨g2, 0, none⟩) (k + 1 + 1) cap2) (k + 1 + 1) (crow (k + 1) 1099511627776) := by
            rw [← crow_all, ← hv]; exact hown'
          rw [hv]
          clear hown' hgrow hown hv
          have HO2 := Lib.hid hown2
          clear hown2
          go_wp2
          go_roundw
          case rel => exact ⟨k + 1, cap2, g2, rfl, by omega, rfl, own_base HO2.out HB.out.size, HB.out.trans (hbel2.mono HB.out.size)⟩
          case measure => simp [intOf]; omega
    · obtain rfl : n = k := by omega
      have hcell := hown.cellAt m (by omega)
      rw [crow_at _ _ _ (by omega)] at hcell
      by_cases hc : capped n m 1099511627776 ≤ 1099511627776
      · have hc' : ((capped n m 1099511627776 : Nat) : Int) ≤ 1099511627776 := by omega
        have HR := Lib.hid (bases_low n m 1099511627776 hc)
        clear hc hown
        go_wp2
        go_ret2
        exact ⟨ret_ibb (by rw [HR.out.1]) HR.out.2.symm, hbel⟩
      · have hc' : (1099511627776 : Int) < (capped n m 1099511627776 : Nat) := by omega
        have HR := Lib.hid (bases_high n m 1099511627776 (by omega))
        clear hc hown
        go_wp2
        go_ret2
        exact ⟨ret_ibb (by rw [HR.out.1]; rfl) HR.out.2.symm, hbel⟩

theorem rBases_in (n m : Nat) (most : Int) (h : m ≤ n) (hn : n ≤ 200) (w : World) :
    Calls Try.prog 15 #[.int .i64 n, .int .i64 m, .int .i64 most] w fun e w' => e = .returned (.tuple #[.int .i64 (Ch.basesV n m (clampM most)), .bool (Ch.basesB n m (clampM most))]) ∧ Below w.heap.size w w' := by
  by_cases h0 : most < 0
  · rw [clamp_neg most (by omega)]
    exact rBases_b n m most h hn h0 w
  by_cases h1 : 1099511627776 < most
  · rw [clamp_big most h1]
    exact rBases_c n m most h hn h1 w
  obtain ⟨M, rfl⟩ := Int.eq_ofNat_of_zero_le (show 0 ≤ most by omega)
  rw [clamp_pos M (by omega)]
  exact rBases_a n m M h hn (by omega) w
end Go.Proofs.Ytknflfnkdieomaa
