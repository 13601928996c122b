/- nat.Words, Shl, Shr. -/
import Derived.Test.YtngghjhmfpmilaaNsub
import Derived.Laws.BitsAllLaws
namespace Go.Proofs.Ytngghjhmfpmilaa
open Go.RowKit
set_option maxHeartbeats 400000 in
theorem clone_none (n c : Nat) (w : World) :
    Calls Try.prog 100 #[.slice none n c] w fun e w' => e = .returned (.slice none 0 0) ∧ Below w.heap.size w w' := by
  have hnil := fun (w : World) (n c n' c' : Nat) => Lib.run_eql_slice_nil (P := Try.prog) w 29 105 none n c n' c' Try.underlying29
  go_enter Try.func100, Try.ntmps100
  go_wp2_with fail
  go_ret
  exact ⟨rfl, Below.refl _ _⟩
/-- v is a fresh copy of x's words -/
def WordsGot (b : Nat) (w' : World) (v : Value) (x : Nat) : Prop :=
  ∃ A c, v = .slice A (nw x) c ∧ (∀ G : Nat → Prop, (∀ k, G k → k < b) → USlice G w' A (nw x) (wd x)) ∧ nw x ≤ c ∧ c ≤ maxLen ∧ Nilled A (nw x) c ∧ w'.ownsRow b 105 1 v (nw x) (words (wd x) (nw x))
theorem ret_v {a b : Value} (h : a = b) : Ending.returned a = .returned b := by rw [h]
set_option maxHeartbeats 400000 in
theorem nWords (F : Nat → Prop) (va : Value) (x : Nat) (w : World) (ha : NatAt F w va x) :
    Calls Try.prog 99 #[va] w fun e w' => ∃ v, e = .returned v ∧ WordsGot w.heap.size w' v x ∧ Below w.heap.size w w' := by
  have hsx := ha.small
  unfold Small at hsx
  obtain ⟨A, c, rfl, h1, h2, hsm, h3⟩ := ha
  have h3 := h3.slice
  rcases A with _ | a
  · have h0 : nw x = 0 := by
      rcases Nat.eq_zero_or_pos (nw x) with h | h
      · exact h
      · obtain ⟨_, _, e, _⟩ := h3 0 h
        cases e
    have H0 := Lib.hid h0
    clear h0 h3
    go_enter Try.func99, Try.ntmps99
    go_wp2_with fail
    refine (clone_none _ _ _).mono ?_
    rintro e wM ⟨rfl, hb⟩
    have BW := below_next (w := w) (by (repeat (first | with_reducible exact Below.refl _ _ | with_reducible assumption | with_reducible refine Below.drew ?_ | with_reducible refine below_drewN ?_ _ | with_reducible refine Below.alloc ?_ (by first | exact Nat.le_refl _ | (simp; done) | (simp; omega) | omega) _ | with_reducible refine Below.setCell ?_ (by first | exact Nat.le_refl _ | (simp; done) | (simp; omega) | omega) _))) hb
    go_wp2_with fail
    go_ret
    refine ⟨.slice none 0 0, rfl, ⟨none, 0, by rw [H0.out], fun G _ i hi => by rw [H0.out] at hi; omega, by rw [H0.out]; exact Nat.le_refl _, by unfold maxLen; omega, fun _ => ⟨H0.out, rfl⟩, by rw [H0.out]; exact World.ownsRow_nil _ _ _ _⟩, by (repeat (first | with_reducible exact Below.refl _ _ | with_reducible assumption | with_reducible refine Below.drew ?_ | with_reducible refine below_drewN ?_ _ | with_reducible refine Below.alloc ?_ (by first | exact Nat.le_refl _ | (simp; done) | (simp; omega) | omega) _ | with_reducible refine Below.setCell ?_ (by first | exact Nat.le_refl _ | (simp; done) | (simp; omega) | omega) _))⟩
  · have C := Cur.start F w
    go_enter Try.func99, Try.ntmps99
    go_wp2_with fail
    refine (clone_some F a _ c (wd x) _ (h3.keep (by (repeat (first | with_reducible exact Keeps.refl _ _ | with_reducible assumption | with_reducible refine Keeps.drew ?_ | with_reducible refine Keeps.drewN ?_ _ | with_reducible refine Keeps.alloc ?_ _ | with_reducible refine Keeps.set ?_ (by first | (simp [Own]; done) | exact .inr (by first | (simp; done) | (simp; omega) | omega)) _ | with_reducible refine Keeps.trans ?_ (by assumption))))) hsx).mono ?_
    rintro e wM ⟨v0, rfl, hcl, hb⟩
    obtain ⟨g, c0', rfl, hn1, hn2, hg, hg2, hsl, hown⟩ := cloned_slice hcl
    have BW := below_next (w := w) (by (repeat (first | with_reducible exact Below.refl _ _ | with_reducible assumption | with_reducible refine Below.drew ?_ | with_reducible refine below_drewN ?_ _ | with_reducible refine Below.alloc ?_ (by first | exact Nat.le_refl _ | (simp; done) | (simp; omega) | omega) _ | with_reducible refine Below.setCell ?_ (by first | exact Nat.le_refl _ | (simp; done) | (simp; omega) | omega) _))) hb
    have HH := Lib.hid (And.intro hown hsl)
    clear hcl hsl hown h3
    go_wp2_with fail
    go_ret
    refine ⟨_, rfl, ⟨some ⟨g, 0, none⟩, c0', rfl, fun G hG => HH.out.2 G fun hh => ?_, hn1, hn2, fun e => (by cases e), ownBase HH.out.1 (by simp)⟩, by (repeat (first | with_reducible exact Below.refl _ _ | with_reducible assumption | with_reducible refine Below.drew ?_ | with_reducible refine below_drewN ?_ _ | with_reducible refine Below.alloc ?_ (by first | exact Nat.le_refl _ | (simp; done) | (simp; omega) | omega) _ | with_reducible refine Below.setCell ?_ (by first | exact Nat.le_refl _ | (simp; done) | (simp; omega) | omega) _))⟩
    have := hG _ hh
    simp at hg; omega
theorem or_shl (a b k : Nat) (ha : a < 2 ^ k) (hk : k < 64) : bits .or .u64 (a : Int) (IntKind.u64.wrap ((b : Int) * 2 ^ k)) = ((a + b * 2 ^ k % 18446744073709551616 : Nat) : Int) := by
  have h1 : IntKind.u64.wrap ((b : Int) * 2 ^ k) = ((b * 2 ^ k % 18446744073709551616 : Nat) : Int) := by rw [IntKind.wrap_u64]; simp
  have h2 : a < 18446744073709551616 := Nat.lt_of_lt_of_le ha (show 2 ^ k ≤ 2 ^ 64 from Nat.pow_le_pow_right (by omega) (by omega))
  have h3 : (b * 2 ^ k % 18446744073709551616) % 2 ^ k = 0 := by
    rw [show (18446744073709551616 : Nat) = 2 ^ k * 2 ^ (64 - k) by rw [← Nat.pow_add, show k + (64 - k) = 64 by omega]]
    rw [Nat.mod_mul_right_mod]; simp
  rw [h1, u64_or_nat a _ h2 (Nat.mod_lt _ (by omega)), Nat.or_comm, nat_join k _ a h3 ha, Nat.add_comm]
/-- the number shifted so far -/
def ShlInv (x k : Nat) (f : Nat → Nat) (N i : Nat) : Prop := Wf f N ∧ val f (i + 1) = x % 2 ^ (64 * i) * 2 ^ k ∧ ∀ j, i < j → f j = 0
theorem shl_low (x k : Nat) (f : Nat → Nat) (N j : Nat) (h : ShlInv x k f N j) : f j < 2 ^ k := by
  obtain ⟨h1, h2, h3⟩ := h
  rw [val] at h2
  have h4 : x % 2 ^ (64 * j) < 2 ^ (64 * j) := Nat.mod_lt _ (Nat.two_pow_pos _)
  have h5 : f j * 2 ^ (64 * j) < 2 ^ k * 2 ^ (64 * j) := by
    have : x % 2 ^ (64 * j) * 2 ^ k < 2 ^ (64 * j) * 2 ^ k := Nat.mul_lt_mul_of_pos_right h4 (Nat.two_pow_pos _)
    rw [Nat.mul_comm (2 ^ k)]
    exact Nat.lt_of_le_of_lt (by rw [← h2]; exact Nat.le_add_left _ _) this
  exact Nat.lt_of_mul_lt_mul_right h5
theorem shl_step (x k : Nat) (f : Nat → Nat) (N j u v : Nat) (h : ShlInv x k f N j) (hk : k < 64) (hu : u = f j + wd x j * 2 ^ k % 18446744073709551616) (hv : v = wd x j / 2 ^ (64 - k)) : ShlInv x k (upd (upd f j u) (j + 1) v) N (j + 1) := by
  have hlow := shl_low x k f N j h
  obtain ⟨h1, h2, h3⟩ := h
  have e64 : (18446744073709551616 : Nat) = 2 ^ k * 2 ^ (64 - k) := by rw [← Nat.pow_add, show k + (64 - k) = 64 by omega]
  have hm : wd x j * 2 ^ k % 18446744073709551616 = wd x j % 2 ^ (64 - k) * 2 ^ k := by
    rw [e64, Nat.mul_comm (wd x j), Nat.mul_mod_mul_left, Nat.mul_comm]
  have hw := wd_lt x j
  have hu2 : u < 18446744073709551616 := by
    have : wd x j % 2 ^ (64 - k) + 1 ≤ 2 ^ (64 - k) := Nat.mod_lt _ (Nat.two_pow_pos _)
    have : (wd x j % 2 ^ (64 - k) + 1) * 2 ^ k ≤ 2 ^ (64 - k) * 2 ^ k := Nat.mul_le_mul_right _ this
    rw [Nat.add_mul, Nat.one_mul] at this
    rw [hu, hm, e64, Nat.mul_comm (2 ^ k)]
    omega
  have hv2 : v < 18446744073709551616 := by rw [hv]; exact Nat.lt_of_le_of_lt (Nat.div_le_self _ _) hw
  refine ⟨wf_upd _ _ _ _ (wf_upd _ _ _ _ h1 hu2) hv2, ?_, fun i hi => ?_⟩
  · rw [val_upd_succ, val_upd_succ, hu, hm, hv]
    have e1 : x % 2 ^ (64 * (j + 1)) = x % 2 ^ (64 * j) + wd x j * 2 ^ (64 * j) := by
      rw [← val_wd, ← val_wd, val]
    have e2 : wd x j = wd x j % 2 ^ (64 - k) + wd x j / 2 ^ (64 - k) * 2 ^ (64 - k) := by
      rw [Nat.mul_comm]; exact (Nat.mod_add_div _ _).symm
    rw [e1, p64, e64, Nat.add_mul (x % 2 ^ (64 * j)), ← h2, val]
    generalize hA : wd x j % 2 ^ (64 - k) = A at *
    generalize hB : wd x j / 2 ^ (64 - k) = B at *
    generalize 2 ^ (64 * j) = P
    rw [e2]
    generalize 2 ^ (64 - k) = Q
    generalize 2 ^ k = R
    simp only [Nat.add_mul]
    have : B * (R * Q * P) = B * Q * P * R := by
      rw [Nat.mul_comm R Q, Nat.mul_assoc Q R P, Nat.mul_comm R P, ← Nat.mul_assoc Q, ← Nat.mul_assoc B, ← Nat.mul_assoc B]
    have h' : A * R * P = A * P * R := by rw [Nat.mul_assoc, Nat.mul_comm R P, ← Nat.mul_assoc]
    omega
  · unfold upd
    rw [if_neg (by omega), if_neg (by omega)]
    exact h3 i (by omega)
theorem shl_end (x k : Nat) (f : Nat → Nat) (h : ShlInv x k f (nw x + 1) (nw x)) : val f (nw x + 1) = x * 2 ^ k := by
  rw [h.2.1, Nat.mod_eq_of_lt (lt_nw x)]
set_option maxRecDepth 100000 in
set_option maxHeartbeats 1000000 in
theorem nShl_pos (F : Nat → Prop) (g o c : Nat) (x k : Nat) (w : World) (hF : Lows F w) (ha : NatAt F w (.agg #[.slice (some ⟨g, o, none⟩) (nw x) c]) x) (hk : k < 64) (hs : Small (x * 2 ^ k)) :
    Calls Try.prog 109 #[.agg #[.slice (some ⟨g, o, none⟩) (nw x) c], .int .i64 (k : Nat)] w fun e w' => ∃ v, e = .returned (.tuple #[v, .bool true]) ∧ NatAt F w' v (x * 2 ^ k) ∧ Below w.heap.size w w' := by
  have hx := ha.own (G := Own F [w.heap.size + 1]) (Own.new (by simp))
  have hsx := ha.small
  have hwx := ha.words
  clear ha
  unfold Small at hsx
  have hmk := fun w => mk64 (nw x + 1) (by omega) w
  have hx0 := Lib.hid hx
  have HW := Lib.hid hwx
  clear hx hwx
  rw [show ((nw x + 1 : Nat) : Int) = (nw x : Int) + 1 by simp] at hmk
  have hk0 : (0 : Int) ≤ k := by omega
  have hk1 : (k : Int) < 64 := by omega
  have hq : (k : Int).tdiv 64 = 0 := Int.tdiv_eq_zero_of_lt hk0 hk1
  have hr : (k : Int).tmod 64 = k := Int.tmod_eq_of_lt hk0 hk1
  have l0 := (Blk.new w 31 #[.slice (some ⟨g, o, none⟩) (nw x) c]).alloc (.cells #[.slice none 0 0] 31)
  have l1 := Blk.new_at (w.alloc (.cells #[.slice (some ⟨g, o, none⟩) (nw x) c] 31)) 31 #[.slice none 0 0] (w.heap.size + 1) (by simp)
  have C := Cur.start (Own F [w.heap.size + 1]) w
  go_enter Try.func109, Try.ntmps109
  go_wp2_with fail
  go_loopw [30] (fun i wr => ∃ (j : Nat) (f : Nat → Nat), i = .int .i64 j ∧ j ≤ nw x ∧ ShlInv x k f (nw x + 1) j ∧ Cur (Own F [w.heap.size + 1]) w wr ∧ Below w.heap.size w wr ∧
      Blk wr w.heap.size 31 #[.slice (some ⟨g, o, none⟩) (nw x) c] ∧ Blk wr (w.heap.size + 1) 31 #[.slice none 0 0] ∧ Blk wr (w.heap.size + 1 + 1) 105 (wa f (nw x + 1))) (fun i wr => nw x - (intOf i).toNat)
  case atStart =>
    refine ⟨0, fun _ => 0, rfl, by omega, ⟨fun i hi => by show 0 < _; omega, by simp [val, Nat.mod_one], fun _ _ => rfl⟩, Cur.mk (by (repeat (first | with_reducible exact Keeps.refl _ _ | with_reducible assumption | with_reducible refine Keeps.drew ?_ | with_reducible refine Keeps.drewN ?_ _ | with_reducible refine Keeps.alloc ?_ _ | with_reducible refine Keeps.set ?_ (by first | (simp [Own]; done) | exact .inr (by first | (simp; done) | (simp; omega) | omega)) _ | with_reducible refine Keeps.trans ?_ (by assumption)))), by (repeat (first | with_reducible exact Below.refl _ _ | with_reducible assumption | with_reducible refine Below.drew ?_ | with_reducible refine below_drewN ?_ _ | with_reducible refine Below.alloc ?_ (by first | exact Nat.le_refl _ | (simp; done) | (simp; omega) | omega) _ | with_reducible refine Below.setCell ?_ (by first | exact Nat.le_refl _ | (simp; done) | (simp; omega) | omega) _)), l0.alloc _, l1.alloc _, Blk.new_at _ _ _ _ (by simp)⟩
  case round =>
    obtain ⟨j, f, rfl, hj, hi, C, BW, l0, l1, l2⟩ := hrel
    have K : Keeps (Own F [w.heap.size + 1]) w wr := C
    have hI := Lib.hid hi
    clear hi
    by_cases hlt : j < nw x
    · have k2 : (wa f (nw x + 1))[j]? = some (.int .u64 (f j : Nat)) := wa_at f _ j (by omega)
      have hl : g < w.heap.size := by
        obtain ⟨g', o', e, _, hl, _⟩ := HW.out j hlt
        simp only [Option.some.injEq, Addr.mk.injEq] at e
        obtain ⟨rfl, rfl, _⟩ := e
        exact hl
      have hcx : wr.cell? ⟨g, o + j, none⟩ = some (.int .u64 (wd x j : Nat)) := by
        obtain ⟨g', o', e, _, _, hcell⟩ := (hx0.out.keep K).words j hlt
        simp only [Option.some.injEq, Addr.mk.injEq] at e
        obtain ⟨rfl, rfl, _⟩ := e
        exact hcell
      have c0 := l0.cell
      have c2 := l2.cell
      have f2 := l2.frozen
      have hj0 : (0 : Int) ≤ j := by omega
      have hj1 : (j : Int) < (nw x : Int) := by omega
      have hj2 : (j : Int) < (nw x : Int) + 1 := by omega
      have hw1 : (wd x j : Int) < 18446744073709551616 := by have := wd_lt x j; omega
      have hw2 : (f j : Int) < 18446744073709551616 := by have := hI.out.1 j (by omega); omega
      go_wp2_with fail
      go_region
      rw [or_shl (f j) (wd x j) k (shl_low x k f _ j hI.out) hk]
      obtain ⟨u, hu⟩ : ∃ u : Nat, u = f j + wd x j * 2 ^ k % 18446744073709551616 := ⟨_, rfl⟩
      rw [← hu]
      have HU := Lib.hid hu
      clear hu
      have l2' := l2.set_ j (.int .u64 (u : Nat))
      rw [wa_upd] at l2'
      have l0' := l0.far (p := ⟨w.heap.size + 1 + 1, j, none⟩) (by first | (simp; done) | (simp; omega)) (.int .u64 (u : Nat))
      have l1' := l1.far (p := ⟨w.heap.size + 1 + 1, j, none⟩) (by first | (simp; done) | (simp; omega)) (.int .u64 (u : Nat))
      have BW' : Below w.heap.size w (wr.setCell ⟨w.heap.size + 1 + 1, j, none⟩ (.int .u64 (u : Nat))).drew := by (repeat (first | with_reducible exact Below.refl _ _ | with_reducible assumption | with_reducible refine Below.drew ?_ | with_reducible refine below_drewN ?_ _ | with_reducible refine Below.alloc ?_ (by first | exact Nat.le_refl _ | (simp; done) | (simp; omega) | omega) _ | with_reducible refine Below.setCell ?_ (by first | exact Nat.le_refl _ | (simp; done) | (simp; omega) | omega) _))
      have C' : Cur (Own F [w.heap.size + 1]) w (wr.setCell ⟨w.heap.size + 1 + 1, j, none⟩ (.int .u64 (u : Nat))).drew := Cur.mk (by (repeat (first | with_reducible exact Keeps.refl _ _ | with_reducible assumption | with_reducible refine Keeps.drew ?_ | with_reducible refine Keeps.drewN ?_ _ | with_reducible refine Keeps.alloc ?_ _ | with_reducible refine Keeps.set ?_ (by first | (simp [Own]; done) | exact .inr (by first | (simp; done) | (simp; omega) | omega)) _ | with_reducible refine Keeps.trans ?_ (by assumption))))
      have l0 := l0'.drew
      have l1 := l1'.drew
      have l2 := l2'.drew
      clear l0' l1' l2' c0 c2 f2 k2 hcx BW C K
      revert l0 l1 l2 BW' C'
      generalize (wr.setCell ⟨w.heap.size + 1 + 1, j, none⟩ (.int .u64 (u : Nat))).drew = wP
      intro BW C l0 l1 l2
      have K : Keeps (Own F [w.heap.size + 1]) w wP := C
      have c2 := l2.cell
      have f2 := l2.frozen
      have k2 : (wa (upd f j u) (nw x + 1))[j + 1]? = some (.int .u64 (upd f j u (j + 1) : Nat)) := wa_at _ _ _ (by omega)
      go_wp2_with fail
      rw [show ((wd x j : Nat) : Int) / 2 ^ (64 - k) = ((wd x j / 2 ^ (64 - k) : Nat) : Int) by simp]
      go_roundw
      case rel =>
        have l2' := l2.set_ (j + 1) (.int .u64 (wd x j / 2 ^ (64 - k) : Nat))
        rw [wa_upd] at l2'
        exact ⟨j + 1, _, rfl, by omega, shl_step x k f _ j u _ hI.out hk HU.out rfl, Cur.mk (by (repeat (first | with_reducible exact Keeps.refl _ _ | with_reducible assumption | with_reducible refine Keeps.drew ?_ | with_reducible refine Keeps.drewN ?_ _ | with_reducible refine Keeps.alloc ?_ _ | with_reducible refine Keeps.set ?_ (by first | (simp [Own]; done) | exact .inr (by first | (simp; done) | (simp; omega) | omega)) _ | with_reducible refine Keeps.trans ?_ (by assumption)))), by (repeat (first | with_reducible exact Below.refl _ _ | with_reducible assumption | with_reducible refine Below.drew ?_ | with_reducible refine below_drewN ?_ _ | with_reducible refine Below.alloc ?_ (by first | exact Nat.le_refl _ | (simp; done) | (simp; omega) | omega) _ | with_reducible refine Below.setCell ?_ (by first | exact Nat.le_refl _ | (simp; done) | (simp; omega) | omega) _)), l0.far (by first | (simp; done) | (simp; omega)) _, l1.far (by first | (simp; done) | (simp; omega)) _, l2'⟩
      case measure => simp [intOf]; omega
    · obtain rfl : nw x = j := by omega
      have hv := Lib.hid (shl_end x k f hI.out)
      have hsl := Lib.hid (blk_slice (G := Own F [w.heap.size + 1]) l2 (by intro hh; rcases hh with hh | hh; exact absurd (hF _ hh) (by omega); simp at hh))
      have hwf := Lib.hid hI.out.1
      go_wp2_with fail
      (refine (nTrim (Own F [w.heap.size + 1]) (some ⟨w.heap.size + 1 + 1, 0, none⟩) (nw x + 1) (nw x + 1) f _ hsl.out (blk_typ l2) hwf.out (by rw [hv.out]; exact hs) (Nat.le_refl _) (by unfold maxLen; omega)).mono ?_; rintro e wM ⟨v', rfl, hr, hb⟩; obtain ⟨A', n', c', rfl⟩ := hr.form; obtain ⟨K, C⟩ := Cur.step C (by (repeat (first | with_reducible exact Keeps.refl _ _ | with_reducible assumption | with_reducible refine Keeps.drew ?_ | with_reducible refine Keeps.drewN ?_ _ | with_reducible refine Keeps.alloc ?_ _ | with_reducible refine Keeps.set ?_ (by first | (simp [Own]; done) | exact .inr (by first | (simp; done) | (simp; omega) | omega)) _ | with_reducible refine Keeps.trans ?_ (by assumption)))) hb; have BW := below_next (w := w) (by (repeat (first | with_reducible exact Below.refl _ _ | with_reducible assumption | with_reducible refine Below.drew ?_ | with_reducible refine below_drewN ?_ _ | with_reducible refine Below.alloc ?_ (by first | exact Nat.le_refl _ | (simp; done) | (simp; omega) | omega) _ | with_reducible refine Below.setCell ?_ (by first | exact Nat.le_refl _ | (simp; done) | (simp; omega) | omega) _))) hb; have l1 := Blk.next l1 (fun h => by (repeat (first | with_reducible assumption | with_reducible refine Blk.drew ?_ | with_reducible refine Blk.drewN ?_ _ | with_reducible refine Blk.alloc ?_ _ | with_reducible refine Blk.far ?_ (by simp; try omega) _))) hb; have c1 := l1.cell; have f1 := l1.frozen; have z1 := l1.lt)
      rw [hv.out] at hr
      have H := Lib.hid hr
      clear hr
      go_wp2_with fail
      exact bodyPost_ret (v := .tuple #[.agg #[.slice A' n' c'], .bool true]) (by simp [results, Try.results109, go_sem, c1]) rfl ⟨_, rfl, (H.out.keep (by (repeat (first | with_reducible exact Keeps.refl _ _ | with_reducible assumption | with_reducible refine Keeps.drew ?_ | with_reducible refine Keeps.drewN ?_ _ | with_reducible refine Keeps.alloc ?_ _ | with_reducible refine Keeps.set ?_ (by first | (simp [Own]; done) | exact .inr (by first | (simp; done) | (simp; omega) | omega)) _ | with_reducible refine Keeps.trans ?_ (by assumption))))).sub Own.sub, by (repeat (first | with_reducible exact Below.refl _ _ | with_reducible assumption | with_reducible refine Below.drew ?_ | with_reducible refine below_drewN ?_ _ | with_reducible refine Below.alloc ?_ (by first | exact Nat.le_refl _ | (simp; done) | (simp; omega) | omega) _ | with_reducible refine Below.setCell ?_ (by first | exact Nat.le_refl _ | (simp; done) | (simp; omega) | omega) _))⟩
set_option maxRecDepth 100000 in
set_option maxHeartbeats 1000000 in
theorem nShl_nil (F : Nat → Prop) (A : Option Addr) (c : Nat) (k : Nat) (w : World) (hF : Lows F w) (hk : k < 64) :
    Calls Try.prog 109 #[.agg #[.slice A 0 c], .int .i64 (k : Nat)] w fun e w' => ∃ v, e = .returned (.tuple #[v, .bool true]) ∧ NatAt F w' v 0 ∧ Below w.heap.size w w' := by
  have hmk := fun w => mk64 (0 + 1) (by omega) w
  rw [show ((0 + 1 : Nat) : Int) = 1 by simp] at hmk
  have hk0 : (0 : Int) ≤ k := by omega
  have hk1 : (k : Int) < 64 := by omega
  have hq : (k : Int).tdiv 64 = 0 := Int.tdiv_eq_zero_of_lt hk0 hk1
  have hr : (k : Int).tmod 64 = k := Int.tmod_eq_of_lt hk0 hk1
  have l1 := Blk.new_at (w.alloc (.cells #[.slice A 0 c] 31)) 31 #[.slice none 0 0] (w.heap.size + 1) (by simp)
  have C := Cur.start (Own F [w.heap.size + 1]) w
  go_enter Try.func109, Try.ntmps109
  go_wp2_with fail
  have l1' := l1.alloc (.cells (wa (fun _ => 0) (0 + 1)) 105)
  have l2 := Blk.new_at ((w.alloc (.cells #[.slice A 0 c] 31)).alloc (.cells #[.slice none 0 0] 31)) 105 (wa (fun _ => 0) (0 + 1)) (w.heap.size + 1 + 1) (by simp)
  have BW : Below w.heap.size w (((w.alloc (.cells #[.slice A 0 c] 31)).alloc (.cells #[.slice none 0 0] 31)).alloc (.cells (wa (fun _ => 0) (0 + 1)) 105)) := by (repeat (first | with_reducible exact Below.refl _ _ | with_reducible assumption | with_reducible refine Below.drew ?_ | with_reducible refine below_drewN ?_ _ | with_reducible refine Below.alloc ?_ (by first | exact Nat.le_refl _ | (simp; done) | (simp; omega) | omega) _ | with_reducible refine Below.setCell ?_ (by first | exact Nat.le_refl _ | (simp; done) | (simp; omega) | omega) _))
  have C' : Cur (Own F [w.heap.size + 1]) w (((w.alloc (.cells #[.slice A 0 c] 31)).alloc (.cells #[.slice none 0 0] 31)).alloc (.cells (wa (fun _ => 0) (0 + 1)) 105)) := Cur.mk (by (repeat (first | with_reducible exact Keeps.refl _ _ | with_reducible assumption | with_reducible refine Keeps.drew ?_ | with_reducible refine Keeps.drewN ?_ _ | with_reducible refine Keeps.alloc ?_ _ | with_reducible refine Keeps.set ?_ (by first | (simp [Own]; done) | exact .inr (by first | (simp; done) | (simp; omega) | omega)) _ | with_reducible refine Keeps.trans ?_ (by assumption))))
  clear C l1
  go_loopw [30] (fun i wr => i = .int .i64 0 ∧ Cur (Own F [w.heap.size + 1]) w wr ∧ Below w.heap.size w wr ∧ Blk wr (w.heap.size + 1) 31 #[.slice none 0 0] ∧ Blk wr (w.heap.size + 1 + 1) 105 (wa (fun _ => 0) (0 + 1))) (fun _ _ => 0)
  case atStart => exact ⟨rfl, C', BW, l1', l2⟩
  case round =>
    obtain ⟨rfl, C, BW, l1, l2⟩ := hrel
    have K : Keeps (Own F [w.heap.size + 1]) w wr := C
    have hsl := Lib.hid (blk_slice (G := Own F [w.heap.size + 1]) l2 (by intro hh; rcases hh with hh | hh; exact absurd (hF _ hh) (by omega); simp at hh))
    go_wp2_with fail
    (refine (nTrim (Own F [w.heap.size + 1]) (some ⟨w.heap.size + 1 + 1, 0, none⟩) (0 + 1) (0 + 1) (fun _ => 0) _ hsl.out (blk_typ l2) (fun _ _ => by show (0 : Nat) < _; omega) (by simp [val]; exact Nat.zero_le _) (Nat.le_refl _) (by unfold maxLen; omega)).mono ?_; rintro e wM ⟨v', rfl, hr, hb⟩; obtain ⟨A', n', c', rfl⟩ := hr.form; obtain ⟨K, C⟩ := Cur.step C (by (repeat (first | with_reducible exact Keeps.refl _ _ | with_reducible assumption | with_reducible refine Keeps.drew ?_ | with_reducible refine Keeps.drewN ?_ _ | with_reducible refine Keeps.alloc ?_ _ | with_reducible refine Keeps.set ?_ (by first | (simp [Own]; done) | exact .inr (by first | (simp; done) | (simp; omega) | omega)) _ | with_reducible refine Keeps.trans ?_ (by assumption)))) hb; have BW := below_next (w := w) (by (repeat (first | with_reducible exact Below.refl _ _ | with_reducible assumption | with_reducible refine Below.drew ?_ | with_reducible refine below_drewN ?_ _ | with_reducible refine Below.alloc ?_ (by first | exact Nat.le_refl _ | (simp; done) | (simp; omega) | omega) _ | with_reducible refine Below.setCell ?_ (by first | exact Nat.le_refl _ | (simp; done) | (simp; omega) | omega) _))) hb; have l1 := Blk.next l1 (fun h => by (repeat (first | with_reducible assumption | with_reducible refine Blk.drew ?_ | with_reducible refine Blk.drewN ?_ _ | with_reducible refine Blk.alloc ?_ _ | with_reducible refine Blk.far ?_ (by simp; try omega) _))) hb; have c1 := l1.cell; have f1 := l1.frozen; have z1 := l1.lt)
    rw [show val (fun _ => 0) (0 + 1) = 0 from rfl] at hr
    have H := Lib.hid hr
    clear hr
    go_wp2_with fail
    exact bodyPost_ret (v := .tuple #[.agg #[.slice A' n' c'], .bool true]) (by simp [results, Try.results109, go_sem, c1]) rfl ⟨_, rfl, (H.out.keep (by (repeat (first | with_reducible exact Keeps.refl _ _ | with_reducible assumption | with_reducible refine Keeps.drew ?_ | with_reducible refine Keeps.drewN ?_ _ | with_reducible refine Keeps.alloc ?_ _ | with_reducible refine Keeps.set ?_ (by first | (simp [Own]; done) | exact .inr (by first | (simp; done) | (simp; omega) | omega)) _ | with_reducible refine Keeps.trans ?_ (by assumption))))).sub Own.sub, by (repeat (first | with_reducible exact Below.refl _ _ | with_reducible assumption | with_reducible refine Below.drew ?_ | with_reducible refine below_drewN ?_ _ | with_reducible refine Below.alloc ?_ (by first | exact Nat.le_refl _ | (simp; done) | (simp; omega) | omega) _ | with_reducible refine Below.setCell ?_ (by first | exact Nat.le_refl _ | (simp; done) | (simp; omega) | omega) _))⟩
theorem nShl (F : Nat → Prop) (va : Value) (x k : Nat) (w : World) (hF : Lows F w) (ha : NatAt F w va x) (hk : k < 64) (hs : Small (x * 2 ^ k)) :
    Calls Try.prog 109 #[va, .int .i64 (k : Nat)] w fun e w' => ∃ v, e = .returned (.tuple #[v, .bool true]) ∧ NatAt F w' v (x * 2 ^ k) ∧ Below w.heap.size w w' := by
  have ha0 := ha
  obtain ⟨A, c, rfl, _, _, _, hw⟩ := ha
  by_cases h0 : nw x = 0
  · obtain rfl := (nw_eq_zero x).1 h0
    rw [Nat.zero_mul]
    exact nShl_nil F A c k w hF hk
  · obtain ⟨g, o, rfl, _⟩ := hw 0 (by omega)
    exact nShl_pos F g o c x k w hF ha0 hk hs
end Go.Proofs.Ytngghjhmfpmilaa
