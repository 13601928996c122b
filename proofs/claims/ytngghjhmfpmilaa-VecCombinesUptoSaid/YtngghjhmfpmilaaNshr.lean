/- nat.Shr. -/
import Derived.Test.YtngghjhmfpmilaaNshl
namespace Go.Proofs.Ytngghjhmfpmilaa
open Go.RowKit
theorem wrapI {n : Int} (h0 : -9223372036854775808 ≤ n) (h1 : n < 9223372036854775808) : IntKind.i64.wrap n = n := by rw [IntKind.wrap_i64]; omega
theorem or_shr (a b k : Nat) (ha : a < 18446744073709551616) (hk : k < 64) : bits .or .u64 ((a : Int) / 2 ^ k) (IntKind.u64.wrap ((b : Int) * 2 ^ (64 - k))) = ((a / 2 ^ k + b * 2 ^ (64 - k) % 18446744073709551616 : Nat) : Int) := by
  have h1 : IntKind.u64.wrap ((b : Int) * 2 ^ (64 - k)) = ((b * 2 ^ (64 - k) % 18446744073709551616 : Nat) : Int) := by rw [IntKind.wrap_u64]; simp
  have h0 : ((a : Int) / 2 ^ k) = ((a / 2 ^ k : Nat) : Int) := by simp
  have e64 : (18446744073709551616 : Nat) = 2 ^ (64 - k) * 2 ^ k := by rw [← Nat.pow_add, show 64 - k + k = 64 by omega]
  have h4 : a / 2 ^ k < 2 ^ (64 - k) := by rw [Nat.div_lt_iff_lt_mul (Nat.two_pow_pos _), ← e64]; exact ha
  have h2 : a / 2 ^ k < 18446744073709551616 := Nat.lt_of_le_of_lt (Nat.div_le_self _ _) ha
  have h3 : (b * 2 ^ (64 - k) % 18446744073709551616) % 2 ^ (64 - k) = 0 := by
    rw [e64, Nat.mod_mul_right_mod]; simp
  rw [h0, h1, u64_or_nat _ _ h2 (Nat.mod_lt _ (by omega)), Nat.or_comm, nat_join (64 - k) _ _ h3 h4, Nat.add_comm]
theorem wd_shr (x k i : Nat) (hk : k < 64) : wd (x / 2 ^ k) i = wd x i / 2 ^ k + wd x (i + 1) * 2 ^ (64 - k) % 18446744073709551616 := by
  have e64 : (18446744073709551616 : Nat) = 2 ^ k * 2 ^ (64 - k) := by rw [← Nat.pow_add, show k + (64 - k) = 64 by omega]
  have hL : x / 2 ^ k / 2 ^ (64 * i) = x / 2 ^ (64 * i) / 2 ^ k := by rw [Nat.div_div_eq_div_mul, Nat.mul_comm (2 ^ k), ← Nat.div_div_eq_div_mul]
  have h1 : x / 2 ^ (64 * i) = x / 2 ^ (64 * i) % 18446744073709551616 + 18446744073709551616 * (x / 2 ^ (64 * (i + 1))) := by
    have := hi_step x i
    unfold wd at this
    omega
  have hw : x / 2 ^ (64 * i) % 18446744073709551616 < 18446744073709551616 := Nat.mod_lt _ (by omega)
  unfold wd
  rw [hL]
  generalize x / 2 ^ (64 * (i + 1)) = z at *
  generalize x / 2 ^ (64 * i) = y at *
  generalize y % 18446744073709551616 = a at *
  subst h1
  have h2 : (a + 18446744073709551616 * z) / 2 ^ k = a / 2 ^ k + 2 ^ (64 - k) * z := by
    rw [e64, Nat.mul_assoc, Nat.add_mul_div_left _ _ (Nat.two_pow_pos _)]
  have h3 : z % 18446744073709551616 * 2 ^ (64 - k) % 18446744073709551616 = 2 ^ (64 - k) * (z % 2 ^ k) := by
    rw [e64, Nat.mul_comm (2 ^ k) (2 ^ (64 - k)), Nat.mul_comm (z % _), Nat.mul_mod_mul_left, Nat.mod_mul_left_mod]
  have h4 : (2 ^ (64 - k) * z) % 18446744073709551616 = 2 ^ (64 - k) * (z % 2 ^ k) := by
    rw [e64, Nat.mul_comm (2 ^ k) (2 ^ (64 - k)), Nat.mul_mod_mul_left]
  have h5 : a / 2 ^ k < 2 ^ (64 - k) := by rw [Nat.div_lt_iff_lt_mul (Nat.two_pow_pos _), Nat.mul_comm, ← e64]; exact hw
  have h6 : 2 ^ (64 - k) * (z % 2 ^ k + 1) ≤ 18446744073709551616 := by
    rw [e64, Nat.mul_comm (2 ^ k)]
    exact Nat.mul_le_mul_left _ (Nat.mod_lt _ (Nat.two_pow_pos _))
  rw [Nat.mul_add, Nat.mul_one] at h6
  rw [h2, h3, Nat.add_mod, h4, Nat.mod_eq_of_lt (Nat.lt_of_lt_of_le h5 (by omega)), Nat.mod_eq_of_lt (by omega)]
def ShrInv (x k : Nat) (f : Nat → Nat) (N j : Nat) : Prop := Wf f N ∧ ∀ i, i < j → f i = wd (x / 2 ^ k) i
theorem shr_step (x k : Nat) (f : Nat → Nat) (N j u : Nat) (h : ShrInv x k f N j) (hk : k < 64) (hu : u = wd x j / 2 ^ k + wd x (j + 1) * 2 ^ (64 - k) % 18446744073709551616) : ShrInv x k (upd f j u) N (j + 1) := by
  rw [← wd_shr x k j hk] at hu
  refine ⟨wf_upd _ _ _ _ h.1 (by rw [hu]; exact wd_lt _ _), fun i hi => ?_⟩
  unfold upd
  by_cases e : i = j
  · subst e; rw [if_pos rfl]; exact hu
  · rw [if_neg e]; exact h.2 i (by omega)
theorem shr_end (x k : Nat) (f : Nat → Nat) (h : ShrInv x k f (nw x) (nw x)) : val f (nw x) = x / 2 ^ k := by
  rw [val_congr f (wd (x / 2 ^ k)) _ h.2, val_all _ _ (nw_mono (Nat.div_le_self _ _))]
set_option maxRecDepth 100000 in
set_option maxHeartbeats 1000000 in
theorem nShr_pos (F : Nat → Prop) (A : Option Addr) (c : Nat) (x k : Nat) (w : World) (hF : Lows F w) (ha : NatAt F w (.agg #[.slice A (nw x) c]) x) (hk : k < 64) (h0 : 0 < nw x) :
    Calls Try.prog 113 #[.agg #[.slice A (nw x) c], .int .i64 (k : Nat)] w fun e w' => ∃ v, e = .returned v ∧ NatAt F w' v (x / 2 ^ k) ∧ Below w.heap.size w w' := by
  have hx := ha.own (G := Own F [w.heap.size + 1]) (Own.new (by simp))
  have hsx := ha.small
  clear ha
  unfold Small at hsx
  have hmk := fun w => mk64 (nw x) (by omega) w
  have hx0 := Lib.hid hx
  clear hx
  have hk0 : (0 : Int) ≤ k := by omega
  have hk1 : (k : Int) < 64 := by omega
  have hq : (k : Int).tdiv 64 = 0 := Int.tdiv_eq_zero_of_lt hk0 hk1
  have hr : (k : Int).tmod 64 = k := Int.tmod_eq_of_lt hk0 hk1
  have h0' : ¬ ((nw x : Int) ≤ 0) := by omega
  have l0 := (Blk.new w 31 #[.slice A (nw x) c]).alloc (.cells #[.slice none 0 0] 31)
  have l1 := Blk.new_at (w.alloc (.cells #[.slice A (nw x) c] 31)) 31 #[.slice none 0 0] (w.heap.size + 1) (by simp)
  have C := Cur.start (Own F [w.heap.size + 1]) w
  go_enter Try.func113, Try.ntmps113
  go_wp2_with fail
  go_loopw [30] (fun i wr => ∃ (j : Nat) (f : Nat → Nat), i = .int .i64 j ∧ j ≤ nw x ∧ ShrInv x k f (nw x) j ∧ Cur (Own F [w.heap.size + 1]) w wr ∧ Below w.heap.size w wr ∧
      Blk wr w.heap.size 31 #[.slice A (nw x) c] ∧ Blk wr (w.heap.size + 1) 31 #[.slice none 0 0] ∧ Blk wr (w.heap.size + 1 + 1) 105 (wa f (nw x))) (fun i wr => nw x - (intOf i).toNat)
  case atStart =>
    refine ⟨0, fun _ => 0, rfl, by omega, ⟨fun i hi => by show 0 < _; omega, fun _ h => by omega⟩, Cur.mk (by (repeat (first | with_reducible exact Keeps.refl _ _ | with_reducible assumption | with_reducible refine Keeps.drew ?_ | with_reducible refine Keeps.drewN ?_ _ | with_reducible refine Keeps.alloc ?_ _ | with_reducible refine Keeps.set ?_ (by first | (simp [Own]; done) | exact .inr (by first | (simp; done) | (simp; omega) | omega)) _ | with_reducible refine Keeps.trans ?_ (by assumption)))), by (repeat (first | with_reducible exact Below.refl _ _ | with_reducible assumption | with_reducible refine Below.drew ?_ | with_reducible refine below_drewN ?_ _ | with_reducible refine Below.alloc ?_ (by first | exact Nat.le_refl _ | (simp; done) | (simp; omega) | omega) _ | with_reducible refine Below.setCell ?_ (by first | exact Nat.le_refl _ | (simp; done) | (simp; omega) | omega) _)), l0.alloc _, l1.alloc _, Blk.new_at _ _ _ _ (by simp)⟩
  case round =>
    obtain ⟨j, f, rfl, hj, hi, C, BW, l0, l1, l2⟩ := hrel
    have K : Keeps (Own F [w.heap.size + 1]) w wr := C
    have hI := Lib.hid hi
    clear hi
    by_cases hlt : j < nw x
    · have k2 : (wa f (nw x))[j]? = some (.int .u64 (f j : Nat)) := wa_at f _ j (by omega)
      have c0 := l0.cell
      have c2 := l2.cell
      have f2 := l2.frozen
      have hj0 : (0 : Int) ≤ j := by omega
      have hj1 : (j : Int) < (nw x : Int) := by omega
      have hw0 : IntKind.i64.wrap 0 = 0 := by decide
      have hw1 : IntKind.i64.wrap (j : Int) = j := wrapI (by omega) (by omega)
      have hw2 : IntKind.i64.wrap ((j : Int) + 1) = (j : Int) + 1 := wrapI (by omega) (by omega)
      have hw3 : IntKind.i64.wrap (64 - (k : Int)) = 64 - (k : Int) := wrapI (by omega) (by omega)
      have hw4 : (0 : Int) ≤ 64 - (k : Int) := by omega
      have hw5 : (64 : Int) - (k : Int) ≤ 64 := by omega
      go_wp2_with fail
      go_region_held3 (fun w' => (∀ i, w'.cell? ⟨w.heap.size, i, none⟩ = (#[.slice A (nw x) c] : Array Value)[i]?))
        (first | exact l0.cell | exact (l0.far (by first | (simp; done) | (simp; omega)) _).cell | go_keep)
        (first
          | (go_at_call 92; refine (nWord (Own F [w.heap.size + 1]) _ _ _ (by omega) _ (NatAt.keep hx0.out (by (repeat (first | with_reducible exact Keeps.refl _ _ | with_reducible assumption | with_reducible refine Keeps.drew ?_ | with_reducible refine Keeps.drewN ?_ _ | with_reducible refine Keeps.alloc ?_ _ | with_reducible refine Keeps.set ?_ (by first | (simp [Own]; done) | exact .inr (by first | (simp; done) | (simp; omega) | omega)) _ | with_reducible refine Keeps.trans ?_ (by assumption)))))).mono ?_; rintro e wM ⟨rfl, hb⟩; obtain ⟨K, C⟩ := Cur.step C (by (repeat (first | with_reducible exact Keeps.refl _ _ | with_reducible assumption | with_reducible refine Keeps.drew ?_ | with_reducible refine Keeps.drewN ?_ _ | with_reducible refine Keeps.alloc ?_ _ | with_reducible refine Keeps.set ?_ (by first | (simp [Own]; done) | exact .inr (by first | (simp; done) | (simp; omega) | omega)) _ | with_reducible refine Keeps.trans ?_ (by assumption)))) hb; have BW := below_next (w := w) (by (repeat (first | with_reducible exact Below.refl _ _ | with_reducible assumption | with_reducible refine Below.drew ?_ | with_reducible refine below_drewN ?_ _ | with_reducible refine Below.alloc ?_ (by first | exact Nat.le_refl _ | (simp; done) | (simp; omega) | omega) _ | with_reducible refine Below.setCell ?_ (by first | exact Nat.le_refl _ | (simp; done) | (simp; omega) | omega) _))) hb; have l0 := Blk.next l0 (fun h => by (repeat (first | with_reducible assumption | with_reducible refine Blk.drew ?_ | with_reducible refine Blk.drewN ?_ _ | with_reducible refine Blk.alloc ?_ _ | with_reducible refine Blk.far ?_ (by simp; try omega) _))) hb; have l1 := Blk.next l1 (fun h => by (repeat (first | with_reducible assumption | with_reducible refine Blk.drew ?_ | with_reducible refine Blk.drewN ?_ _ | with_reducible refine Blk.alloc ?_ _ | with_reducible refine Blk.far ?_ (by simp; try omega) _))) hb; have l2 := Blk.next l2 (fun h => by (repeat (first | with_reducible assumption | with_reducible refine Blk.drew ?_ | with_reducible refine Blk.drewN ?_ _ | with_reducible refine Blk.alloc ?_ _ | with_reducible refine Blk.far ?_ (by simp; try omega) _))) hb; have c0 := l0.cell; have f0 := l0.frozen; have z0 := l0.lt; have c1 := l1.cell; have f1 := l1.frozen; have z1 := l1.lt; have c2 := l2.cell; have f2 := l2.frozen; have z2 := l2.lt))
      rw [or_shr (wd x j) (wd x (j + 1)) k (wd_lt _ _) hk]
      obtain ⟨u, hu⟩ : ∃ u : Nat, u = wd x j / 2 ^ k + wd x (j + 1) * 2 ^ (64 - k) % 18446744073709551616 := ⟨_, rfl⟩
      rw [← hu]
      have HU := Lib.hid hu
      clear hu
      go_wp2_with fail
      go_roundw
      case rel =>
        have KW : Keeps (Own F [w.heap.size + 1]) w wM := C
        have l2' := l2.set_ j (.int .u64 (u : Nat))
        rw [wa_upd] at l2'
        exact ⟨j + 1, _, rfl, by omega, shr_step x k f _ j u hI.out hk HU.out, Cur.mk (by (repeat (first | with_reducible exact Keeps.refl _ _ | with_reducible assumption | with_reducible refine Keeps.drew ?_ | with_reducible refine Keeps.drewN ?_ _ | with_reducible refine Keeps.alloc ?_ _ | with_reducible refine Keeps.set ?_ (by first | (simp [Own]; done) | exact .inr (by first | (simp; done) | (simp; omega) | omega)) _ | with_reducible refine Keeps.trans ?_ (by assumption)))), by (repeat (first | with_reducible exact Below.refl _ _ | with_reducible assumption | with_reducible refine Below.drew ?_ | with_reducible refine below_drewN ?_ _ | with_reducible refine Below.alloc ?_ (by first | exact Nat.le_refl _ | (simp; done) | (simp; omega) | omega) _ | with_reducible refine Below.setCell ?_ (by first | exact Nat.le_refl _ | (simp; done) | (simp; omega) | omega) _)), l0.far (by first | (simp; done) | (simp; omega)) _, l1.far (by first | (simp; done) | (simp; omega)) _, l2'⟩
      case measure => simp [intOf]; omega
    · obtain rfl : nw x = j := by omega
      have hv := Lib.hid (shr_end x k f hI.out)
      have hsl := Lib.hid (blk_slice (G := Own F [w.heap.size + 1]) l2 (by intro hh; rcases hh with hh | hh; exact absurd (hF _ hh) (by omega); simp at hh))
      have hwf := Lib.hid hI.out.1
      go_wp2_with fail
      (refine (nTrim (Own F [w.heap.size + 1]) (some ⟨w.heap.size + 1 + 1, 0, none⟩) (nw x) (nw x) f _ hsl.out (blk_typ l2) hwf.out (by rw [hv.out]; exact Nat.le_trans (nw_mono (Nat.div_le_self _ _)) hsx) (Nat.le_refl _) (by unfold maxLen; omega)).mono ?_; rintro e wM ⟨v', rfl, hr, hb⟩; obtain ⟨A', n', c', rfl⟩ := hr.form; obtain ⟨K, C⟩ := Cur.step C (by (repeat (first | with_reducible exact Keeps.refl _ _ | with_reducible assumption | with_reducible refine Keeps.drew ?_ | with_reducible refine Keeps.drewN ?_ _ | with_reducible refine Keeps.alloc ?_ _ | with_reducible refine Keeps.set ?_ (by first | (simp [Own]; done) | exact .inr (by first | (simp; done) | (simp; omega) | omega)) _ | with_reducible refine Keeps.trans ?_ (by assumption)))) hb; have BW := below_next (w := w) (by (repeat (first | with_reducible exact Below.refl _ _ | with_reducible assumption | with_reducible refine Below.drew ?_ | with_reducible refine below_drewN ?_ _ | with_reducible refine Below.alloc ?_ (by first | exact Nat.le_refl _ | (simp; done) | (simp; omega) | omega) _ | with_reducible refine Below.setCell ?_ (by first | exact Nat.le_refl _ | (simp; done) | (simp; omega) | omega) _))) hb; have l1 := Blk.next l1 (fun h => by (repeat (first | with_reducible assumption | with_reducible refine Blk.drew ?_ | with_reducible refine Blk.drewN ?_ _ | with_reducible refine Blk.alloc ?_ _ | with_reducible refine Blk.far ?_ (by simp; try omega) _))) hb; have c1 := l1.cell; have f1 := l1.frozen; have z1 := l1.lt)
      rw [hv.out] at hr
      have H := Lib.hid hr
      clear hr
      go_wp2_with fail
      exact bodyPost_ret (v := .agg #[.slice A' n' c']) (by simp [results, Try.results113, go_sem, c1]) rfl ⟨_, rfl, (H.out.keep (by (repeat (first | with_reducible exact Keeps.refl _ _ | with_reducible assumption | with_reducible refine Keeps.drew ?_ | with_reducible refine Keeps.drewN ?_ _ | with_reducible refine Keeps.alloc ?_ _ | with_reducible refine Keeps.set ?_ (by first | (simp [Own]; done) | exact .inr (by first | (simp; done) | (simp; omega) | omega)) _ | with_reducible refine Keeps.trans ?_ (by assumption))))).sub Own.sub, by (repeat (first | with_reducible exact Below.refl _ _ | with_reducible assumption | with_reducible refine Below.drew ?_ | with_reducible refine below_drewN ?_ _ | with_reducible refine Below.alloc ?_ (by first | exact Nat.le_refl _ | (simp; done) | (simp; omega) | omega) _ | with_reducible refine Below.setCell ?_ (by first | exact Nat.le_refl _ | (simp; done) | (simp; omega) | omega) _))⟩
set_option maxHeartbeats 1000000 in
theorem nShr_nil (F : Nat → Prop) (A : Option Addr) (c k : Nat) (w : World) (hk : k < 64) :
    Calls Try.prog 113 #[.agg #[.slice A 0 c], .int .i64 (k : Nat)] w fun e w' => ∃ v, e = .returned v ∧ NatAt F w' v 0 ∧ Below w.heap.size w w' := by
  have hk0 : (0 : Int) ≤ k := by omega
  have hk1 : (k : Int) < 64 := by omega
  have hq : (k : Int).tdiv 64 = 0 := Int.tdiv_eq_zero_of_lt hk0 hk1
  have l1 := Blk.new_at (w.alloc (.cells #[.slice A 0 c] 31)) 31 #[.slice none 0 0] (w.heap.size + 1) (by simp)
  go_enter Try.func113, Try.ntmps113
  go_wp2_with fail
  exact bodyPost_ret (v := .agg #[.slice none 0 0]) (by simp [results, Try.results113, go_sem, l1.cell]) rfl ⟨_, rfl, NatAt.zero _ _, by (repeat (first | with_reducible exact Below.refl _ _ | with_reducible assumption | with_reducible refine Below.drew ?_ | with_reducible refine below_drewN ?_ _ | with_reducible refine Below.alloc ?_ (by first | exact Nat.le_refl _ | (simp; done) | (simp; omega) | omega) _ | with_reducible refine Below.setCell ?_ (by first | exact Nat.le_refl _ | (simp; done) | (simp; omega) | omega) _))⟩
theorem nShr (F : Nat → Prop) (va : Value) (x k : Nat) (w : World) (hF : Lows F w) (ha : NatAt F w va x) (hk : k < 64) :
    Calls Try.prog 113 #[va, .int .i64 (k : Nat)] w fun e w' => ∃ v, e = .returned v ∧ NatAt F w' v (x / 2 ^ k) ∧ Below w.heap.size w w' := by
  have ha0 := ha
  obtain ⟨A, c, rfl, _, _, _, hw⟩ := ha
  by_cases h0 : nw x = 0
  · obtain rfl := (nw_eq_zero x).1 h0
    rw [Nat.zero_div]
    exact nShr_nil F A c k w hk
  · exact nShr_pos F A c x k w hF ha0 hk (by omega)
end Go.Proofs.Ytngghjhmfpmilaa
