/- nat.Add. -/
import Derived.Test.YtngghjhmfpmilaaNat
namespace Go.Proofs.Ytngghjhmfpmilaa
open Go.RowKit

/-- the sum so far -/
def AddInv (x y : Nat) (f : Nat → Nat) (N k c : Nat) : Prop := Wf f N ∧ c ≤ 1 ∧ val f k + c * 2 ^ (64 * k) = val (wd x) k + val (wd y) k
theorem addInv_step (x y : Nat) (f : Nat → Nat) (N k c s d : Nat) (h : AddInv x y f N k c) (hs : s < 18446744073709551616) (hd : d ≤ 1) (e : s + 18446744073709551616 * d = wd x k + wd y k + c) : AddInv x y (upd f k s) N (k + 1) d := by
  obtain ⟨h1, h2, h3⟩ := h
  refine ⟨wf_upd f N k s h1 hs, hd, ?_⟩
  rw [val_upd_succ, p64, val, val]
  have e2 : s * 2 ^ (64 * k) + d * (18446744073709551616 * 2 ^ (64 * k)) = (wd x k + wd y k + c) * 2 ^ (64 * k) := by
    rw [← e, Nat.add_mul, Nat.mul_comm 18446744073709551616 d, Nat.mul_assoc]
  rw [Nat.add_mul, Nat.add_mul] at e2
  omega
theorem addInv_end (x y : Nat) (f : Nat → Nat) (N c : Nat) (h : AddInv x y f N N c) (hx : nw x < N) (hy : nw y < N) : val f N = x + y := by
  obtain ⟨h1, h2, h3⟩ := h
  rw [val_all x N (by omega), val_all y N (by omega)] at h3
  have hxy : x + y < 2 ^ (64 * N) := by
    obtain ⟨n, rfl⟩ : ∃ n, N = n + 1 := ⟨N - 1, by omega⟩
    have a1 := (nw_le x n).1 (by omega)
    have a2 := (nw_le y n).1 (by omega)
    rw [p64]; omega
  have : c = 0 := by
    rcases Nat.eq_zero_or_pos c with h | h
    · exact h
    · obtain rfl : c = 1 := by omega
      omega
  subst this
  omega
/-- what word.Add hands over, in natural numbers -/
theorem addRel_nat {a b c : Nat} {s d : Int} (h : AddRel a b c s d) : ∃ s' d' : Nat, s = s' ∧ d = d' ∧ s' < 18446744073709551616 ∧ d' ≤ 1 ∧ s' + 18446744073709551616 * d' = a + b + c := by
  obtain ⟨⟨h1, h2⟩, h3, h4, h5⟩ := h
  obtain ⟨s', rfl⟩ := Int.eq_ofNat_of_zero_le h1
  obtain ⟨d', rfl⟩ := Int.eq_ofNat_of_zero_le h3
  exact ⟨s', d', rfl, rfl, by omega, by omega, by omega⟩
theorem W64_nat {a : Nat} (h : a < 18446744073709551616) : W64 (a : Int) := ⟨by omega, by omega⟩
theorem W64_wd (x k : Nat) : W64 (wd x k : Nat) := W64_nat (wd_lt x k)
/-- n words at block O -/
theorem blk_slice {G : Nat → Prop} {w : World} {O n : Nat} {f : Nat → Nat} (h : Blk w O 105 (wa f n)) (hG : ¬ G O) : USlice G w (some ⟨O, 0, none⟩) n f := fun i hi =>
  ⟨O, 0, rfl, hG, h.lt, by rw [Nat.zero_add, h.cell, wa_at f n i hi]⟩

set_option maxRecDepth 100000 in
set_option maxHeartbeats 1000000 in
theorem nAdd_x (F : Nat → Prop) (va vb : Value) (x y : Nat) (w : World) (hF : Lows F w) (ha : NatAt F w va x) (hb : NatAt F w vb y) (hs : Small (x + y)) (hN : nw y ≤ nw x) :
    Calls Try.prog 76 #[va, vb] w fun e w' => ∃ v, e = .returned v ∧ NatAt F w' v (x + y) ∧ Below w.heap.size w w' := by
  have hx := ha.own (G := Own F [w.heap.size + 1 + 1]) (Own.new (by simp; omega))
  have hy := hb.own (G := Own F [w.heap.size + 1 + 1]) (Own.new (by simp; omega))
  obtain ⟨A, c, rfl, _, _, hsx, _⟩ := ha
  obtain ⟨B, d, rfl, _, _, hsy, _⟩ := hb
  unfold Small at hsx hsy
  have hNI : (nw y : Int) ≤ nw x := by omega
  have hmk := fun w => mk64 (nw x + 1) (by omega) w
  rw [show ((nw x + 1 : Nat) : Int) = (nw x : Int) + 1 by simp] at hmk
  have hx0 := Lib.hid hx
  have hy0 := Lib.hid hy
  clear hx hy
  go_enter Try.func76, Try.ntmps76
  go_wp2_with fail
  go_loopw [6, 19] (fun cc i wr => ∃ (k c' : Nat) (f : Nat → Nat), i = .int .i64 k ∧ cc = .int .u64 c' ∧ k ≤ nw x + 1 ∧ AddInv x y f (nw x + 1) k c' ∧ Cur (Own F [w.heap.size + 1 + 1]) w wr ∧ Below w.heap.size w wr ∧
      Blk wr w.heap.size 31 #[.slice A (nw x) c] ∧ Blk wr (w.heap.size + 1) 31 #[.slice B (nw y) d] ∧ Blk wr (w.heap.size + 1 + 1) 31 #[.slice none 0 0] ∧ Blk wr (w.heap.size + 1 + 1 + 1) 105 (wa f (nw x + 1))) (fun cc i wr => nw x + 1 - (intOf i).toNat)
  case atStart =>
    refine ⟨0, 0, fun _ => 0, rfl, rfl, by omega, ⟨fun i hi => by show 0 < _; omega, by omega, by simp [val]⟩, Cur.mk (by (repeat (first | with_reducible exact Keeps.refl _ _ | with_reducible assumption | with_reducible refine Keeps.drew ?_ | with_reducible refine Keeps.drewN ?_ _ | with_reducible refine Keeps.alloc ?_ _ | with_reducible refine Keeps.set ?_ (by first | (simp [Own]; done) | exact .inr (by first | (simp; done) | (simp; omega) | omega)) _ | with_reducible refine Keeps.trans ?_ (by assumption)))), by (repeat (first | with_reducible exact Below.refl _ _ | with_reducible assumption | with_reducible refine Below.drew ?_ | with_reducible refine below_drewN ?_ _ | with_reducible refine Below.alloc ?_ (by first | exact Nat.le_refl _ | (simp; done) | (simp; omega) | omega) _ | with_reducible refine Below.setCell ?_ (by first | exact Nat.le_refl _ | (simp; done) | (simp; omega) | omega) _)), ?_, ?_, ?_, ?_⟩
    · exact (((Blk.new w 31 _).alloc _).alloc _).alloc _
    · exact ((Blk.new_at (w.alloc _) 31 _ (w.heap.size + 1) (by simp)).alloc _).alloc _
    · exact (Blk.new_at ((w.alloc _).alloc _) 31 _ (w.heap.size + 1 + 1) (by simp)).alloc _
    · exact Blk.new_at (((w.alloc _).alloc _).alloc _) 105 _ (w.heap.size + 1 + 1 + 1) (by simp)
  case round =>
    obtain ⟨k, c', f, rfl, rfl, hk, hi, C, BW, l0, l1, l2, l3⟩ := hrel
    have K : Keeps (Own F [w.heap.size + 1 + 1]) w wr := C
    have hI := Lib.hid hi
    have hc' : c' ≤ 1 := hi.2.1
    clear hi
    by_cases hlt : k < nw x + 1
    · have k3 : (wa f (nw x + 1))[k]? = some (.int .u64 (f k : Nat)) := wa_at f _ k hlt
      have c0 := l0.cell
      have c1 := l1.cell
      have hk0 : (0 : Int) ≤ k := by omega
      have hk1 : (k : Int) < (nw x : Int) + 1 := by omega
      go_wp2_with fail
      go_region_held3 (fun w' => (∀ o, w'.cell? ⟨w.heap.size, o, none⟩ = (#[.slice A (nw x) c] : Array Value)[o]?) ∧ (∀ o, w'.cell? ⟨w.heap.size + 1, o, none⟩ = (#[.slice B (nw y) d] : Array Value)[o]?))
        (first | exact ⟨l0.cell, l1.cell⟩ | exact ⟨(l0.far (by first | (simp; done) | (simp; omega)) _).cell, (l1.far (by first | (simp; done) | (simp; omega)) _).cell⟩ | go_keep)
        (first
          | (go_at_call 92; refine (nWord (Own F [w.heap.size + 1 + 1]) _ _ _ (by omega) _ (by first | exact NatAt.keep hx0.out (by (repeat (first | with_reducible exact Keeps.refl _ _ | with_reducible assumption | with_reducible refine Keeps.drew ?_ | with_reducible refine Keeps.drewN ?_ _ | with_reducible refine Keeps.alloc ?_ _ | with_reducible refine Keeps.set ?_ (by first | (simp [Own]; done) | exact .inr (by first | (simp; done) | (simp; omega) | omega)) _ | with_reducible refine Keeps.trans ?_ (by assumption)))) | exact NatAt.keep hy0.out (by (repeat (first | with_reducible exact Keeps.refl _ _ | with_reducible assumption | with_reducible refine Keeps.drew ?_ | with_reducible refine Keeps.drewN ?_ _ | with_reducible refine Keeps.alloc ?_ _ | with_reducible refine Keeps.set ?_ (by first | (simp [Own]; done) | exact .inr (by first | (simp; done) | (simp; omega) | omega)) _ | with_reducible refine Keeps.trans ?_ (by assumption)))))).mono ?_; rintro e wM ⟨rfl, hb⟩; obtain ⟨K, C⟩ := Cur.step C (by (repeat (first | with_reducible exact Keeps.refl _ _ | with_reducible assumption | with_reducible refine Keeps.drew ?_ | with_reducible refine Keeps.drewN ?_ _ | with_reducible refine Keeps.alloc ?_ _ | with_reducible refine Keeps.set ?_ (by first | (simp [Own]; done) | exact .inr (by first | (simp; done) | (simp; omega) | omega)) _ | with_reducible refine Keeps.trans ?_ (by assumption)))) hb; have BW := below_next (w := w) (by (repeat (first | with_reducible exact Below.refl _ _ | with_reducible assumption | with_reducible refine Below.drew ?_ | with_reducible refine below_drewN ?_ _ | with_reducible refine Below.alloc ?_ (by first | exact Nat.le_refl _ | (simp; done) | (simp; omega) | omega) _ | with_reducible refine Below.setCell ?_ (by first | exact Nat.le_refl _ | (simp; done) | (simp; omega) | omega) _))) hb; have l0 := Blk.next l0 (fun h => by (repeat (first | with_reducible assumption | with_reducible refine Blk.drew ?_ | with_reducible refine Blk.drewN ?_ _ | with_reducible refine Blk.alloc ?_ _ | with_reducible refine Blk.far ?_ (by simp; try omega) _))) hb; have l1 := Blk.next l1 (fun h => by (repeat (first | with_reducible assumption | with_reducible refine Blk.drew ?_ | with_reducible refine Blk.drewN ?_ _ | with_reducible refine Blk.alloc ?_ _ | with_reducible refine Blk.far ?_ (by simp; try omega) _))) hb; have l2 := Blk.next l2 (fun h => by (repeat (first | with_reducible assumption | with_reducible refine Blk.drew ?_ | with_reducible refine Blk.drewN ?_ _ | with_reducible refine Blk.alloc ?_ _ | with_reducible refine Blk.far ?_ (by simp; try omega) _))) hb; have l3 := Blk.next l3 (fun h => by (repeat (first | with_reducible assumption | with_reducible refine Blk.drew ?_ | with_reducible refine Blk.drewN ?_ _ | with_reducible refine Blk.alloc ?_ _ | with_reducible refine Blk.far ?_ (by simp; try omega) _))) hb; have c0 := l0.cell; have f0 := l0.frozen; have z0 := l0.lt; have c1 := l1.cell; have f1 := l1.frozen; have z1 := l1.lt; have c2 := l2.cell; have f2 := l2.frozen; have z2 := l2.lt; have c3 := l3.cell; have f3 := l3.frozen; have z3 := l3.lt)
          | (go_at_call 91; refine (wAdd _ _ _ (W64_wd _ _) (W64_wd _ _) (by omega) (by omega) _).mono ?_; rintro e wM ⟨s, dd, rfl, hadd, rfl⟩; obtain ⟨s', d', rfl, rfl, hq⟩ := addRel_nat hadd; have HQ := Lib.hid hq; clear hq))
      go_wp2_with fail
      go_roundw
      case rel =>
        have KW : Keeps (Own F [w.heap.size + 1 + 1]) w wM := C
        have l3' := l3.set_ k (.int .u64 (s' : Nat))
        rw [wa_upd] at l3'
        refine ⟨k + 1, d', upd f k s', rfl, rfl, by omega, addInv_step x y f _ k c' s' d' hI.out HQ.out.1 HQ.out.2.1 HQ.out.2.2, Cur.mk (by (repeat (first | with_reducible exact Keeps.refl _ _ | with_reducible assumption | with_reducible refine Keeps.drew ?_ | with_reducible refine Keeps.drewN ?_ _ | with_reducible refine Keeps.alloc ?_ _ | with_reducible refine Keeps.set ?_ (by first | (simp [Own]; done) | exact .inr (by first | (simp; done) | (simp; omega) | omega)) _ | with_reducible refine Keeps.trans ?_ (by assumption)))), by (repeat (first | with_reducible exact Below.refl _ _ | with_reducible assumption | with_reducible refine Below.drew ?_ | with_reducible refine below_drewN ?_ _ | with_reducible refine Below.alloc ?_ (by first | exact Nat.le_refl _ | (simp; done) | (simp; omega) | omega) _ | with_reducible refine Below.setCell ?_ (by first | exact Nat.le_refl _ | (simp; done) | (simp; omega) | omega) _)), ?_, ?_, ?_, l3'⟩
        · exact l0.far (by first | (simp; done) | (simp; omega)) _
        · exact l1.far (by first | (simp; done) | (simp; omega)) _
        · exact l2.far (by first | (simp; done) | (simp; omega)) _
      case measure => simp [intOf]; omega
    · obtain rfl : nw x + 1 = k := by omega
      have hv := Lib.hid (addInv_end x y f _ c' hI.out (by omega) (by omega))
      have hsl := Lib.hid (blk_slice (G := Own F [w.heap.size + 1 + 1]) l3 (by intro hh; rcases hh with hh | hh; exact Nat.lt_irrefl _ (Nat.lt_trans (hF _ hh) (by omega)); simp at hh))
      have hwf := Lib.hid hI.out.1
      go_wp2_with fail
      (refine (nTrim (Own F [w.heap.size + 1 + 1]) (some ⟨w.heap.size + 1 + 1 + 1, 0, none⟩) (nw x + 1) (nw x + 1) f _ hsl.out (blk_typ l3) hwf.out (by rw [hv.out]; exact hs) (Nat.le_refl _) (by unfold maxLen; omega)).mono ?_; rintro e wM ⟨v', rfl, hr, hb⟩; obtain ⟨A', n', c', rfl⟩ := hr.form; obtain ⟨K, C⟩ := Cur.step C (by (repeat (first | with_reducible exact Keeps.refl _ _ | with_reducible assumption | with_reducible refine Keeps.drew ?_ | with_reducible refine Keeps.drewN ?_ _ | with_reducible refine Keeps.alloc ?_ _ | with_reducible refine Keeps.set ?_ (by first | (simp [Own]; done) | exact .inr (by first | (simp; done) | (simp; omega) | omega)) _ | with_reducible refine Keeps.trans ?_ (by assumption)))) hb; have BW := below_next (w := w) (by (repeat (first | with_reducible exact Below.refl _ _ | with_reducible assumption | with_reducible refine Below.drew ?_ | with_reducible refine below_drewN ?_ _ | with_reducible refine Below.alloc ?_ (by first | exact Nat.le_refl _ | (simp; done) | (simp; omega) | omega) _ | with_reducible refine Below.setCell ?_ (by first | exact Nat.le_refl _ | (simp; done) | (simp; omega) | omega) _))) hb; have l2 := Blk.next l2 (fun h => by (repeat (first | with_reducible assumption | with_reducible refine Blk.drew ?_ | with_reducible refine Blk.drewN ?_ _ | with_reducible refine Blk.alloc ?_ _ | with_reducible refine Blk.far ?_ (by simp; try omega) _))) hb; have c2 := l2.cell; have f2 := l2.frozen; have z2 := l2.lt)
      rw [hv.out] at hr
      have H := Lib.hid hr
      clear hr
      go_wp2_with fail
      exact bodyPost_ret (v := .agg #[.slice A' n' c']) (by simp [results, Try.results76, go_sem, c2]) rfl ⟨_, rfl, (H.out.keep (by (repeat (first | with_reducible exact Keeps.refl _ _ | with_reducible assumption | with_reducible refine Keeps.drew ?_ | with_reducible refine Keeps.drewN ?_ _ | with_reducible refine Keeps.alloc ?_ _ | with_reducible refine Keeps.set ?_ (by first | (simp [Own]; done) | exact .inr (by first | (simp; done) | (simp; omega) | omega)) _ | with_reducible refine Keeps.trans ?_ (by assumption))))).sub Own.sub, by (repeat (first | with_reducible exact Below.refl _ _ | with_reducible assumption | with_reducible refine Below.drew ?_ | with_reducible refine below_drewN ?_ _ | with_reducible refine Below.alloc ?_ (by first | exact Nat.le_refl _ | (simp; done) | (simp; omega) | omega) _ | with_reducible refine Below.setCell ?_ (by first | exact Nat.le_refl _ | (simp; done) | (simp; omega) | omega) _))⟩

set_option maxRecDepth 100000 in
set_option maxHeartbeats 1000000 in
theorem nAdd_y (F : Nat → Prop) (va vb : Value) (x y : Nat) (w : World) (hF : Lows F w) (ha : NatAt F w va x) (hb : NatAt F w vb y) (hs : Small (x + y)) (hN : nw x < nw y) :
    Calls Try.prog 76 #[va, vb] w fun e w' => ∃ v, e = .returned v ∧ NatAt F w' v (x + y) ∧ Below w.heap.size w w' := by
  have hx := ha.own (G := Own F [w.heap.size + 1 + 1]) (Own.new (by simp; omega))
  have hy := hb.own (G := Own F [w.heap.size + 1 + 1]) (Own.new (by simp; omega))
  obtain ⟨A, c, rfl, _, _, hsx, _⟩ := ha
  obtain ⟨B, d, rfl, _, _, hsy, _⟩ := hb
  unfold Small at hsx hsy
  have hNI : (nw x : Int) < nw y := by omega
  have hmk := fun w => mk64 (nw y + 1) (by omega) w
  rw [show ((nw y + 1 : Nat) : Int) = (nw y : Int) + 1 by simp] at hmk
  have hx0 := Lib.hid hx
  have hy0 := Lib.hid hy
  clear hx hy
  go_enter Try.func76, Try.ntmps76
  go_wp2_with fail
  go_loopw [6, 19] (fun cc i wr => ∃ (k c' : Nat) (f : Nat → Nat), i = .int .i64 k ∧ cc = .int .u64 c' ∧ k ≤ nw y + 1 ∧ AddInv x y f (nw y + 1) k c' ∧ Cur (Own F [w.heap.size + 1 + 1]) w wr ∧ Below w.heap.size w wr ∧
      Blk wr w.heap.size 31 #[.slice A (nw x) c] ∧ Blk wr (w.heap.size + 1) 31 #[.slice B (nw y) d] ∧ Blk wr (w.heap.size + 1 + 1) 31 #[.slice none 0 0] ∧ Blk wr (w.heap.size + 1 + 1 + 1) 105 (wa f (nw y + 1))) (fun cc i wr => nw y + 1 - (intOf i).toNat)
  case atStart =>
    refine ⟨0, 0, fun _ => 0, rfl, rfl, by omega, ⟨fun i hi => by show 0 < _; omega, by omega, by simp [val]⟩, Cur.mk (by (repeat (first | with_reducible exact Keeps.refl _ _ | with_reducible assumption | with_reducible refine Keeps.drew ?_ | with_reducible refine Keeps.drewN ?_ _ | with_reducible refine Keeps.alloc ?_ _ | with_reducible refine Keeps.set ?_ (by first | (simp [Own]; done) | exact .inr (by first | (simp; done) | (simp; omega) | omega)) _ | with_reducible refine Keeps.trans ?_ (by assumption)))), by (repeat (first | with_reducible exact Below.refl _ _ | with_reducible assumption | with_reducible refine Below.drew ?_ | with_reducible refine below_drewN ?_ _ | with_reducible refine Below.alloc ?_ (by first | exact Nat.le_refl _ | (simp; done) | (simp; omega) | omega) _ | with_reducible refine Below.setCell ?_ (by first | exact Nat.le_refl _ | (simp; done) | (simp; omega) | omega) _)), ?_, ?_, ?_, ?_⟩
    · exact (((Blk.new w 31 _).alloc _).alloc _).alloc _
    · exact ((Blk.new_at (w.alloc _) 31 _ (w.heap.size + 1) (by simp)).alloc _).alloc _
    · exact (Blk.new_at ((w.alloc _).alloc _) 31 _ (w.heap.size + 1 + 1) (by simp)).alloc _
    · exact Blk.new_at (((w.alloc _).alloc _).alloc _) 105 _ (w.heap.size + 1 + 1 + 1) (by simp)
  case round =>
    obtain ⟨k, c', f, rfl, rfl, hk, hi, C, BW, l0, l1, l2, l3⟩ := hrel
    have K : Keeps (Own F [w.heap.size + 1 + 1]) w wr := C
    have hI := Lib.hid hi
    have hc' : c' ≤ 1 := hi.2.1
    clear hi
    by_cases hlt : k < nw y + 1
    · have k3 : (wa f (nw y + 1))[k]? = some (.int .u64 (f k : Nat)) := wa_at f _ k hlt
      have c0 := l0.cell
      have c1 := l1.cell
      have hk0 : (0 : Int) ≤ k := by omega
      have hk1 : (k : Int) < (nw y : Int) + 1 := by omega
      go_wp2_with fail
      go_region_held3 (fun w' => (∀ o, w'.cell? ⟨w.heap.size, o, none⟩ = (#[.slice A (nw x) c] : Array Value)[o]?) ∧ (∀ o, w'.cell? ⟨w.heap.size + 1, o, none⟩ = (#[.slice B (nw y) d] : Array Value)[o]?))
        (first | exact ⟨l0.cell, l1.cell⟩ | exact ⟨(l0.far (by first | (simp; done) | (simp; omega)) _).cell, (l1.far (by first | (simp; done) | (simp; omega)) _).cell⟩ | go_keep)
        (first
          | (go_at_call 92; refine (nWord (Own F [w.heap.size + 1 + 1]) _ _ _ (by omega) _ (by first | exact NatAt.keep hx0.out (by (repeat (first | with_reducible exact Keeps.refl _ _ | with_reducible assumption | with_reducible refine Keeps.drew ?_ | with_reducible refine Keeps.drewN ?_ _ | with_reducible refine Keeps.alloc ?_ _ | with_reducible refine Keeps.set ?_ (by first | (simp [Own]; done) | exact .inr (by first | (simp; done) | (simp; omega) | omega)) _ | with_reducible refine Keeps.trans ?_ (by assumption)))) | exact NatAt.keep hy0.out (by (repeat (first | with_reducible exact Keeps.refl _ _ | with_reducible assumption | with_reducible refine Keeps.drew ?_ | with_reducible refine Keeps.drewN ?_ _ | with_reducible refine Keeps.alloc ?_ _ | with_reducible refine Keeps.set ?_ (by first | (simp [Own]; done) | exact .inr (by first | (simp; done) | (simp; omega) | omega)) _ | with_reducible refine Keeps.trans ?_ (by assumption)))))).mono ?_; rintro e wM ⟨rfl, hb⟩; obtain ⟨K, C⟩ := Cur.step C (by (repeat (first | with_reducible exact Keeps.refl _ _ | with_reducible assumption | with_reducible refine Keeps.drew ?_ | with_reducible refine Keeps.drewN ?_ _ | with_reducible refine Keeps.alloc ?_ _ | with_reducible refine Keeps.set ?_ (by first | (simp [Own]; done) | exact .inr (by first | (simp; done) | (simp; omega) | omega)) _ | with_reducible refine Keeps.trans ?_ (by assumption)))) hb; have BW := below_next (w := w) (by (repeat (first | with_reducible exact Below.refl _ _ | with_reducible assumption | with_reducible refine Below.drew ?_ | with_reducible refine below_drewN ?_ _ | with_reducible refine Below.alloc ?_ (by first | exact Nat.le_refl _ | (simp; done) | (simp; omega) | omega) _ | with_reducible refine Below.setCell ?_ (by first | exact Nat.le_refl _ | (simp; done) | (simp; omega) | omega) _))) hb; have l0 := Blk.next l0 (fun h => by (repeat (first | with_reducible assumption | with_reducible refine Blk.drew ?_ | with_reducible refine Blk.drewN ?_ _ | with_reducible refine Blk.alloc ?_ _ | with_reducible refine Blk.far ?_ (by simp; try omega) _))) hb; have l1 := Blk.next l1 (fun h => by (repeat (first | with_reducible assumption | with_reducible refine Blk.drew ?_ | with_reducible refine Blk.drewN ?_ _ | with_reducible refine Blk.alloc ?_ _ | with_reducible refine Blk.far ?_ (by simp; try omega) _))) hb; have l2 := Blk.next l2 (fun h => by (repeat (first | with_reducible assumption | with_reducible refine Blk.drew ?_ | with_reducible refine Blk.drewN ?_ _ | with_reducible refine Blk.alloc ?_ _ | with_reducible refine Blk.far ?_ (by simp; try omega) _))) hb; have l3 := Blk.next l3 (fun h => by (repeat (first | with_reducible assumption | with_reducible refine Blk.drew ?_ | with_reducible refine Blk.drewN ?_ _ | with_reducible refine Blk.alloc ?_ _ | with_reducible refine Blk.far ?_ (by simp; try omega) _))) hb; have c0 := l0.cell; have f0 := l0.frozen; have z0 := l0.lt; have c1 := l1.cell; have f1 := l1.frozen; have z1 := l1.lt; have c2 := l2.cell; have f2 := l2.frozen; have z2 := l2.lt; have c3 := l3.cell; have f3 := l3.frozen; have z3 := l3.lt)
          | (go_at_call 91; refine (wAdd _ _ _ (W64_wd _ _) (W64_wd _ _) (by omega) (by omega) _).mono ?_; rintro e wM ⟨s, dd, rfl, hadd, rfl⟩; obtain ⟨s', d', rfl, rfl, hq⟩ := addRel_nat hadd; have HQ := Lib.hid hq; clear hq))
      go_wp2_with fail
      go_roundw
      case rel =>
        have KW : Keeps (Own F [w.heap.size + 1 + 1]) w wM := C
        have l3' := l3.set_ k (.int .u64 (s' : Nat))
        rw [wa_upd] at l3'
        refine ⟨k + 1, d', upd f k s', rfl, rfl, by omega, addInv_step x y f _ k c' s' d' hI.out HQ.out.1 HQ.out.2.1 HQ.out.2.2, Cur.mk (by (repeat (first | with_reducible exact Keeps.refl _ _ | with_reducible assumption | with_reducible refine Keeps.drew ?_ | with_reducible refine Keeps.drewN ?_ _ | with_reducible refine Keeps.alloc ?_ _ | with_reducible refine Keeps.set ?_ (by first | (simp [Own]; done) | exact .inr (by first | (simp; done) | (simp; omega) | omega)) _ | with_reducible refine Keeps.trans ?_ (by assumption)))), by (repeat (first | with_reducible exact Below.refl _ _ | with_reducible assumption | with_reducible refine Below.drew ?_ | with_reducible refine below_drewN ?_ _ | with_reducible refine Below.alloc ?_ (by first | exact Nat.le_refl _ | (simp; done) | (simp; omega) | omega) _ | with_reducible refine Below.setCell ?_ (by first | exact Nat.le_refl _ | (simp; done) | (simp; omega) | omega) _)), ?_, ?_, ?_, l3'⟩
        · exact l0.far (by first | (simp; done) | (simp; omega)) _
        · exact l1.far (by first | (simp; done) | (simp; omega)) _
        · exact l2.far (by first | (simp; done) | (simp; omega)) _
      case measure => simp [intOf]; omega
    · obtain rfl : nw y + 1 = k := by omega
      have hv := Lib.hid (addInv_end x y f _ c' hI.out (by omega) (by omega))
      have hsl := Lib.hid (blk_slice (G := Own F [w.heap.size + 1 + 1]) l3 (by intro hh; rcases hh with hh | hh; exact Nat.lt_irrefl _ (Nat.lt_trans (hF _ hh) (by omega)); simp at hh))
      have hwf := Lib.hid hI.out.1
      go_wp2_with fail
      (refine (nTrim (Own F [w.heap.size + 1 + 1]) (some ⟨w.heap.size + 1 + 1 + 1, 0, none⟩) (nw y + 1) (nw y + 1) f _ hsl.out (blk_typ l3) hwf.out (by rw [hv.out]; exact hs) (Nat.le_refl _) (by unfold maxLen; omega)).mono ?_; rintro e wM ⟨v', rfl, hr, hb⟩; obtain ⟨A', n', c', rfl⟩ := hr.form; obtain ⟨K, C⟩ := Cur.step C (by (repeat (first | with_reducible exact Keeps.refl _ _ | with_reducible assumption | with_reducible refine Keeps.drew ?_ | with_reducible refine Keeps.drewN ?_ _ | with_reducible refine Keeps.alloc ?_ _ | with_reducible refine Keeps.set ?_ (by first | (simp [Own]; done) | exact .inr (by first | (simp; done) | (simp; omega) | omega)) _ | with_reducible refine Keeps.trans ?_ (by assumption)))) hb; have BW := below_next (w := w) (by (repeat (first | with_reducible exact Below.refl _ _ | with_reducible assumption | with_reducible refine Below.drew ?_ | with_reducible refine below_drewN ?_ _ | with_reducible refine Below.alloc ?_ (by first | exact Nat.le_refl _ | (simp; done) | (simp; omega) | omega) _ | with_reducible refine Below.setCell ?_ (by first | exact Nat.le_refl _ | (simp; done) | (simp; omega) | omega) _))) hb; have l2 := Blk.next l2 (fun h => by (repeat (first | with_reducible assumption | with_reducible refine Blk.drew ?_ | with_reducible refine Blk.drewN ?_ _ | with_reducible refine Blk.alloc ?_ _ | with_reducible refine Blk.far ?_ (by simp; try omega) _))) hb; have c2 := l2.cell; have f2 := l2.frozen; have z2 := l2.lt)
      rw [hv.out] at hr
      have H := Lib.hid hr
      clear hr
      go_wp2_with fail
      exact bodyPost_ret (v := .agg #[.slice A' n' c']) (by simp [results, Try.results76, go_sem, c2]) rfl ⟨_, rfl, (H.out.keep (by (repeat (first | with_reducible exact Keeps.refl _ _ | with_reducible assumption | with_reducible refine Keeps.drew ?_ | with_reducible refine Keeps.drewN ?_ _ | with_reducible refine Keeps.alloc ?_ _ | with_reducible refine Keeps.set ?_ (by first | (simp [Own]; done) | exact .inr (by first | (simp; done) | (simp; omega) | omega)) _ | with_reducible refine Keeps.trans ?_ (by assumption))))).sub Own.sub, by (repeat (first | with_reducible exact Below.refl _ _ | with_reducible assumption | with_reducible refine Below.drew ?_ | with_reducible refine below_drewN ?_ _ | with_reducible refine Below.alloc ?_ (by first | exact Nat.le_refl _ | (simp; done) | (simp; omega) | omega) _ | with_reducible refine Below.setCell ?_ (by first | exact Nat.le_refl _ | (simp; done) | (simp; omega) | omega) _))⟩

theorem nAdd (F : Nat → Prop) (va vb : Value) (x y : Nat) (w : World) (hF : Lows F w) (ha : NatAt F w va x) (hb : NatAt F w vb y) (hs : Small (x + y)) :
    Calls Try.prog 76 #[va, vb] w fun e w' => ∃ v, e = .returned v ∧ NatAt F w' v (x + y) ∧ Below w.heap.size w w' := by
  by_cases h : nw x < nw y
  · exact nAdd_y F va vb x y w hF ha hb hs h
  · exact nAdd_x F va vb x y w hF ha hb hs (by omega)
end Go.Proofs.Ytngghjhmfpmilaa
