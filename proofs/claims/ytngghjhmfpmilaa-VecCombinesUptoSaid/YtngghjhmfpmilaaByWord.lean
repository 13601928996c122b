/- quot.ByWord. -/
import Derived.Test.YtngghjhmfpmilaaSchool
namespace Go.Proofs.Ytngghjhmfpmilaa
open Go.RowKit
/-- what is left of the words from j on -/
def remV (x d j : Nat) : Nat := x / 2 ^ (64 * j) % d
theorem remV_lt (x d j : Nat) (h : 0 < d) : remV x d j < d := Nat.mod_lt _ h
theorem remV_zero (x d : Nat) : remV x d 0 = x % d := by unfold remV; simp
theorem remV_top (x d : Nat) : remV x d (nw x) = 0 := by unfold remV; rw [Nat.div_eq_of_lt (lt_nw x), Nat.zero_mod]
theorem quot_word (x d j : Nat) (hd : 0 < d) : wd (x / d) j = (remV x d (j + 1) * 18446744073709551616 + wd x j) / d ∧ remV x d j = (remV x d (j + 1) * 18446744073709551616 + wd x j) % d := by
  have h1 := hi_step x j
  have hL : x / d / 2 ^ (64 * j) = x / 2 ^ (64 * j) / d := by rw [Nat.div_div_eq_div_mul, Nat.mul_comm d, ← Nat.div_div_eq_div_mul]
  have hw := wd_lt x j
  unfold remV
  have hu : wd (x / d) j = x / 2 ^ (64 * j) / d % 18446744073709551616 := by unfold wd; rw [hL]
  rw [hu, h1]
  generalize x / 2 ^ (64 * (j + 1)) = H
  generalize wd x j = a at *
  have h2 : H * 18446744073709551616 + a = d * (H / d * 18446744073709551616) + (H % d * 18446744073709551616 + a) := by
    have h := Nat.div_add_mod H d
    have : H * 18446744073709551616 = (d * (H / d) + H % d) * 18446744073709551616 := by rw [h]
    rw [this, Nat.add_mul, Nat.mul_assoc, Nat.add_assoc]
  have h3 : (H % d * 18446744073709551616 + a) / d < 18446744073709551616 := by
    rw [Nat.div_lt_iff_lt_mul hd]
    have : (H % d + 1) * 18446744073709551616 ≤ d * 18446744073709551616 := Nat.mul_le_mul_right _ (Nat.mod_lt _ hd)
    rw [Nat.mul_comm 18446744073709551616 d]
    omega
  constructor
  · rw [h2, Nat.mul_add_div hd, Nat.mul_comm (H / d), Nat.mul_add_mod, Nat.mod_eq_of_lt h3]
  · rw [h2, Nat.mul_add_mod]
/-- the words from j on are found -/
def ByInv (x d : Nat) (f : Nat → Nat) (N j : Nat) : Prop := Wf f N ∧ ∀ i, j ≤ i → i < N → f i = wd (x / d) i
theorem by_step (x d : Nat) (f : Nat → Nat) (N j u : Nat) (h : ByInv x d f N (j + 1)) (hd : 0 < d) (hu : u = (remV x d (j + 1) * 18446744073709551616 + wd x j) / d) : ByInv x d (upd f j u) N j := by
  rw [← (quot_word x d j hd).1] at hu
  refine ⟨wf_upd _ _ _ _ h.1 (by rw [hu]; exact wd_lt _ _), fun i hi hn => ?_⟩
  unfold upd
  by_cases e : i = j
  · subst e; rw [if_pos rfl]; exact hu
  · rw [if_neg e]; exact h.2 i (by omega) hn
theorem by_end (x d : Nat) (f : Nat → Nat) (h : ByInv x d f (nw x) 0) : val f (nw x) = x / d := by
  rw [val_congr f (wd (x / d)) _ fun i hi => h.2 i (Nat.zero_le _) hi, val_all _ _ (nw_mono (Nat.div_le_self _ _))]
set_option maxRecDepth 100000 in
set_option maxHeartbeats 1000000 in
theorem qByWord (F : Nat → Prop) (va : Value) (x d : Nat) (w : World) (hF : Lows F w) (ha : NatAt F w va x) (hd : 0 < d) (hd2 : d < 18446744073709551616) :
    Calls Try.prog 107 #[va, .int .u64 (d : Nat)] w fun e w' => ∃ v, e = .returned (.tuple #[v, .int .u64 (remV x d 0 : Nat), .bool true]) ∧ NatAt F w' v (x / d) ∧ Below w.heap.size w w' := by
  have hx := ha.own (G := Own F [w.heap.size + 1]) (Own.new (by simp))
  have hsx := ha.small
  obtain ⟨A, n, c, rfl⟩ := ha.form
  clear ha
  unfold Small at hsx
  have hmk := fun w => mk64 (nw x) (by omega) w
  have hx0 := Lib.hid hx
  clear hx
  have hd0 : ((d : Int) == 0) = false := by simp; omega
  have l0 := (Blk.new w 31 #[.slice A n c]).alloc (.cells #[.slice none 0 0] 31)
  have l1 := Blk.new_at (w.alloc (.cells #[.slice A n c] 31)) 31 #[.slice none 0 0] (w.heap.size + 1) (by simp)
  have C := Cur.start (Own F [w.heap.size + 1]) w
  go_enter Try.func107, Try.ntmps107
  go_wp2_with fail
  (refine (nLen (Own F [w.heap.size + 1]) _ x _ (NatAt.keep hx0.out (by (repeat (first | with_reducible exact Keeps.refl _ _ | with_reducible assumption | with_reducible refine Keeps.drew ?_ | with_reducible refine Keeps.drewN ?_ _ | with_reducible refine Keeps.alloc ?_ _ | with_reducible refine Keeps.set ?_ (by first | (simp [Own]; done) | exact .inr (by first | (simp; done) | (simp; omega) | omega)) _ | with_reducible refine Keeps.trans ?_ (by assumption)))))).mono ?_; rintro e wM ⟨rfl, hb⟩; obtain ⟨K, C⟩ := Cur.step C (by (repeat (first | with_reducible exact Keeps.refl _ _ | with_reducible assumption | with_reducible refine Keeps.drew ?_ | with_reducible refine Keeps.drewN ?_ _ | with_reducible refine Keeps.alloc ?_ _ | with_reducible refine Keeps.set ?_ (by first | (simp [Own]; done) | exact .inr (by first | (simp; done) | (simp; omega) | omega)) _ | with_reducible refine Keeps.trans ?_ (by assumption)))) hb; have BW := below_next (w := w) (by (repeat (first | with_reducible exact Below.refl _ _ | with_reducible assumption | with_reducible refine Below.drew ?_ | with_reducible refine below_drewN ?_ _ | with_reducible refine Below.alloc ?_ (by first | exact Nat.le_refl _ | (simp; done) | (simp; omega) | omega) _ | with_reducible refine Below.setCell ?_ (by first | exact Nat.le_refl _ | (simp; done) | (simp; omega) | omega) _))) hb; have l0 := Blk.next l0 (fun h => by (repeat (first | with_reducible assumption | with_reducible refine Blk.drew ?_ | with_reducible refine Blk.drewN ?_ _ | with_reducible refine Blk.alloc ?_ _ | with_reducible refine Blk.far ?_ (by simp; try omega) _))) hb; have l1 := Blk.next l1 (fun h => by (repeat (first | with_reducible assumption | with_reducible refine Blk.drew ?_ | with_reducible refine Blk.drewN ?_ _ | with_reducible refine Blk.alloc ?_ _ | with_reducible refine Blk.far ?_ (by simp; try omega) _))) hb; have c0 := l0.cell; have f0 := l0.frozen; have z0 := l0.lt; have c1 := l1.cell; have f1 := l1.frozen; have z1 := l1.lt)
  obtain ⟨wO, rfl⟩ : ∃ z : World, z = wM := ⟨_, rfl⟩
  have KW : Keeps (Own F [w.heap.size + 1]) w wO := C
  have q2 : w.heap.size + 1 < wO.heap.size := l1.lt
  have l2 := Blk.new wO 105 (wa (fun _ => 0) (nw x))
  go_wp2_with fail
  (refine (nLen (Own F [w.heap.size + 1]) _ x _ (NatAt.keep hx0.out (by (repeat (first | with_reducible exact Keeps.refl _ _ | with_reducible assumption | with_reducible refine Keeps.drew ?_ | with_reducible refine Keeps.drewN ?_ _ | with_reducible refine Keeps.alloc ?_ _ | with_reducible refine Keeps.set ?_ (by first | (simp [Own]; done) | exact .inr (by first | (simp; done) | (simp; omega) | omega)) _ | with_reducible refine Keeps.trans ?_ (by assumption)))))).mono ?_; rintro e wM ⟨rfl, hb⟩; obtain ⟨K, C⟩ := Cur.step C (by (repeat (first | with_reducible exact Keeps.refl _ _ | with_reducible assumption | with_reducible refine Keeps.drew ?_ | with_reducible refine Keeps.drewN ?_ _ | with_reducible refine Keeps.alloc ?_ _ | with_reducible refine Keeps.set ?_ (by first | (simp [Own]; done) | exact .inr (by first | (simp; done) | (simp; omega) | omega)) _ | with_reducible refine Keeps.trans ?_ (by assumption)))) hb; have BW := below_next (w := w) (by (repeat (first | with_reducible exact Below.refl _ _ | with_reducible assumption | with_reducible refine Below.drew ?_ | with_reducible refine below_drewN ?_ _ | with_reducible refine Below.alloc ?_ (by first | exact Nat.le_refl _ | (simp; done) | (simp; omega) | omega) _ | with_reducible refine Below.setCell ?_ (by first | exact Nat.le_refl _ | (simp; done) | (simp; omega) | omega) _))) hb; have l0 := Blk.next l0 (fun h => by (repeat (first | with_reducible assumption | with_reducible refine Blk.drew ?_ | with_reducible refine Blk.drewN ?_ _ | with_reducible refine Blk.alloc ?_ _ | with_reducible refine Blk.far ?_ (by simp; try omega) _))) hb; have l1 := Blk.next l1 (fun h => by (repeat (first | with_reducible assumption | with_reducible refine Blk.drew ?_ | with_reducible refine Blk.drewN ?_ _ | with_reducible refine Blk.alloc ?_ _ | with_reducible refine Blk.far ?_ (by simp; try omega) _))) hb; have l2 := Blk.next l2 (fun h => by (repeat (first | with_reducible assumption | with_reducible refine Blk.drew ?_ | with_reducible refine Blk.drewN ?_ _ | with_reducible refine Blk.alloc ?_ _ | with_reducible refine Blk.far ?_ (by simp; try omega) _))) hb; have c0 := l0.cell; have f0 := l0.frozen; have z0 := l0.lt; have c1 := l1.cell; have f1 := l1.frozen; have z1 := l1.lt; have c2 := l2.cell; have f2 := l2.frozen; have z2 := l2.lt)
  go_wp2_with fail
  go_loopw [8, 9] (fun l i wr => ∃ (j : Nat) (f : Nat → Nat), i = .int .i64 ((j : Int) - 1) ∧ l = .int .u64 (remV x d j : Nat) ∧ j ≤ nw x ∧ ByInv x d f (nw x) j ∧ Cur (Own F [w.heap.size + 1]) w wr ∧ Below w.heap.size w wr ∧
      Blk wr w.heap.size 31 #[.slice A n c] ∧ Blk wr (w.heap.size + 1) 31 #[.slice none 0 0] ∧ Blk wr wO.heap.size 105 (wa f (nw x))) (fun l i wr => (intOf i + 1).toNat)
  case atStart =>
    exact ⟨nw x, fun _ => 0, rfl, by rw [remV_top]; rfl, by omega, ⟨fun i hi => by show 0 < _; omega, fun i h1 h2 => by omega⟩, Cur.mk (by (repeat (first | with_reducible exact Keeps.refl _ _ | with_reducible assumption | with_reducible refine Keeps.drew ?_ | with_reducible refine Keeps.drewN ?_ _ | with_reducible refine Keeps.alloc ?_ _ | with_reducible refine Keeps.set ?_ (by first | (simp [Own]; done) | exact .inr (by first | (simp; done) | (simp; omega) | omega)) _ | with_reducible refine Keeps.trans ?_ (by assumption)))), by (repeat (first | with_reducible exact Below.refl _ _ | with_reducible assumption | with_reducible refine Below.drew ?_ | with_reducible refine below_drewN ?_ _ | with_reducible refine Below.alloc ?_ (by first | exact Nat.le_refl _ | (simp; done) | (simp; omega) | omega) _ | with_reducible refine Below.setCell ?_ (by first | exact Nat.le_refl _ | (simp; done) | (simp; omega) | omega) _)), l0, l1, l2⟩
  case round =>
    obtain ⟨j, f, rfl, rfl, hj, hi, C, BW, l0, l1, l2⟩ := hrel
    have K : Keeps (Own F [w.heap.size + 1]) w wr := C
    have hI := Lib.hid hi
    clear hi
    have c0 := l0.cell
    rcases j with _ | m
    · have hv := Lib.hid (by_end x d f hI.out)
      have hsl := Lib.hid (blk_slice (G := Own F [w.heap.size + 1]) l2 (by intro hh; rcases hh with hh | hh; exact Nat.lt_irrefl _ (Nat.lt_of_lt_of_le (hF _ hh) KW.1); simp at hh; omega))
      have hwf := Lib.hid hI.out.1
      have z1 := l1.lt
      go_wp2_with fail
      (refine (nOf (Own F [w.heap.size + 1]) (some ⟨wO.heap.size, 0, none⟩) (nw x) (nw x) f _ (Lows.own hF (by first | (simp; done) | (simp; omega) | omega) (by first | (simp; done) | (simp; omega) | omega)) hsl.out hwf.out hsx (fun e => (by cases e))).mono ?_; rintro e wM ⟨v', rfl, hr, hb⟩; obtain ⟨A', n', c', rfl⟩ := hr.form; obtain ⟨K, C⟩ := Cur.step C (by (repeat (first | with_reducible exact Keeps.refl _ _ | with_reducible assumption | with_reducible refine Keeps.drew ?_ | with_reducible refine Keeps.drewN ?_ _ | with_reducible refine Keeps.alloc ?_ _ | with_reducible refine Keeps.set ?_ (by first | (simp [Own]; done) | exact .inr (by first | (simp; done) | (simp; omega) | omega)) _ | with_reducible refine Keeps.trans ?_ (by assumption)))) hb; have BW := below_next (w := w) (by (repeat (first | with_reducible exact Below.refl _ _ | with_reducible assumption | with_reducible refine Below.drew ?_ | with_reducible refine below_drewN ?_ _ | with_reducible refine Below.alloc ?_ (by first | exact Nat.le_refl _ | (simp; done) | (simp; omega) | omega) _ | with_reducible refine Below.setCell ?_ (by first | exact Nat.le_refl _ | (simp; done) | (simp; omega) | omega) _))) hb; have l1 := Blk.next l1 (fun h => by (repeat (first | with_reducible assumption | with_reducible refine Blk.drew ?_ | with_reducible refine Blk.drewN ?_ _ | with_reducible refine Blk.alloc ?_ _ | with_reducible refine Blk.far ?_ (by simp; try omega) _))) hb; have c1 := l1.cell; have f1 := l1.frozen; have z1 := l1.lt)
      rw [hv.out] at hr
      have H := Lib.hid hr
      clear hr
      go_wp2_with fail
      exact bodyPost_ret (v := .tuple #[.agg #[.slice A' n' c'], .int .u64 (remV x d 0 : Nat), .bool true]) (by simp [results, Try.results107, go_sem, c1]) rfl ⟨_, rfl, (H.out.keep (by (repeat (first | with_reducible exact Keeps.refl _ _ | with_reducible assumption | with_reducible refine Keeps.drew ?_ | with_reducible refine Keeps.drewN ?_ _ | with_reducible refine Keeps.alloc ?_ _ | with_reducible refine Keeps.set ?_ (by first | (simp [Own]; done) | exact .inr (by first | (simp; done) | (simp; omega) | omega)) _ | with_reducible refine Keeps.trans ?_ (by assumption))))).sub Own.sub, by (repeat (first | with_reducible exact Below.refl _ _ | with_reducible assumption | with_reducible refine Below.drew ?_ | with_reducible refine below_drewN ?_ _ | with_reducible refine Below.alloc ?_ (by first | exact Nat.le_refl _ | (simp; done) | (simp; omega) | omega) _ | with_reducible refine Below.setCell ?_ (by first | exact Nat.le_refl _ | (simp; done) | (simp; omega) | omega) _))⟩
    · rw [show ((m + 1 : Nat) : Int) - 1 = (m : Int) by omega]
      have hm0 : (0 : Int) ≤ m := by omega
      have hm1 : (m : Int) < (nw x : Int) := by omega
      have k2 : (wa f (nw x))[m]? = some (.int .u64 (f m : Nat)) := wa_at f _ m (by omega)
      have hw1 : IntKind.i64.wrap ((m : Int) - 1) = (m : Int) - 1 := wrapI (by omega) (by omega)
      go_wp2_with fail
      (refine (nWord (Own F [w.heap.size + 1]) _ x _ (by omega) _ (NatAt.keep hx0.out (by (repeat (first | with_reducible exact Keeps.refl _ _ | with_reducible assumption | with_reducible refine Keeps.drew ?_ | with_reducible refine Keeps.drewN ?_ _ | with_reducible refine Keeps.alloc ?_ _ | with_reducible refine Keeps.set ?_ (by first | (simp [Own]; done) | exact .inr (by first | (simp; done) | (simp; omega) | omega)) _ | with_reducible refine Keeps.trans ?_ (by assumption)))))).mono ?_; rintro e wM ⟨rfl, hb⟩; obtain ⟨K, C⟩ := Cur.step C (by (repeat (first | with_reducible exact Keeps.refl _ _ | with_reducible assumption | with_reducible refine Keeps.drew ?_ | with_reducible refine Keeps.drewN ?_ _ | with_reducible refine Keeps.alloc ?_ _ | with_reducible refine Keeps.set ?_ (by first | (simp [Own]; done) | exact .inr (by first | (simp; done) | (simp; omega) | omega)) _ | with_reducible refine Keeps.trans ?_ (by assumption)))) hb; have BW := below_next (w := w) (by (repeat (first | with_reducible exact Below.refl _ _ | with_reducible assumption | with_reducible refine Below.drew ?_ | with_reducible refine below_drewN ?_ _ | with_reducible refine Below.alloc ?_ (by first | exact Nat.le_refl _ | (simp; done) | (simp; omega) | omega) _ | with_reducible refine Below.setCell ?_ (by first | exact Nat.le_refl _ | (simp; done) | (simp; omega) | omega) _))) hb; have l0 := Blk.next l0 (fun h => by (repeat (first | with_reducible assumption | with_reducible refine Blk.drew ?_ | with_reducible refine Blk.drewN ?_ _ | with_reducible refine Blk.alloc ?_ _ | with_reducible refine Blk.far ?_ (by simp; try omega) _))) hb; have l1 := Blk.next l1 (fun h => by (repeat (first | with_reducible assumption | with_reducible refine Blk.drew ?_ | with_reducible refine Blk.drewN ?_ _ | with_reducible refine Blk.alloc ?_ _ | with_reducible refine Blk.far ?_ (by simp; try omega) _))) hb; have l2 := Blk.next l2 (fun h => by (repeat (first | with_reducible assumption | with_reducible refine Blk.drew ?_ | with_reducible refine Blk.drewN ?_ _ | with_reducible refine Blk.alloc ?_ _ | with_reducible refine Blk.far ?_ (by simp; try omega) _))) hb; have c0 := l0.cell; have f0 := l0.frozen; have z0 := l0.lt; have c1 := l1.cell; have f1 := l1.frozen; have z1 := l1.lt; have c2 := l2.cell; have f2 := l2.frozen; have z2 := l2.lt)
      have KX : Keeps (Own F [w.heap.size + 1]) w wM := C
      go_wp2_with fail
      refine (wDiv_yes (remV x d (m + 1)) (wd x m) d (remV_lt _ _ _ hd) (wd_lt _ _) hd2 _).mono ?_
      rintro e wN ⟨rfl, nn, rfl⟩
      go_wp2_with fail
      go_roundw
      case rel =>
        have l2' := l2.drewN nn |>.set_ m (.int .u64 (divQ (remV x d (m + 1)) (wd x m) d : Nat))
        rw [wa_upd] at l2'
        refine ⟨m, _, rfl, by unfold divR; rw [← (quot_word x d m hd).2], by omega, by_step x d f _ m _ hI.out hd rfl, Cur.mk (by (repeat (first | with_reducible exact Keeps.refl _ _ | with_reducible assumption | with_reducible refine Keeps.drew ?_ | with_reducible refine Keeps.drewN ?_ _ | with_reducible refine Keeps.alloc ?_ _ | with_reducible refine Keeps.set ?_ (by first | (simp [Own]; done) | exact .inr (by first | (simp; done) | (simp; omega) | omega)) _ | with_reducible refine Keeps.trans ?_ (by assumption)))), by (repeat (first | with_reducible exact Below.refl _ _ | with_reducible assumption | with_reducible refine Below.drew ?_ | with_reducible refine below_drewN ?_ _ | with_reducible refine Below.alloc ?_ (by first | exact Nat.le_refl _ | (simp; done) | (simp; omega) | omega) _ | with_reducible refine Below.setCell ?_ (by first | exact Nat.le_refl _ | (simp; done) | (simp; omega) | omega) _)), (l0.drewN nn).far (by first | (simp; done) | (simp; omega)) _, (l1.drewN nn).far (by first | (simp; done) | (simp; omega)) _, l2'⟩
      case measure => simp [intOf]
theorem qByWord_no (F : Nat → Prop) (va : Value) (x : Nat) (w : World) (ha : NatAt F w va x) :
    Calls Try.prog 107 #[va, .int .u64 0] w fun e w' => e = .returned (.tuple #[.agg #[.slice none 0 0], .int .u64 0, .bool false]) ∧ Below w.heap.size w w' := by
  obtain ⟨A, n, c, rfl⟩ := ha.form
  clear ha
  have l1 := Blk.new_at (w.alloc (.cells #[.slice A n c] 31)) 31 #[.slice none 0 0] (w.heap.size + 1) (by simp)
  go_enter Try.func107, Try.ntmps107
  go_wp2_with fail
  exact bodyPost_ret (v := .tuple #[.agg #[.slice none 0 0], .int .u64 0, .bool false]) (by simp [results, Try.results107, go_sem, l1.cell]) rfl ⟨rfl, by (repeat (first | with_reducible exact Below.refl _ _ | with_reducible assumption | with_reducible refine Below.drew ?_ | with_reducible refine below_drewN ?_ _ | with_reducible refine Below.alloc ?_ (by first | exact Nat.le_refl _ | (simp; done) | (simp; omega) | omega) _ | with_reducible refine Below.setCell ?_ (by first | exact Nat.le_refl _ | (simp; done) | (simp; omega) | omega) _))⟩
end Go.Proofs.Ytngghjhmfpmilaa
