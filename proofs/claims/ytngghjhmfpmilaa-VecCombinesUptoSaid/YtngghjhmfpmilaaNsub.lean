/- nat.Sub. -/
import Derived.Test.YtngghjhmfpmilaaNadd
namespace Go.Proofs.Ytngghjhmfpmilaa
open Go.RowKit
/-- the difference so far -/
def SubInv (x y : Nat) (f : Nat → Nat) (N k c : Nat) : Prop := Wf f N ∧ c ≤ 1 ∧ val f k + val (wd y) k = val (wd x) k + c * 2 ^ (64 * k)
theorem subInv_step (x y : Nat) (f : Nat → Nat) (N k c s d : Nat) (h : SubInv x y f N k c) (hs : s < 18446744073709551616) (hd : d ≤ 1) (e : s + wd y k + c = wd x k + 18446744073709551616 * d) : SubInv x y (upd f k s) N (k + 1) d := by
  obtain ⟨h1, h2, h3⟩ := h
  refine ⟨wf_upd f N k s h1 hs, hd, ?_⟩
  rw [val_upd_succ, p64, val, val]
  have e2 : (s + wd y k + c) * 2 ^ (64 * k) = wd x k * 2 ^ (64 * k) + d * (18446744073709551616 * 2 ^ (64 * k)) := by
    rw [e, Nat.add_mul, Nat.mul_comm 18446744073709551616 d, Nat.mul_assoc]
  rw [Nat.add_mul, Nat.add_mul] at e2
  omega
theorem subInv_end (x y : Nat) (f : Nat → Nat) (c : Nat) (h : SubInv x y f (nw x) (nw x) c) (hxy : y ≤ x) : val f (nw x) = x - y := by
  obtain ⟨h1, h2, h3⟩ := h
  have hy : nw y ≤ nw x := (nw_le y _).2 (Nat.lt_of_le_of_lt hxy (lt_nw x))
  rw [val_all x _ (Nat.le_refl _), val_all y _ hy] at h3
  have hf := val_lt f _ h1
  have : c = 0 := by
    rcases Nat.eq_zero_or_pos c with h | h
    · exact h
    · obtain rfl : c = 1 := by omega
      omega
  subst this
  omega
theorem subRel_nat {a b c : Nat} {s d : Int} (h : SubRel a b c s d) : ∃ s' d' : Nat, s = s' ∧ d = d' ∧ s' < 18446744073709551616 ∧ d' ≤ 1 ∧ s' + b + c = a + 18446744073709551616 * d' := by
  obtain ⟨⟨h1, h2⟩, h3, h4, h5⟩ := h
  obtain ⟨s', rfl⟩ := Int.eq_ofNat_of_zero_le h1
  obtain ⟨d', rfl⟩ := Int.eq_ofNat_of_zero_le h3
  exact ⟨s', d', rfl, rfl, by omega, by omega, by omega⟩
theorem nw_mono {x y : Nat} (h : x ≤ y) : nw x ≤ nw y := (nw_le x _).2 (Nat.lt_of_le_of_lt h (lt_nw y))
theorem cmpV_lt {x y : Int} (h : x < y) : cmpV x y = -1 := by unfold cmpV; rw [if_pos h]
theorem cmpV_ge {x y : Int} (h : y ≤ x) : 0 ≤ cmpV x y := by unfold cmpV; rw [if_neg (by omega)]; split <;> omega
theorem far_cell {w : World} {p q : Addr} {u v : Value} (h : w.cell? q = some v) (hp : p.block ≠ q.block) : (w.setCell p u).cell? q = some v := (World.cell?_setCell_other (w := w) (a := p) (b := q) (v := u) (h := fun e => hp (congrArg Addr.block e))).trans h
set_option maxRecDepth 100000 in
set_option maxHeartbeats 4000000 in
theorem nSub_no (F : Nat → Prop) (va vb : Value) (x y : Nat) (w : World) (ha : NatAt F w va x) (hb : NatAt F w vb y) (hlt : x < y) :
    Calls Try.prog 77 #[va, vb] w fun e w' => e = .returned (.tuple #[.agg #[.slice none 0 0], .bool false]) ∧ Below w.heap.size w w' := by
  have hc := cmpV_lt (show (x : Int) < y by omega)
  have ha0 := ha
  have hb0 := hb
  obtain ⟨A, n, c, rfl⟩ := ha.form
  obtain ⟨B, m, d, rfl⟩ := hb.form
  have ha := Lib.hid ha0
  have hb := Lib.hid hb0
  clear ha0 hb0
  have C := Cur.start F w
  have l2 := Blk.new_at ((w.alloc (.cells #[.slice A n c] 31)).alloc (.cells #[.slice B m d] 31)) 31 #[.slice none 0 0] (w.heap.size + 1 + 1) (by simp)
  go_enter Try.func77, Try.ntmps77
  go_wp2_with fail
  (refine (nCmp F _ _ x y _ (ha.out.keep (by (repeat (first | with_reducible exact Keeps.refl _ _ | with_reducible assumption | with_reducible refine Keeps.drew ?_ | with_reducible refine Keeps.drewN ?_ _ | with_reducible refine Keeps.alloc ?_ _ | with_reducible refine Keeps.set ?_ (by first | (simp [Own]; done) | exact .inr (by first | (simp; done) | (simp; omega) | omega)) _ | with_reducible refine Keeps.trans ?_ (by assumption))))) (hb.out.keep (by (repeat (first | with_reducible exact Keeps.refl _ _ | with_reducible assumption | with_reducible refine Keeps.drew ?_ | with_reducible refine Keeps.drewN ?_ _ | with_reducible refine Keeps.alloc ?_ _ | with_reducible refine Keeps.set ?_ (by first | (simp [Own]; done) | exact .inr (by first | (simp; done) | (simp; omega) | omega)) _ | with_reducible refine Keeps.trans ?_ (by assumption)))))).mono ?_; rintro e wM ⟨rfl, hb⟩; obtain ⟨K, C⟩ := Cur.step C (by (repeat (first | with_reducible exact Keeps.refl _ _ | with_reducible assumption | with_reducible refine Keeps.drew ?_ | with_reducible refine Keeps.drewN ?_ _ | with_reducible refine Keeps.alloc ?_ _ | with_reducible refine Keeps.set ?_ (by first | (simp [Own]; done) | exact .inr (by first | (simp; done) | (simp; omega) | omega)) _ | with_reducible refine Keeps.trans ?_ (by assumption)))) hb; have BW := below_next (w := w) (by (repeat (first | with_reducible exact Below.refl _ _ | with_reducible assumption | with_reducible refine Below.drew ?_ | with_reducible refine below_drewN ?_ _ | with_reducible refine Below.alloc ?_ (by first | exact Nat.le_refl _ | (simp; done) | (simp; omega) | omega) _ | with_reducible refine Below.setCell ?_ (by first | exact Nat.le_refl _ | (simp; done) | (simp; omega) | omega) _))) hb; have l2 := Blk.next l2 (fun h => by (repeat (first | with_reducible assumption | with_reducible refine Blk.drew ?_ | with_reducible refine Blk.drewN ?_ _ | with_reducible refine Blk.alloc ?_ _ | with_reducible refine Blk.far ?_ (by simp; try omega) _))) hb; have c2 := l2.cell; have f2 := l2.frozen; have z2 := l2.lt)
  rw [hc]
  go_wp2_with fail
  exact bodyPost_ret (v := .tuple #[.agg #[.slice none 0 0], .bool false]) (by simp [results, Try.results77, go_sem, c2]) rfl ⟨rfl, by (repeat (first | with_reducible exact Below.refl _ _ | with_reducible assumption | with_reducible refine Below.drew ?_ | with_reducible refine below_drewN ?_ _ | with_reducible refine Below.alloc ?_ (by first | exact Nat.le_refl _ | (simp; done) | (simp; omega) | omega) _ | with_reducible refine Below.setCell ?_ (by first | exact Nat.le_refl _ | (simp; done) | (simp; omega) | omega) _))⟩

set_option maxRecDepth 100000 in
set_option maxHeartbeats 4000000 in
theorem nSub_pos (F : Nat → Prop) (g o c : Nat) (vb : Value) (x y : Nat) (w : World) (hF : Lows F w) (ha : NatAt F w (.agg #[.slice (some ⟨g, o, none⟩) (nw x) c]) x) (hb : NatAt F w vb y) (hyx : y ≤ x)  :
    Calls Try.prog 77 #[.agg #[.slice (some ⟨g, o, none⟩) (nw x) c], vb] w fun e w' => ∃ v, e = .returned (.tuple #[v, .bool true]) ∧ NatAt F w' v (x - y) ∧ Below w.heap.size w w' := by
  have hcm := cmpV_ge (show (y : Int) ≤ x by omega)
  have hcm' : ¬ cmpV (x : Int) y < 0 := by omega
  have hx := ha.own (G := Own F [w.heap.size + 1 + 1]) (Own.new (by simp; omega))
  have hy := hb.own (G := Own F [w.heap.size + 1 + 1]) (Own.new (by simp; omega))
  have hsx := ha.small
  have hwx := ha.words
  clear ha
  obtain ⟨B, m, d, rfl⟩ := hb.form
  clear hb
  unfold Small at hsx
  have hmk := fun w => mk64 (nw x) (by omega) w
  have hx0 := Lib.hid hx
  have hy0 := Lib.hid hy
  have HW := Lib.hid hwx
  clear hx hy hwx
  have l0 := ((Blk.new w 31 #[.slice (some ⟨g, o, none⟩) (nw x) c]).alloc (.cells #[.slice B m d] 31)).alloc (.cells #[.slice none 0 0] 31)
  have l1 := (Blk.new_at (w.alloc (.cells #[.slice (some ⟨g, o, none⟩) (nw x) c] 31)) 31 #[.slice B m d] (w.heap.size + 1) (by simp)).alloc (.cells #[.slice none 0 0] 31)
  have l2 := Blk.new_at ((w.alloc (.cells #[.slice (some ⟨g, o, none⟩) (nw x) c] 31)).alloc (.cells #[.slice B m d] 31)) 31 #[.slice none 0 0] (w.heap.size + 1 + 1) (by simp)
  have C := Cur.start (Own F [w.heap.size + 1 + 1]) w
  go_enter Try.func77, Try.ntmps77
  go_wp2_with fail
  (refine (nCmp (Own F [w.heap.size + 1 + 1]) _ _ x y _ (hx0.out.keep (by (repeat (first | with_reducible exact Keeps.refl _ _ | with_reducible assumption | with_reducible refine Keeps.drew ?_ | with_reducible refine Keeps.drewN ?_ _ | with_reducible refine Keeps.alloc ?_ _ | with_reducible refine Keeps.set ?_ (by first | (simp [Own]; done) | exact .inr (by first | (simp; done) | (simp; omega) | omega)) _ | with_reducible refine Keeps.trans ?_ (by assumption))))) (hy0.out.keep (by (repeat (first | with_reducible exact Keeps.refl _ _ | with_reducible assumption | with_reducible refine Keeps.drew ?_ | with_reducible refine Keeps.drewN ?_ _ | with_reducible refine Keeps.alloc ?_ _ | with_reducible refine Keeps.set ?_ (by first | (simp [Own]; done) | exact .inr (by first | (simp; done) | (simp; omega) | omega)) _ | with_reducible refine Keeps.trans ?_ (by assumption)))))).mono ?_; rintro e wM ⟨rfl, hb⟩; obtain ⟨K, C⟩ := Cur.step C (by (repeat (first | with_reducible exact Keeps.refl _ _ | with_reducible assumption | with_reducible refine Keeps.drew ?_ | with_reducible refine Keeps.drewN ?_ _ | with_reducible refine Keeps.alloc ?_ _ | with_reducible refine Keeps.set ?_ (by first | (simp [Own]; done) | exact .inr (by first | (simp; done) | (simp; omega) | omega)) _ | with_reducible refine Keeps.trans ?_ (by assumption)))) hb; have BW := below_next (w := w) (by (repeat (first | with_reducible exact Below.refl _ _ | with_reducible assumption | with_reducible refine Below.drew ?_ | with_reducible refine below_drewN ?_ _ | with_reducible refine Below.alloc ?_ (by first | exact Nat.le_refl _ | (simp; done) | (simp; omega) | omega) _ | with_reducible refine Below.setCell ?_ (by first | exact Nat.le_refl _ | (simp; done) | (simp; omega) | omega) _))) hb; have l0 := Blk.next l0 (fun h => by (repeat (first | with_reducible assumption | with_reducible refine Blk.drew ?_ | with_reducible refine Blk.drewN ?_ _ | with_reducible refine Blk.alloc ?_ _ | with_reducible refine Blk.far ?_ (by simp; try omega) _))) hb; have l1 := Blk.next l1 (fun h => by (repeat (first | with_reducible assumption | with_reducible refine Blk.drew ?_ | with_reducible refine Blk.drewN ?_ _ | with_reducible refine Blk.alloc ?_ _ | with_reducible refine Blk.far ?_ (by simp; try omega) _))) hb; have l2 := Blk.next l2 (fun h => by (repeat (first | with_reducible assumption | with_reducible refine Blk.drew ?_ | with_reducible refine Blk.drewN ?_ _ | with_reducible refine Blk.alloc ?_ _ | with_reducible refine Blk.far ?_ (by simp; try omega) _))) hb; have c0 := l0.cell; have f0 := l0.frozen; have z0 := l0.lt; have c1 := l1.cell; have f1 := l1.frozen; have z1 := l1.lt; have c2 := l2.cell; have f2 := l2.frozen; have z2 := l2.lt)
  obtain ⟨wO, rfl⟩ : ∃ z : World, z = wM := ⟨_, rfl⟩
  have KW : Keeps (Own F [w.heap.size + 1 + 1]) w wO := C
  have q2 : w.heap.size + 1 + 1 < wO.heap.size := l2.lt
  go_wp2_with fail
  go_loopw [7, 20] (fun cc i wr => ∃ (k c' : Nat) (f : Nat → Nat), i = .int .i64 k ∧ cc = .int .u64 c' ∧ k ≤ nw x ∧ SubInv x y f (nw x) k c' ∧ Cur (Own F [w.heap.size + 1 + 1]) w wr ∧ Below w.heap.size w wr ∧
      Blk wr w.heap.size 31 #[.slice (some ⟨g, o, none⟩) (nw x) c] ∧ Blk wr (w.heap.size + 1) 31 #[.slice B m d] ∧ Blk wr (w.heap.size + 1 + 1) 31 #[.slice none 0 0] ∧ Blk wr wO.heap.size 105 (wa f (nw x))) (fun cc i wr => nw x - (intOf i).toNat)
  case atStart =>
    refine ⟨0, 0, fun _ => 0, rfl, rfl, by omega, ⟨fun i hi => by show 0 < _; omega, by omega, by simp [val]⟩, Cur.mk (by (repeat (first | with_reducible exact Keeps.refl _ _ | with_reducible assumption | with_reducible refine Keeps.drew ?_ | with_reducible refine Keeps.drewN ?_ _ | with_reducible refine Keeps.alloc ?_ _ | with_reducible refine Keeps.set ?_ (by first | (simp [Own]; done) | exact .inr (by first | (simp; done) | (simp; omega) | omega)) _ | with_reducible refine Keeps.trans ?_ (by assumption)))), by (repeat (first | with_reducible exact Below.refl _ _ | with_reducible assumption | with_reducible refine Below.drew ?_ | with_reducible refine below_drewN ?_ _ | with_reducible refine Below.alloc ?_ (by first | exact Nat.le_refl _ | (simp; done) | (simp; omega) | omega) _ | with_reducible refine Below.setCell ?_ (by first | exact Nat.le_refl _ | (simp; done) | (simp; omega) | omega) _)), l0.alloc _, l1.alloc _, l2.alloc _, Blk.new _ _ _⟩
  case round =>
    obtain ⟨k, c', f, rfl, rfl, hk, hi, C, BW, l0, l1, l2, l3⟩ := hrel
    have K : Keeps (Own F [w.heap.size + 1 + 1]) w wr := C
    have hI := Lib.hid hi
    have hc' : c' ≤ 1 := hi.2.1
    clear hi
    by_cases hlt : k < nw x
    · have k3 : (wa f (nw x))[k]? = some (.int .u64 (f k : Nat)) := wa_at f _ k hlt
      have hl : g < w.heap.size := by
        obtain ⟨g', o', e, _, hl, _⟩ := HW.out k hlt
        simp only [Option.some.injEq, Addr.mk.injEq] at e
        obtain ⟨rfl, rfl, _⟩ := e
        exact hl
      have hcx : wr.cell? ⟨g, o + k, none⟩ = some (.int .u64 (wd x k : Nat)) := by
        obtain ⟨g', o', e, _, _, hcell⟩ := (hx0.out.keep K).words k hlt
        simp only [Option.some.injEq, Addr.mk.injEq] at e
        obtain ⟨rfl, rfl, _⟩ := e
        exact hcell
      have c0 := l0.cell
      have c1 := l1.cell
      have hk0 : (0 : Int) ≤ k := by omega
      have hk1 : (k : Int) < (nw x : Int) := by omega
      have zz : g < wO.heap.size := Nat.lt_of_lt_of_le hl KW.1
      go_wp2_with fail
      go_region_held3 (fun w' => (∀ i, w'.cell? ⟨w.heap.size, i, none⟩ = (#[.slice (some ⟨g, o, none⟩) (nw x) c] : Array Value)[i]?) ∧ (∀ i, w'.cell? ⟨w.heap.size + 1, i, none⟩ = (#[.slice B m d] : Array Value)[i]?) ∧ w'.cell? ⟨g, o + k, none⟩ = some (.int .u64 (wd x k : Nat)))
        (first | exact ⟨l0.cell, l1.cell, hcx⟩ | (refine ⟨?_, ?_, ?_⟩; all_goals (first | exact (l0.far (by first | (simp; done) | (simp; omega)) _).cell | exact (l1.far (by first | (simp; done) | (simp; omega)) _).cell | exact far_cell hcx (Nat.ne_of_gt zz))) | go_keep)
        (first
          | ((go_at_call 92; refine (nWord (Own F [w.heap.size + 1 + 1]) _ _ _ (by omega) _ (NatAt.keep hy0.out (by (repeat (first | with_reducible exact Keeps.refl _ _ | with_reducible assumption | with_reducible refine Keeps.drew ?_ | with_reducible refine Keeps.drewN ?_ _ | with_reducible refine Keeps.alloc ?_ _ | with_reducible refine Keeps.set ?_ (by first | (simp [Own]; done) | exact .inr (by first | (simp; done) | (simp; omega) | omega)) _ | with_reducible refine Keeps.trans ?_ (by assumption)))))).mono ?_; rintro e wM ⟨rfl, hb⟩; obtain ⟨K, C⟩ := Cur.step C (by (repeat (first | with_reducible exact Keeps.refl _ _ | with_reducible assumption | with_reducible refine Keeps.drew ?_ | with_reducible refine Keeps.drewN ?_ _ | with_reducible refine Keeps.alloc ?_ _ | with_reducible refine Keeps.set ?_ (by first | (simp [Own]; done) | exact .inr (by first | (simp; done) | (simp; omega) | omega)) _ | with_reducible refine Keeps.trans ?_ (by assumption)))) hb; have BW := below_next (w := w) (by (repeat (first | with_reducible exact Below.refl _ _ | with_reducible assumption | with_reducible refine Below.drew ?_ | with_reducible refine below_drewN ?_ _ | with_reducible refine Below.alloc ?_ (by first | exact Nat.le_refl _ | (simp; done) | (simp; omega) | omega) _ | with_reducible refine Below.setCell ?_ (by first | exact Nat.le_refl _ | (simp; done) | (simp; omega) | omega) _))) hb; have l0 := Blk.next l0 (fun h => by (repeat (first | with_reducible assumption | with_reducible refine Blk.drew ?_ | with_reducible refine Blk.drewN ?_ _ | with_reducible refine Blk.alloc ?_ _ | with_reducible refine Blk.far ?_ (by simp; try omega) _))) hb; have l1 := Blk.next l1 (fun h => by (repeat (first | with_reducible assumption | with_reducible refine Blk.drew ?_ | with_reducible refine Blk.drewN ?_ _ | with_reducible refine Blk.alloc ?_ _ | with_reducible refine Blk.far ?_ (by simp; try omega) _))) hb; have l2 := Blk.next l2 (fun h => by (repeat (first | with_reducible assumption | with_reducible refine Blk.drew ?_ | with_reducible refine Blk.drewN ?_ _ | with_reducible refine Blk.alloc ?_ _ | with_reducible refine Blk.far ?_ (by simp; try omega) _))) hb; have l3 := Blk.next l3 (fun h => by (repeat (first | with_reducible assumption | with_reducible refine Blk.drew ?_ | with_reducible refine Blk.drewN ?_ _ | with_reducible refine Blk.alloc ?_ _ | with_reducible refine Blk.far ?_ (by simp; try omega) _))) hb; have c0 := l0.cell; have f0 := l0.frozen; have z0 := l0.lt; have c1 := l1.cell; have f1 := l1.frozen; have z1 := l1.lt; have c2 := l2.cell; have f2 := l2.frozen; have z2 := l2.lt; have c3 := l3.cell; have f3 := l3.frozen; have z3 := l3.lt); have hcx := keepC hb hcx)
          | (go_at_call 94; refine (wSub _ _ _ (W64_wd _ _) (W64_wd _ _) (by omega) (by omega) _).mono ?_; rintro e wM ⟨s, dd, rfl, hadd, rfl⟩; obtain ⟨s', d', rfl, rfl, hq⟩ := subRel_nat hadd; have HQ := Lib.hid hq; clear hq))
      go_wp2_with fail
      go_roundw
      case rel =>
        have KW : Keeps (Own F [w.heap.size + 1 + 1]) w wM := C
        have l3' := l3.set_ k (.int .u64 (s' : Nat))
        rw [wa_upd] at l3'
        refine ⟨k + 1, d', upd f k s', rfl, rfl, by omega, subInv_step x y f _ k c' s' d' hI.out HQ.out.1 HQ.out.2.1 HQ.out.2.2, Cur.mk (by (repeat (first | with_reducible exact Keeps.refl _ _ | with_reducible assumption | with_reducible refine Keeps.drew ?_ | with_reducible refine Keeps.drewN ?_ _ | with_reducible refine Keeps.alloc ?_ _ | with_reducible refine Keeps.set ?_ (by first | (simp [Own]; done) | exact .inr (by first | (simp; done) | (simp; omega) | omega)) _ | with_reducible refine Keeps.trans ?_ (by assumption)))), by (repeat (first | with_reducible exact Below.refl _ _ | with_reducible assumption | with_reducible refine Below.drew ?_ | with_reducible refine below_drewN ?_ _ | with_reducible refine Below.alloc ?_ (by first | exact Nat.le_refl _ | (simp; done) | (simp; omega) | omega) _ | with_reducible refine Below.setCell ?_ (by first | exact Nat.le_refl _ | (simp; done) | (simp; omega) | omega) _)), ?_, ?_, ?_, l3'⟩
        · exact l0.far (by first | (simp; done) | (simp; omega)) _
        · exact l1.far (by first | (simp; done) | (simp; omega)) _
        · exact l2.far (by first | (simp; done) | (simp; omega)) _
      case measure => simp [intOf]; omega
    · obtain rfl : nw x = k := by omega
      have hv := Lib.hid (subInv_end x y f c' hI.out hyx)
      have hsl := Lib.hid (blk_slice (G := Own F [w.heap.size + 1 + 1]) l3 (by intro hh; rcases hh with hh | hh; exact Nat.lt_irrefl _ (Nat.lt_of_lt_of_le (hF _ hh) KW.1); simp at hh; omega))
      have hwf := Lib.hid hI.out.1
      go_wp2_with fail
      (refine (nTrim (Own F [w.heap.size + 1 + 1]) (some ⟨wO.heap.size, 0, none⟩) (nw x) (nw x) f _ hsl.out (blk_typ l3) hwf.out (by rw [hv.out]; exact Nat.le_trans (nw_mono (Nat.sub_le _ _)) hsx) (Nat.le_refl _) (by unfold maxLen; omega)).mono ?_; rintro e wM ⟨v', rfl, hr, hb⟩; obtain ⟨A', n', c', rfl⟩ := hr.form; obtain ⟨K, C⟩ := Cur.step C (by (repeat (first | with_reducible exact Keeps.refl _ _ | with_reducible assumption | with_reducible refine Keeps.drew ?_ | with_reducible refine Keeps.drewN ?_ _ | with_reducible refine Keeps.alloc ?_ _ | with_reducible refine Keeps.set ?_ (by first | (simp [Own]; done) | exact .inr (by first | (simp; done) | (simp; omega) | omega)) _ | with_reducible refine Keeps.trans ?_ (by assumption)))) hb; have BW := below_next (w := w) (by (repeat (first | with_reducible exact Below.refl _ _ | with_reducible assumption | with_reducible refine Below.drew ?_ | with_reducible refine below_drewN ?_ _ | with_reducible refine Below.alloc ?_ (by first | exact Nat.le_refl _ | (simp; done) | (simp; omega) | omega) _ | with_reducible refine Below.setCell ?_ (by first | exact Nat.le_refl _ | (simp; done) | (simp; omega) | omega) _))) hb; have l2 := Blk.next l2 (fun h => by (repeat (first | with_reducible assumption | with_reducible refine Blk.drew ?_ | with_reducible refine Blk.drewN ?_ _ | with_reducible refine Blk.alloc ?_ _ | with_reducible refine Blk.far ?_ (by simp; try omega) _))) hb; have c2 := l2.cell; have f2 := l2.frozen; have z2 := l2.lt)
      rw [hv.out] at hr
      have H := Lib.hid hr
      clear hr
      go_wp2_with fail
      exact bodyPost_ret (v := .tuple #[.agg #[.slice A' n' c'], .bool true]) (by simp [results, Try.results77, go_sem, c2]) rfl ⟨_, rfl, (H.out.keep (by (repeat (first | with_reducible exact Keeps.refl _ _ | with_reducible assumption | with_reducible refine Keeps.drew ?_ | with_reducible refine Keeps.drewN ?_ _ | with_reducible refine Keeps.alloc ?_ _ | with_reducible refine Keeps.set ?_ (by first | (simp [Own]; done) | exact .inr (by first | (simp; done) | (simp; omega) | omega)) _ | with_reducible refine Keeps.trans ?_ (by assumption))))).sub Own.sub, by (repeat (first | with_reducible exact Below.refl _ _ | with_reducible assumption | with_reducible refine Below.drew ?_ | with_reducible refine below_drewN ?_ _ | with_reducible refine Below.alloc ?_ (by first | exact Nat.le_refl _ | (simp; done) | (simp; omega) | omega) _ | with_reducible refine Below.setCell ?_ (by first | exact Nat.le_refl _ | (simp; done) | (simp; omega) | omega) _))⟩
set_option maxRecDepth 100000 in
set_option maxHeartbeats 4000000 in
theorem nSub_nil (F : Nat → Prop) (A : Option Addr) (c : Nat) (vb : Value) (x y : Nat) (w : World) (hF : Lows F w) (ha : NatAt F w (.agg #[.slice A (nw x) c]) x) (hb : NatAt F w vb y) (hyx : y ≤ x) (hx0 : nw x = 0) :
    Calls Try.prog 77 #[.agg #[.slice A (nw x) c], vb] w fun e w' => ∃ v, e = .returned (.tuple #[v, .bool true]) ∧ NatAt F w' v (x - y) ∧ Below w.heap.size w w' := by
  have HX := Lib.hid hx0
  clear hx0
  have hcm := cmpV_ge (show (y : Int) ≤ x by omega)
  have hcm' : ¬ cmpV (x : Int) y < 0 := by omega
  have hx := ha.own (G := Own F [w.heap.size + 1 + 1]) (Own.new (by simp; omega))
  have hy := hb.own (G := Own F [w.heap.size + 1 + 1]) (Own.new (by simp; omega))
  have hsx := ha.small
  have hwx := ha.words
  clear ha
  obtain ⟨B, m, d, rfl⟩ := hb.form
  clear hb
  unfold Small at hsx
  have hmk := fun w => mk64 (nw x) (by omega) w
  have hxx := Lib.hid hx
  have hy0 := Lib.hid hy
  clear hx hy hwx
  have l0 := ((Blk.new w 31 #[.slice A (nw x) c]).alloc (.cells #[.slice B m d] 31)).alloc (.cells #[.slice none 0 0] 31)
  have l1 := (Blk.new_at (w.alloc (.cells #[.slice A (nw x) c] 31)) 31 #[.slice B m d] (w.heap.size + 1) (by simp)).alloc (.cells #[.slice none 0 0] 31)
  have l2 := Blk.new_at ((w.alloc (.cells #[.slice A (nw x) c] 31)).alloc (.cells #[.slice B m d] 31)) 31 #[.slice none 0 0] (w.heap.size + 1 + 1) (by simp)
  have C := Cur.start (Own F [w.heap.size + 1 + 1]) w
  go_enter Try.func77, Try.ntmps77
  go_wp2_with fail
  (refine (nCmp (Own F [w.heap.size + 1 + 1]) _ _ x y _ (hxx.out.keep (by (repeat (first | with_reducible exact Keeps.refl _ _ | with_reducible assumption | with_reducible refine Keeps.drew ?_ | with_reducible refine Keeps.drewN ?_ _ | with_reducible refine Keeps.alloc ?_ _ | with_reducible refine Keeps.set ?_ (by first | (simp [Own]; done) | exact .inr (by first | (simp; done) | (simp; omega) | omega)) _ | with_reducible refine Keeps.trans ?_ (by assumption))))) (hy0.out.keep (by (repeat (first | with_reducible exact Keeps.refl _ _ | with_reducible assumption | with_reducible refine Keeps.drew ?_ | with_reducible refine Keeps.drewN ?_ _ | with_reducible refine Keeps.alloc ?_ _ | with_reducible refine Keeps.set ?_ (by first | (simp [Own]; done) | exact .inr (by first | (simp; done) | (simp; omega) | omega)) _ | with_reducible refine Keeps.trans ?_ (by assumption)))))).mono ?_; rintro e wM ⟨rfl, hb⟩; obtain ⟨K, C⟩ := Cur.step C (by (repeat (first | with_reducible exact Keeps.refl _ _ | with_reducible assumption | with_reducible refine Keeps.drew ?_ | with_reducible refine Keeps.drewN ?_ _ | with_reducible refine Keeps.alloc ?_ _ | with_reducible refine Keeps.set ?_ (by first | (simp [Own]; done) | exact .inr (by first | (simp; done) | (simp; omega) | omega)) _ | with_reducible refine Keeps.trans ?_ (by assumption)))) hb; have BW := below_next (w := w) (by (repeat (first | with_reducible exact Below.refl _ _ | with_reducible assumption | with_reducible refine Below.drew ?_ | with_reducible refine below_drewN ?_ _ | with_reducible refine Below.alloc ?_ (by first | exact Nat.le_refl _ | (simp; done) | (simp; omega) | omega) _ | with_reducible refine Below.setCell ?_ (by first | exact Nat.le_refl _ | (simp; done) | (simp; omega) | omega) _))) hb; have l0 := Blk.next l0 (fun h => by (repeat (first | with_reducible assumption | with_reducible refine Blk.drew ?_ | with_reducible refine Blk.drewN ?_ _ | with_reducible refine Blk.alloc ?_ _ | with_reducible refine Blk.far ?_ (by simp; try omega) _))) hb; have l1 := Blk.next l1 (fun h => by (repeat (first | with_reducible assumption | with_reducible refine Blk.drew ?_ | with_reducible refine Blk.drewN ?_ _ | with_reducible refine Blk.alloc ?_ _ | with_reducible refine Blk.far ?_ (by simp; try omega) _))) hb; have l2 := Blk.next l2 (fun h => by (repeat (first | with_reducible assumption | with_reducible refine Blk.drew ?_ | with_reducible refine Blk.drewN ?_ _ | with_reducible refine Blk.alloc ?_ _ | with_reducible refine Blk.far ?_ (by simp; try omega) _))) hb; have c0 := l0.cell; have f0 := l0.frozen; have z0 := l0.lt; have c1 := l1.cell; have f1 := l1.frozen; have z1 := l1.lt; have c2 := l2.cell; have f2 := l2.frozen; have z2 := l2.lt)
  obtain ⟨wO, rfl⟩ : ∃ z : World, z = wM := ⟨_, rfl⟩
  have KW : Keeps (Own F [w.heap.size + 1 + 1]) w wO := C
  have q2 : w.heap.size + 1 + 1 < wO.heap.size := l2.lt
  go_wp2_with fail
  go_loopw [7, 20] (fun cc i wr => ∃ (k c' : Nat) (f : Nat → Nat), i = .int .i64 k ∧ cc = .int .u64 c' ∧ k ≤ nw x ∧ SubInv x y f (nw x) k c' ∧ Cur (Own F [w.heap.size + 1 + 1]) w wr ∧ Below w.heap.size w wr ∧
      Blk wr w.heap.size 31 #[.slice A (nw x) c] ∧ Blk wr (w.heap.size + 1) 31 #[.slice B m d] ∧ Blk wr (w.heap.size + 1 + 1) 31 #[.slice none 0 0] ∧ Blk wr wO.heap.size 105 (wa f (nw x))) (fun cc i wr => nw x - (intOf i).toNat)
  case atStart =>
    refine ⟨0, 0, fun _ => 0, rfl, rfl, by omega, ⟨fun i hi => by show 0 < _; omega, by omega, by simp [val]⟩, Cur.mk (by (repeat (first | with_reducible exact Keeps.refl _ _ | with_reducible assumption | with_reducible refine Keeps.drew ?_ | with_reducible refine Keeps.drewN ?_ _ | with_reducible refine Keeps.alloc ?_ _ | with_reducible refine Keeps.set ?_ (by first | (simp [Own]; done) | exact .inr (by first | (simp; done) | (simp; omega) | omega)) _ | with_reducible refine Keeps.trans ?_ (by assumption)))), by (repeat (first | with_reducible exact Below.refl _ _ | with_reducible assumption | with_reducible refine Below.drew ?_ | with_reducible refine below_drewN ?_ _ | with_reducible refine Below.alloc ?_ (by first | exact Nat.le_refl _ | (simp; done) | (simp; omega) | omega) _ | with_reducible refine Below.setCell ?_ (by first | exact Nat.le_refl _ | (simp; done) | (simp; omega) | omega) _)), l0.alloc _, l1.alloc _, l2.alloc _, Blk.new _ _ _⟩
  case round =>
    obtain ⟨k, c', f, rfl, rfl, hk, hi, C, BW, l0, l1, l2, l3⟩ := hrel
    have K : Keeps (Own F [w.heap.size + 1 + 1]) w wr := C
    have hI := Lib.hid hi
    have hc' : c' ≤ 1 := hi.2.1
    clear hi
    by_cases hlt : k < nw x
    · exact absurd HX.out (by omega)
    · obtain rfl : nw x = k := by omega
      have hv := Lib.hid (subInv_end x y f c' hI.out hyx)
      have hsl := Lib.hid (blk_slice (G := Own F [w.heap.size + 1 + 1]) l3 (by intro hh; rcases hh with hh | hh; exact Nat.lt_irrefl _ (Nat.lt_of_lt_of_le (hF _ hh) KW.1); simp at hh; omega))
      have hwf := Lib.hid hI.out.1
      go_wp2_with fail
      (refine (nTrim (Own F [w.heap.size + 1 + 1]) (some ⟨wO.heap.size, 0, none⟩) (nw x) (nw x) f _ hsl.out (blk_typ l3) hwf.out (by rw [hv.out]; exact Nat.le_trans (nw_mono (Nat.sub_le _ _)) hsx) (Nat.le_refl _) (by unfold maxLen; omega)).mono ?_; rintro e wM ⟨v', rfl, hr, hb⟩; obtain ⟨A', n', c', rfl⟩ := hr.form; obtain ⟨K, C⟩ := Cur.step C (by (repeat (first | with_reducible exact Keeps.refl _ _ | with_reducible assumption | with_reducible refine Keeps.drew ?_ | with_reducible refine Keeps.drewN ?_ _ | with_reducible refine Keeps.alloc ?_ _ | with_reducible refine Keeps.set ?_ (by first | (simp [Own]; done) | exact .inr (by first | (simp; done) | (simp; omega) | omega)) _ | with_reducible refine Keeps.trans ?_ (by assumption)))) hb; have BW := below_next (w := w) (by (repeat (first | with_reducible exact Below.refl _ _ | with_reducible assumption | with_reducible refine Below.drew ?_ | with_reducible refine below_drewN ?_ _ | with_reducible refine Below.alloc ?_ (by first | exact Nat.le_refl _ | (simp; done) | (simp; omega) | omega) _ | with_reducible refine Below.setCell ?_ (by first | exact Nat.le_refl _ | (simp; done) | (simp; omega) | omega) _))) hb; have l2 := Blk.next l2 (fun h => by (repeat (first | with_reducible assumption | with_reducible refine Blk.drew ?_ | with_reducible refine Blk.drewN ?_ _ | with_reducible refine Blk.alloc ?_ _ | with_reducible refine Blk.far ?_ (by simp; try omega) _))) hb; have c2 := l2.cell; have f2 := l2.frozen; have z2 := l2.lt)
      rw [hv.out] at hr
      have H := Lib.hid hr
      clear hr
      go_wp2_with fail
      exact bodyPost_ret (v := .tuple #[.agg #[.slice A' n' c'], .bool true]) (by simp [results, Try.results77, go_sem, c2]) rfl ⟨_, rfl, (H.out.keep (by (repeat (first | with_reducible exact Keeps.refl _ _ | with_reducible assumption | with_reducible refine Keeps.drew ?_ | with_reducible refine Keeps.drewN ?_ _ | with_reducible refine Keeps.alloc ?_ _ | with_reducible refine Keeps.set ?_ (by first | (simp [Own]; done) | exact .inr (by first | (simp; done) | (simp; omega) | omega)) _ | with_reducible refine Keeps.trans ?_ (by assumption))))).sub Own.sub, by (repeat (first | with_reducible exact Below.refl _ _ | with_reducible assumption | with_reducible refine Below.drew ?_ | with_reducible refine below_drewN ?_ _ | with_reducible refine Below.alloc ?_ (by first | exact Nat.le_refl _ | (simp; done) | (simp; omega) | omega) _ | with_reducible refine Below.setCell ?_ (by first | exact Nat.le_refl _ | (simp; done) | (simp; omega) | omega) _))⟩

theorem nSub_yes (F : Nat → Prop) (va vb : Value) (x y : Nat) (w : World) (hF : Lows F w) (ha : NatAt F w va x) (hb : NatAt F w vb y) (hyx : y ≤ x) :
    Calls Try.prog 77 #[va, vb] w fun e w' => ∃ v, e = .returned (.tuple #[v, .bool true]) ∧ NatAt F w' v (x - y) ∧ Below w.heap.size w w' := by
  have ha0 := ha
  obtain ⟨A, c, rfl, _, _, _, hw⟩ := ha
  by_cases h0 : nw x = 0
  · exact nSub_nil F A c vb x y w hF ha0 hb hyx h0
  · obtain ⟨g, o, rfl, _⟩ := hw 0 (by omega)
    exact nSub_pos F g o c vb x y w hF ha0 hb hyx
end Go.Proofs.Ytngghjhmfpmilaa
