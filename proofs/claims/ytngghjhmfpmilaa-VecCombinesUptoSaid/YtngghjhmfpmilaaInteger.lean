/- The contracts of package integer. -/
import Derived.Test.YtngghjhmfpmilaaNat
import Derived.BigRegion
import Derived.Deep.RegionWith
namespace Go.Proofs.Ytngghjhmfpmilaa
open Go.RowKit
theorem intAt_of {F : Nat → Prop} {w : World} {b : Bool} {s : Value} {z : Int} (h : NatAt F w (.agg #[s]) z.natAbs) (hb : b = decide (z < 0)) : IntAt F w (.agg #[.bool b, s]) z := ⟨s, by rw [hb], h⟩
set_option maxHeartbeats 400000 in
theorem iNew_t (F : Nat → Prop) (v : Value) (x : Nat) (w : World) (h : NatAt F w v x) :
    Calls Try.prog 54 #[.bool true, v] w fun e w' => ∃ v', e = .returned v' ∧ IntAt F w' v' (-x) ∧ Below w.heap.size w w' := by
  have h' := h.own (G := Own F [w.heap.size + 1]) (Own.new (by simp))
  obtain ⟨A, n, c, rfl⟩ := h.form
  clear h
  go_enter Try.func54, Try.ntmps54
  go_wp2_with fail
  have l0 := (Blk.new w 31 #[.slice A n c]).alloc (.cells #[.bool false, .slice none 0 0] 33)
  have l1 := Blk.new_at (w.alloc (.cells #[.slice A n c] 31)) 33 #[.bool false, .slice none 0 0] (w.heap.size + 1) (by simp)
  have C := Cur.start (Own F [w.heap.size + 1]) w
  go_region_held3 (fun w' => ∀ o, w'.cell? ⟨w.heap.size, o, none⟩ = (#[.slice A n c] : Array Value)[o]?)
    (first | exact l0.cell | go_keep)
    ((go_at_call 82; refine (nZero (Own F [w.heap.size + 1]) _ x _ (h'.keep (by (repeat (first | with_reducible exact Keeps.refl _ _ | with_reducible assumption | with_reducible refine Keeps.drew ?_ | with_reducible refine Keeps.drewN ?_ _ | with_reducible refine Keeps.alloc ?_ _ | with_reducible refine Keeps.set ?_ (by first | (simp [Own]; done) | exact .inr (by first | (simp; done) | (simp; omega) | omega)) _ | with_reducible refine Keeps.trans ?_ (by assumption)))))).mono ?_; rintro e wM ⟨rfl, hb⟩; obtain ⟨K, C⟩ := Cur.step C (by (repeat (first | with_reducible exact Keeps.refl _ _ | with_reducible assumption | with_reducible refine Keeps.drew ?_ | with_reducible refine Keeps.drewN ?_ _ | with_reducible refine Keeps.alloc ?_ _ | with_reducible refine Keeps.set ?_ (by first | (simp [Own]; done) | exact .inr (by first | (simp; done) | (simp; omega) | omega)) _ | with_reducible refine Keeps.trans ?_ (by assumption)))) hb; have BW := below_next (w := w) (by (repeat (first | with_reducible exact Below.refl _ _ | with_reducible assumption | with_reducible refine Below.drew ?_ | with_reducible refine below_drewN ?_ _ | with_reducible refine Below.alloc ?_ (by first | exact Nat.le_refl _ | (simp; done) | (simp; omega) | omega) _ | with_reducible refine Below.setCell ?_ (by first | exact Nat.le_refl _ | (simp; done) | (simp; omega) | omega) _))) hb; have l0 := Blk.next l0 (fun h => by (repeat (first | with_reducible assumption | with_reducible refine Blk.drew ?_ | with_reducible refine Blk.drewN ?_ _ | with_reducible refine Blk.alloc ?_ _ | with_reducible refine Blk.far ?_ (by simp; try omega) _))) hb; have l1 := Blk.next l1 (fun h => by (repeat (first | with_reducible assumption | with_reducible refine Blk.drew ?_ | with_reducible refine Blk.drewN ?_ _ | with_reducible refine Blk.alloc ?_ _ | with_reducible refine Blk.far ?_ (by simp; try omega) _))) hb; have c0 := l0.cell; have f0 := l0.frozen; have z0 := l0.lt; have c1 := l1.cell; have f1 := l1.frozen; have z1 := l1.lt))
  go_wp2_with fail
  refine bodyPost_ret (v := .agg #[.bool (!decide (x = 0)), .slice A n c]) (by simp [results, Try.results54, go_sem, c1]) rfl ⟨_, rfl, intAt_of ?_ ?_, by (repeat (first | with_reducible exact Below.refl _ _ | with_reducible assumption | with_reducible refine Below.drew ?_ | with_reducible refine below_drewN ?_ _ | with_reducible refine Below.alloc ?_ (by first | exact Nat.le_refl _ | (simp; done) | (simp; omega) | omega) _ | with_reducible refine Below.setCell ?_ (by first | exact Nat.le_refl _ | (simp; done) | (simp; omega) | omega) _))⟩
  · rw [show (-(x : Int)).natAbs = x by omega]; exact (h'.keep (by (repeat (first | with_reducible exact Keeps.refl _ _ | with_reducible assumption | with_reducible refine Keeps.drew ?_ | with_reducible refine Keeps.drewN ?_ _ | with_reducible refine Keeps.alloc ?_ _ | with_reducible refine Keeps.set ?_ (by first | (simp [Own]; done) | exact .inr (by first | (simp; done) | (simp; omega) | omega)) _ | with_reducible refine Keeps.trans ?_ (by assumption))))).sub Own.sub
  · rw [← decide_not, decide_eq_decide]; omega
set_option maxHeartbeats 400000 in
theorem iNew_f (F : Nat → Prop) (v : Value) (x : Nat) (w : World) (h : NatAt F w v x) :
    Calls Try.prog 54 #[.bool false, v] w fun e w' => ∃ v', e = .returned v' ∧ IntAt F w' v' x ∧ Below w.heap.size w w' := by
  have h' := h.own (G := Own F [w.heap.size + 1]) (Own.new (by simp))
  obtain ⟨A, n, c, rfl⟩ := h.form
  clear h
  go_enter Try.func54, Try.ntmps54
  go_wp2_with fail
  go_region_with (fail)
  all_goals
    go_wp2_with fail
    refine bodyPost_ret (v := .agg #[.bool false, .slice A n c]) (by simp [results, Try.results54, go_sem]) rfl ⟨_, rfl, intAt_of ?_ ?_, by (repeat (first | with_reducible exact Below.refl _ _ | with_reducible assumption | with_reducible refine Below.drew ?_ | with_reducible refine below_drewN ?_ _ | with_reducible refine Below.alloc ?_ (by first | exact Nat.le_refl _ | (simp; done) | (simp; omega) | omega) _ | with_reducible refine Below.setCell ?_ (by first | exact Nat.le_refl _ | (simp; done) | (simp; omega) | omega) _))⟩
    · rw [show (x : Int).natAbs = x by omega]; exact (h'.keep (by (repeat (first | with_reducible exact Keeps.refl _ _ | with_reducible assumption | with_reducible refine Keeps.drew ?_ | with_reducible refine Keeps.drewN ?_ _ | with_reducible refine Keeps.alloc ?_ _ | with_reducible refine Keeps.set ?_ (by first | (simp [Own]; done) | exact .inr (by first | (simp; done) | (simp; omega) | omega)) _ | with_reducible refine Keeps.trans ?_ (by assumption))))).sub Own.sub
    · exact (decide_eq_false (by omega)).symm
/-- the number with this sign -/
def signed (b : Bool) (x : Nat) : Int := if b then -(x : Int) else x
theorem iNew (F : Nat → Prop) (b : Bool) (v : Value) (x : Nat) (w : World) (h : NatAt F w v x) :
    Calls Try.prog 54 #[.bool b, v] w fun e w' => ∃ v', e = .returned v' ∧ IntAt F w' v' (signed b x) ∧ Below w.heap.size w w' := by
  cases b
  · exact iNew_f F v x w h
  · exact iNew_t F v x w h
end Go.Proofs.Ytngghjhmfpmilaa
