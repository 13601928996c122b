/- RatField: for every three fractions whose words are together at most 1048576 sums and products may be taken in any order and together in any way; a fraction less itself is 0, by itself 1. -/
import Derived.Test.YtknflfnkdieomaaRows
import Derived.Test.YtknflfnkdieomaaRatField
import Derived.Test.YtknflfnkdieomaaRow
import Derived.Test.YtknflfnkdieomaaOpen
import Derived.JoinedCond
namespace Go.Proofs.Ytknflfnkdieomaa.ratField
open Go.ChangeShapes Go.WideShapes Go.ChangeAt Go.RowKit
theorem one_le {H : Type} (d : DataW H) : 1 ≤ Rows.uptoBulk d := by
  cases d with
  | lit l => cases l <;> simp [Rows.uptoBulk]
  | _ => simp [Rows.uptoBulk]
theorem length_le {H : Type} (l : List (DataW H)) : l.length ≤ Rows.uptoBulkAll l := by
  induction l with
  | nil => simp [Rows.uptoBulkAll]
  | cons x r ih => have := one_le x; simp only [Rows.uptoBulkAll, List.length_cons]; omega
theorem long_le {H : Type} {n : Nat} {d : DataW H} (h : Long n d) : n ≤ Rows.uptoBulk d := by
  rcases h with rfl | ⟨el, sp, rfl, rfl⟩
  · omega
  · have := length_le el
    simp only [Rows.uptoBulk]
    omega
set_option maxRecDepth 100000 in
theorem contract (H : Type) (enc : TypeId × Value → H) (W : World) (base : Nat) (args : Array Value) (ds gs : List (DataW H)) (before : List MemPlace)
    (hval0 : ∀ (j : Nat) t v, Try.f12.params[j]? = some t → args[j]? = some v → Value.okWide Try.prog W .any base t v)
    (hW : DataW.Whole enc Try.prog Try.f12.params.toList Rows.ratFieldSpec.vars false W args.toList ds gs before) (hk : Rows.uptoSmall H (ds ++ gs) = true) :
    Calls Try.prog 12 args W fun e W' => ∃ v, e = .returned v ∧ Rows.ratFieldSpec.post enc Try.prog Try.f12 false true false false W args v W' := by
  have hval : ∀ (j : Nat) t v, Try.f12.params[j]? = some t → args[j]? = some v → Value.okWide Try.prog W .any base t v := hval0
  have hW0 := hW
  obtain ⟨p, q, hA0, hV, rfl, hfz, hnd⟩ := hW
  have hA : DataW.TrodAll enc Try.prog W 0 (fun _ => true) true Try.f12.params.toList args.toList ds p := hA0
  rw [Try.params12] at hA hval
  obtain ⟨v0, vs0, d0, ds0, p0, q0, hargs, rfl, rfl, h0, r0⟩ := trodAll_cons hA
  obtain ⟨v1, vs1, d1, ds1, p1, q1, rfl, rfl, rfl, h1, r1⟩ := trodAll_cons r0
  obtain ⟨v2, vs2, d2, ds2, p2, q2, rfl, rfl, rfl, h2, r2⟩ := trodAll_cons r1
  obtain ⟨rfl, rfl, rfl⟩ := trodAll_nil r2
  obtain rfl : args = #[v0, v1, v2] := by cases args; simp_all
  obtain ⟨rfl, rfl⟩ := trodVars_none hV
  obtain ⟨b0, f0, n0, g0, m0, R0, wf0, wg0, dA0, dB0, dC0, rfl, lf0, lg0⟩ := open_partV (hval 0 54 v0 rfl rfl) h0
  obtain ⟨b1, f1, n1, g1, m1, R1, wf1, wg1, dA1, dB1, dC1, rfl, lf1, lg1⟩ := open_partV (hval 1 54 v1 rfl rfl) h1
  obtain ⟨b2, f2, n2, g2, m2, R2, wf2, wg2, dA2, dB2, dC2, rfl, lf2, lg2⟩ := open_partV (hval 2 54 v2 rfl rfl) h2
  have hB : Rows.uptoBulkAll _ ≤ 1048576 := of_decide_eq_true hk
  simp only [List.append_nil, Rows.uptoBulkAll, Rows.uptoBulk] at hB
  have Blf0 := long_le lf0
  have Blg0 := long_le lg0
  have Blf1 := long_le lf1
  have Blg1 := long_le lg1
  have Blf2 := long_le lf2
  have Blg2 := long_le lg2
  refine (ratField (B := W.heap.size) (Nat.le_refl _) R0 R1 R2 wf0 (by omega) wg0 (by omega) wf1 (by omega) wg1 (by omega) wf2 (by omega) wg2 (by omega)).mono fun e W' ⟨v, he, hb, hv⟩ => ?_
  have hv : v = .bool true := hv
  subst he
  subst hv
  exact ⟨_, rfl, law_post (P := Try.prog) TrylaidOut (by rw [Try.params12]; intro t ht; simp only [List.mem_cons, List.not_mem_nil, or_false] at ht; rcases ht with rfl | rfl | rfl <;> exact ⟨by kernel_rfl, of_decide_eq_true (by kernel_rfl)⟩) rfl (by kernel_rfl) Try.underlying4 hW0 rfl rfl rfl hb⟩
set_option maxRecDepth 100000 in
theorem lifted (os : Os) (started : os.Started) (H : Type) (enc : TypeId × Value → H) (F : Stop.Interp) :
    ReturnsInHanded {} Try.checked os 12 .any ((Rows.OpenSpec.upto Rows.ratFieldSpec).pre6 enc Try.prog Try.f12 Rows.ratFieldUptoRow.domain false) (((Rows.OpenSpec.upto Rows.ratFieldSpec).at F).post enc Try.prog Try.f12 false true false false) := by
  refine returnsInHanded_of_cond (C := Try.checked) (s := Rows.OpenSpec.upto Rows.ratFieldSpec) (k := Rows.uptoSmall) rfl Tryown started (by kernel_rfl) Try.func12
    (OpenSpec.witness (enc := enc) (C := Try.checked) (s := Rows.OpenSpec.upto Rows.ratFieldSpec) (k := Rows.uptoSmall) rfl false ⟨#[], #[.agg #[.bool false, .slice none 0 0, .slice none 0 0], .agg #[.bool false, .slice none 0 0, .slice none 0 0], .agg #[.bool false, .slice none 0 0, .slice none 0 0]], []⟩ 8 (by kernel_rfl) (by kernel_rfl) (by kernel_rfl)
      (x := ([.agg [.agg [.lit (.bool false), .nil], .nil], .agg [.agg [.lit (.bool false), .nil], .nil], .agg [.agg [.lit (.bool false), .nil], .nil]], [], [])) (by kernel_rfl) rfl (by kernel_rfl)) ?_
  intro W base args ds gs before hval hW _ hk _
  exact contract H enc W base args ds gs before hval hW hk
/-- THE STATEMENT -/
theorem proved : Rows.RatFieldUptoSaid :=
  OpenClaim.holds_of_cond 12 Try.f12 rfl rfl rfl rfl rfl rfl rfl ⟨rfl, rfl, rfl, rfl, rfl⟩ rfl rfl rfl rfl rfl (by kernel_rfl) Try.func12 (by kernel_rfl)
    (of_decide_eq_true (by kernel_rfl)) (by unfold Func.isWrapper; first | (rw [if_pos (by decide +kernel)]; kernel_rfl) | (rw [if_neg (by decide +kernel)]; exact ⟨rfl, rfl⟩))
    (fun os started H enc _ F => lifted os started H enc F)
#print axioms proved
end Go.Proofs.Ytknflfnkdieomaa.ratField
