/- ElimInverts: for all tables: a table and its inverse give One from either side; there is one just if the determinant is not 0, and determinants multiply. -/
import Derived.Test.YtgighdoacajmfaaGreatQ7
set_option maxRecDepth 100000
namespace Go.Proofs.YtgighdoacajmfaaGreat.elimInverts
open Go.ChangeShapes Go.WideShapes Go.ChangeAt Go.RowKit
theorem contract (H : Type) (enc : TypeId × Value → H) (W : World) (base : Nat) (args : Array Value) (ds gs : List (DataW H)) (before : List MemPlace)
  (hval0 : ∀ (j : Nat) t v, Tryz.f4.params[j]? = some t → args[j]? = some v → Value.okWide Tryz.prog W .any base t v)
  (hW : DataW.Whole enc Tryz.prog Tryz.f4.params.toList Rows.elimInvertsSpec.vars false W args.toList ds gs before) :
  Calls Tryz.prog 4 args W fun e W' => ∃ v, e = .returned v ∧ Rows.elimInvertsSpec.post enc Tryz.prog Tryz.f4 false true false false W args v W' := by
 have hval : ∀ (j : Nat) t v, Tryz.f4.params[j]? = some t → args[j]? = some v → Value.okWide Tryz.prog W .any base t v := hval0
 have hW0 := hW
 obtain ⟨p, q, hA0, hV, rfl, hfz, hnd⟩ := hW
 have hA : DataW.TrodAll enc Tryz.prog W 0 (fun _ => true) true Tryz.f4.params.toList args.toList ds p := hA0
 rw [Tryz.params4] at hA hval
 obtain ⟨v0, vs0, d0, ds0, p0, q0, hargs, rfl, rfl, h0, r0⟩ := trodAll_cons hA
 obtain ⟨v1, vs1, d1, ds1, p1, q1, rfl, rfl, rfl, h1, r1⟩ := trodAll_cons r0
 obtain ⟨rfl, rfl, rfl⟩ := trodAll_nil r1
 obtain rfl : args = #[v0, v1] := by cases args; simp_all
 obtain ⟨rfl, rfl⟩ := trodVars_none hV
 obtain ⟨t0, R0, k0, h0⟩ := top_grid (hval 0 24 v0 rfl rfl) h0
 obtain ⟨t1, R1, k1, h1⟩ := top_grid (hval 1 24 v1 rfl rfl) h1
 refine (CallOK.law (vals := [v0, v1]) (sElimInverts (z0 := t0.1) (l0 := t0.2.1) (k0 := fun r => (t0.2.2 r).1) (p0 := fun r c => ((t0.2.2 r).2 c).1) (d0 := fun r c => ((t0.2.2 r).2 c).2) (z1 := t1.1) (l1 := t1.2.1) (k1 := fun r => (t1.2.2 r).1) (p1 := fun r c => ((t1.2.2 r).2 c).1) (d1 := fun r c => ((t1.2.2 r).2 c).2) h0 h1) ⟨R0, R1, trivial⟩).mono fun e W' ⟨v, he, hb, hv⟩ => ?_
 subst he
 subst hv
 exact ⟨_, rfl, law_post (P := Tryz.prog) TryzlaidOut (by rw [Tryz.params4]; intro t ht; simp only [List.mem_cons, List.not_mem_nil, or_false] at ht; rcases ht with rfl | rfl <;> exact ⟨by kernel_rfl, of_decide_eq_true (by kernel_rfl)⟩) rfl (by kernel_rfl) Tryz.underlying4 hW0 rfl rfl rfl hb⟩
theorem lifted (os : Os) (started : os.Started) (H : Type) (enc : TypeId × Value → H) :
  ReturnsInHanded {} Tryz.checked os 4 .any (Rows.elimInvertsSpec.pre6 enc Tryz.prog Tryz.f4 Rows.elimInvertsRow.domain false) (Rows.elimInvertsSpec.post enc Tryz.prog Tryz.f4 false true false false) := by
 refine returnsInHanded_of_change (C := Tryz.checked) Tryzown started (by kernel_rfl) Tryz.func4
  (ChangeSpec.witness6 (enc := enc) (C := Tryz.checked) false ⟨#[], #[.agg #[.int .u8 0, .slice none 0 0], .agg #[.int .u8 0, .slice none 0 0]], []⟩ 8 (by kernel_rfl) (by kernel_rfl) (by kernel_rfl) (by kernel_rfl)) ?_
 intro W base args ds gs before hval hW _ _
 exact contract H enc W base args ds gs before hval hW
theorem proved : Rows.ElimInvertsSaid :=
 OpenClaim.holds_of_wide 4 Tryz.f4 rfl rfl rfl rfl rfl rfl rfl ⟨rfl, rfl, rfl, rfl, rfl⟩ rfl rfl rfl rfl rfl (by kernel_rfl) Tryz.func4 (by kernel_rfl)
  (of_decide_eq_true (by kernel_rfl)) (by unfold Func.isWrapper; first | (rw [if_pos (by decide +kernel)]; kernel_rfl) | (rw [if_neg (by decide +kernel)]; exact ⟨rfl, rfl⟩))
  (fun os started H enc _ => lifted os started H enc)
#print axioms proved
end Go.Proofs.YtgighdoacajmfaaGreat.elimInverts
