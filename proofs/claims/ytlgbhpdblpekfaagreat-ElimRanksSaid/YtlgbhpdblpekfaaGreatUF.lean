/- ElimRanks: for all tables and rows: a table has as many leads as its greatest part with a determinant that is not 0 has rows; a system of as many rows as columns with a determinant has the one solution that determinants give. -/
import Derived.Test.YtlgbhpdblpekfaaGreatU7
set_option maxRecDepth 100000
namespace Go.Proofs.YtlgbhpdblpekfaaGreat.elimRanks
open Go.ChangeShapes Go.WideShapes Go.ChangeAt Go.RowKit
theorem contract (H : Type) (enc : TypeId × Value → H) (W : World) (base : Nat) (args : Array Value) (ds gs : List (DataW H)) (before : List MemPlace)
  (hval0 : ∀ (j : Nat) t v, Tryz.f5.params[j]? = some t → args[j]? = some v → Value.okWide Tryz.prog W .any base t v)
  (hW : DataW.Whole enc Tryz.prog Tryz.f5.params.toList Rows.elimRanksSpec.vars false W args.toList ds gs before) :
  Calls Tryz.prog 5 args W fun e W' => ∃ v, e = .returned v ∧ Rows.elimRanksSpec.post enc Tryz.prog Tryz.f5 false true false false W args v W' := by
 have hval : ∀ (j : Nat) t v, Tryz.f5.params[j]? = some t → args[j]? = some v → Value.okWide Tryz.prog W .any base t v := hval0
 have hW0 := hW
 obtain ⟨p, q, hA0, hV, rfl, hfz, hnd⟩ := hW
 have hA : DataW.TrodAll enc Tryz.prog W 0 (fun _ => true) true Tryz.f5.params.toList args.toList ds p := hA0
 rw [Tryz.params5] at hA hval
 obtain ⟨v0, vs0, d0, ds0, p0, q0, hargs, rfl, rfl, h0, r0⟩ := trodAll_cons hA
 obtain ⟨v1, vs1, d1, ds1, p1, q1, rfl, rfl, rfl, h1, r1⟩ := trodAll_cons r0
 obtain ⟨rfl, rfl, rfl⟩ := trodAll_nil r1
 obtain rfl : args = #[v0, v1] := by cases args; simp_all
 obtain ⟨rfl, rfl⟩ := trodVars_none hV
 obtain ⟨t0, R0, k0, h0⟩ := top_grid (hval 0 24 v0 rfl rfl) h0
 obtain ⟨n1, t1, R1, L1⟩ := top_fracs (hval 1 25 v1 rfl rfl) h1
 have w1 : ∀ i, i < n1 → Wd64 (t1 i).1 ∧ Wd64 (t1 i).2 := fun i hi => by obtain ⟨_, _, _, _, w⟩ := L1.at i hi; exact w
 refine (CallOK.law (vals := [v0, v1]) (sElimRanks (z0 := t0.1) (l0 := t0.2.1) (k0 := fun r => (t0.2.2 r).1) (p0 := fun r c => ((t0.2.2 r).2 c).1) (d0 := fun r c => ((t0.2.2 r).2 c).2) (p1 := fun i => (t1 i).1) (d1 := fun i => (t1 i).2) h0 w1) ⟨R0, R1, trivial⟩).mono fun e W' ⟨v, he, hb, hv⟩ => ?_
 subst he
 subst hv
 exact ⟨_, rfl, law_post (P := Tryz.prog) TryzlaidOut (by rw [Tryz.params5]; intro t ht; simp only [List.mem_cons, List.not_mem_nil, or_false] at ht; rcases ht with rfl | rfl <;> exact ⟨by kernel_rfl, of_decide_eq_true (by kernel_rfl)⟩) rfl (by kernel_rfl) Tryz.underlying4 hW0 rfl rfl rfl hb⟩
theorem lifted (os : Os) (started : os.Started) (H : Type) (enc : TypeId × Value → H) :
  ReturnsInHanded {} Tryz.checked os 5 .any (Rows.elimRanksSpec.pre6 enc Tryz.prog Tryz.f5 Rows.elimRanksRow.domain false) (Rows.elimRanksSpec.post enc Tryz.prog Tryz.f5 false true false false) := by
 refine returnsInHanded_of_change (C := Tryz.checked) Tryzown started (by kernel_rfl) Tryz.func5
  (ChangeSpec.witness6 (enc := enc) (C := Tryz.checked) false ⟨#[], #[.agg #[.int .u8 0, .slice none 0 0], .slice none 0 0], []⟩ 8 (by kernel_rfl) (by kernel_rfl) (by kernel_rfl) (by kernel_rfl)) ?_
 intro W base args ds gs before hval hW _ _
 exact contract H enc W base args ds gs before hval hW
theorem proved : Rows.ElimRanksSaid :=
 OpenClaim.holds_of_wide 5 Tryz.f5 rfl rfl rfl rfl rfl rfl rfl ⟨rfl, rfl, rfl, rfl, rfl⟩ rfl rfl rfl rfl rfl (by kernel_rfl) Tryz.func5 (by kernel_rfl)
  (of_decide_eq_true (by kernel_rfl)) (by unfold Func.isWrapper; first | (rw [if_pos (by decide +kernel)]; kernel_rfl) | (rw [if_neg (by decide +kernel)]; exact ⟨rfl, rfl⟩))
  (fun os started H enc _ => lifted os started H enc)
#print axioms proved
end Go.Proofs.YtlgbhpdblpekfaaGreat.elimRanks
