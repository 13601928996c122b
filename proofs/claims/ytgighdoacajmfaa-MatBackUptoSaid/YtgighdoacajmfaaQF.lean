/- MatBack: for all tables and rows that together are at most 1048576 long: a row or a column that is added behind all others and taken out again leaves the table as it was. -/
import Derived.Test.YtgighdoacajmfaaQ6
set_option maxRecDepth 100000
namespace Go.Proofs.Ytgighdoacajmfaa.matBack
open Go.ChangeShapes Go.WideShapes Go.ChangeAt Go.RowKit
theorem one_le {H : Type} (d : DataW H) : 1 ≤ Rows.uptoBulk d := by
 cases d with
 | lit l => cases l <;> simp [Rows.uptoBulk]
 | _ => simp [Rows.uptoBulk]
theorem length_le {H : Type} (l : List (DataW H)) : l.length ≤ Rows.uptoBulkAll l := by
 induction l with
 | nil => simp [Rows.uptoBulkAll]
 | cons x r ih => have := one_le x; simp only [Rows.uptoBulkAll, List.length_cons]; omega
theorem part_le {H : Type} {d : DataW H} {l : List (DataW H)} (h : d ∈ l) : Rows.uptoBulk d ≤ Rows.uptoBulkAll l := by
 induction l with
 | nil => cases h
 | cons x r ih =>
  simp only [Rows.uptoBulkAll]
  cases List.mem_cons.1 h with
  | inl e => subst e; omega
  | inr e => have := ih e; omega
theorem longc_le {H : Type} {n : Nat} {d : DataW H} {C : Nat → DataW H → Prop} (h : LongC n d C) : n ≤ Rows.uptoBulk d ∧ ∀ i, i < n → ∃ d', C i d' ∧ Rows.uptoBulk d' ≤ Rows.uptoBulk d := by
 rcases h with ⟨rfl, rfl⟩ | ⟨D, sp, rfl, h⟩
 ·exact ⟨Nat.zero_le _, fun i hi => by omega⟩
 ·refine ⟨?_, fun i hi => ⟨D i, h i hi, ?_⟩⟩
  ·have := length_le ((List.range n).map D)
   simp only [List.length_map, List.length_range] at this
   simp only [Rows.uptoBulk]
   omega
  ·have := part_le (List.mem_map_of_mem (f := D) (List.mem_range.2 hi))
   simp only [Rows.uptoBulk]
   omega
theorem contract (H : Type) (enc : TypeId × Value → H) (W : World) (base : Nat) (args : Array Value) (ds gs : List (DataW H)) (before : List MemPlace)
  (hval0 : ∀ (j : Nat) t v, Try.f5.params[j]? = some t → args[j]? = some v → Value.okWide Try.prog W .any base t v)
  (hW : DataW.Whole enc Try.prog Try.f5.params.toList Rows.matBackSpec.vars false W args.toList ds gs before) (hk : Rows.uptoSmall H (ds ++ gs) = true) :
  Calls Try.prog 5 args W fun e W' => ∃ v, e = .returned v ∧ Rows.matBackSpec.post enc Try.prog Try.f5 false true false false W args v W' := by
 have hval : ∀ (j : Nat) t v, Try.f5.params[j]? = some t → args[j]? = some v → Value.okWide Try.prog W .any base t v := hval0
 have hW0 := hW
 obtain ⟨p, q, hA0, hV, rfl, hfz, hnd⟩ := hW
 have hA : DataW.TrodAll enc Try.prog W 0 (fun _ => true) true Try.f5.params.toList args.toList ds p := hA0
 rw [Try.params5] at hA hval
 obtain ⟨v0, vs0, d0, ds0, p0, q0, hargs, rfl, rfl, h0, r0⟩ := trodAll_cons hA
 obtain ⟨v1, vs1, d1, ds1, p1, q1, rfl, rfl, rfl, h1, r1⟩ := trodAll_cons r0
 obtain ⟨rfl, rfl, rfl⟩ := trodAll_nil r1
 obtain rfl : args = #[v0, v1] := by cases args; simp_all
 obtain ⟨rfl, rfl⟩ := trodVars_none hV
 obtain ⟨t0, R0, k0, h0⟩ := top_grid (hval 0 24 v0 rfl rfl) h0
 obtain ⟨n1, t1, R1, L1⟩ := top_fracs (hval 1 46 v1 rfl rfl) h1
 have hB : Rows.uptoBulkAll _ ≤ 1048576 := of_decide_eq_true hk
 simp only [List.append_nil, Rows.uptoBulkAll] at hB
 have B1 := longc_le L1
 have w1 : ∀ i, i < n1 → Wd64 (t1 i).1 ∧ Wd64 (t1 i).2 := fun i hi => by obtain ⟨_, ⟨_, _, _, w⟩, _⟩ := B1.2 i hi; exact w
 refine (CallOK.law (vals := [v0, v1]) (sMatBack (z0 := t0.1) (l0 := t0.2.1) (k0 := fun r => (t0.2.2 r).1) (p0 := fun r c => ((t0.2.2 r).2 c).1) (d0 := fun r c => ((t0.2.2 r).2 c).2) (p1 := fun i => (t1 i).1) (d1 := fun i => (t1 i).2) h0 zo w1) ⟨R0, R1, trivial⟩).mono fun e W' ⟨v, he, hb, hv⟩ => ?_
 subst he
 subst hv
 exact ⟨_, rfl, law_post (P := Try.prog) TrylaidOut (by rw [Try.params5]; intro t ht; simp only [List.mem_cons, List.not_mem_nil, or_false] at ht; rcases ht with rfl | rfl <;> exact ⟨by kernel_rfl, of_decide_eq_true (by kernel_rfl)⟩) rfl (by kernel_rfl) Try.underlying4 hW0 rfl rfl rfl hb⟩
theorem lifted (os : Os) (started : os.Started) (H : Type) (enc : TypeId × Value → H) (F : Stop.Interp) :
  ReturnsInHanded {} Try.checked os 5 .any ((Rows.OpenSpec.upto Rows.matBackSpec).pre6 enc Try.prog Try.f5 Rows.matBackUptoRow.domain false) (((Rows.OpenSpec.upto Rows.matBackSpec).at F).post enc Try.prog Try.f5 false true false false) := by
 refine returnsInHanded_of_cond (C := Try.checked) (s := Rows.OpenSpec.upto Rows.matBackSpec) (k := Rows.uptoSmall) rfl Tryown started (by kernel_rfl) Try.func5
  (OpenSpec.witness (enc := enc) (C := Try.checked) (s := Rows.OpenSpec.upto Rows.matBackSpec) (k := Rows.uptoSmall) rfl false ⟨#[], #[.agg #[.int .u8 0, .slice none 0 0], .slice none 0 0], []⟩ 8 (by kernel_rfl) (by kernel_rfl) (by kernel_rfl)
   (x := ([.agg [.lit (.int .u8 0), .nil], .nil], [], [])) (by kernel_rfl) rfl (by kernel_rfl)) ?_
 intro W base args ds gs before hval hW _ hk _
 exact contract H enc W base args ds gs before hval hW hk
theorem proved : Rows.MatBackUptoSaid :=
 OpenClaim.holds_of_cond 5 Try.f5 rfl rfl rfl rfl rfl rfl rfl ⟨rfl, rfl, rfl, rfl, rfl⟩ rfl rfl rfl rfl rfl (by kernel_rfl) Try.func5 (by kernel_rfl)
  (of_decide_eq_true (by kernel_rfl)) (by unfold Func.isWrapper; first | (rw [if_pos (by decide +kernel)]; kernel_rfl) | (rw [if_neg (by decide +kernel)]; exact ⟨rfl, rfl⟩))
  (fun os started H enc _ F => lifted os started H enc F)
#print axioms proved
end Go.Proofs.Ytgighdoacajmfaa.matBack
