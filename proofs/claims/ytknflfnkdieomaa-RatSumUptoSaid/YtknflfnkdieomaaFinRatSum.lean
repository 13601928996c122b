/- RatSum: for fractions whose words are together at most 1048576: the sum of the first of them (up to ten) is the sum of all but the last, and that. -/
import Derived.Test.YtknflfnkdieomaaRows
import Derived.Test.YtknflfnkdieomaaRatSum
import Derived.Test.YtknflfnkdieomaaRow
import Derived.Test.YtknflfnkdieomaaOpenS
import Derived.JoinedCond
namespace Go.Proofs.Ytknflfnkdieomaa.ratSum
open Go.ChangeShapes Go.WideShapes Go.ChangeAt Go.RowKit
theorem one_le {H : Type} (d : DataW H) : 1 ≤ Rows.uptoBulk d := by
  cases d with
  | lit l => cases l <;> simp [Rows.uptoBulk]
  | _ => simp [Rows.uptoBulk]
theorem length_le {H : Type} (l : List (DataW H)) : l.length ≤ Rows.uptoBulkAll l := by
  induction l with
  | nil => simp [Rows.uptoBulkAll]
  | cons x r ih => have := one_le x; simp only [Rows.uptoBulkAll, List.length_cons]; omega
theorem long_le {H : Type} {n : Nat} {d : DataW H} (h : Long n d) : n ≤ Rows.uptoBulk d := by
  rcases h with rfl | ⟨el, sp, rfl, rfl⟩
  · omega
  · have := length_le el
    simp only [Rows.uptoBulk]
    omega
theorem part_le {H : Type} {d : DataW H} {l : List (DataW H)} (h : d ∈ l) : Rows.uptoBulk d ≤ Rows.uptoBulkAll l := by
  induction l with
  | nil => cases h
  | cons x r ih =>
    simp only [Rows.uptoBulkAll]
    cases List.mem_cons.1 h with
    | inl e => subst e; omega
    | inr e => have := ih e; omega
theorem parts_small {H : Type} {d : DataW H} {n : Nat} {t : Nat → Bool × (Nat → Nat) × Nat × (Nat → Nat) × Nat}
    (h : n = 0 ∨ ∃ (D : Nat → DataW H) (sp : List (DataW H)), d = .slice ((List.range n).map D) sp ∧ ∀ i, i < n → ∃ d0 d1 d2, D i = .agg [.agg [d0, d1], d2] ∧ Long (t i).2.2.1 d1 ∧ Long (t i).2.2.2.2 d2)
    (hB : Rows.uptoBulk d ≤ 1048576) : ∀ i, i < n → (t i).2.2.1 ≤ 1048576 ∧ (t i).2.2.2.2 ≤ 1048576 := by
  intro i hi
  rcases h with rfl | ⟨D, sp, rfl, h⟩
  · omega
  · obtain ⟨d0, d1, d2, e, l1, l2⟩ := h i hi
    have h1 := part_le (List.mem_map_of_mem (f := D) (List.mem_range.2 hi))
    have h2 := long_le l1
    have h3 := long_le l2
    rw [e] at h1
    simp only [Rows.uptoBulk, Rows.uptoBulkAll] at hB h1
    omega
set_option maxRecDepth 100000 in
theorem contract (H : Type) (enc : TypeId × Value → H) (W : World) (base : Nat) (args : Array Value) (ds gs : List (DataW H)) (before : List MemPlace)
    (hval0 : ∀ (j : Nat) t v, Try.f9.params[j]? = some t → args[j]? = some v → Value.okWide Try.prog W .any base t v)
    (hW : DataW.Whole enc Try.prog Try.f9.params.toList Rows.ratSumSpec.vars false W args.toList ds gs before) (hk : Rows.uptoSmall H (ds ++ gs) = true) :
    Calls Try.prog 9 args W fun e W' => ∃ v, e = .returned v ∧ Rows.ratSumSpec.post enc Try.prog Try.f9 false true false false W args v W' := by
  have hval : ∀ (j : Nat) t v, Try.f9.params[j]? = some t → args[j]? = some v → Value.okWide Try.prog W .any base t v := hval0
  have hW0 := hW
  obtain ⟨p, q, hA0, hV, rfl, hfz, hnd⟩ := hW
  have hA : DataW.TrodAll enc Try.prog W 0 (fun _ => true) true Try.f9.params.toList args.toList ds p := hA0
  rw [Try.params9] at hA hval
  obtain ⟨v0, vs0, d0, ds0, p0, q0, hargs, rfl, rfl, h0, r0⟩ := trodAll_cons hA
  obtain ⟨rfl, rfl, rfl⟩ := trodAll_nil r0
  obtain rfl : args = #[v0] := by cases args; simp_all
  obtain ⟨rfl, rfl⟩ := trodVars_none hV
  obtain ⟨n0, t0, R0, wf0, lf0⟩ := open_partsV (hval 0 59 v0 rfl rfl) h0
  have hB : Rows.uptoBulkAll _ ≤ 1048576 := of_decide_eq_true hk
  simp only [List.append_nil, Rows.uptoBulkAll] at hB
  have hl0 := parts_small lf0 (by omega)
  refine (ratSum R0 (fun i hi => (wf0 i hi).1) (fun i hi => (hl0 i hi).1) (fun i hi => (wf0 i hi).2) (fun i hi => (hl0 i hi).2)).mono fun e W' ⟨v, he, hb, hv⟩ => ?_
  have hv : v = .bool true := hv
  subst he
  subst hv
  exact ⟨_, rfl, law_post (P := Try.prog) TrylaidOut (by rw [Try.params9]; intro t ht; simp only [List.mem_cons, List.not_mem_nil, or_false] at ht; rcases ht with rfl <;> exact ⟨by kernel_rfl, of_decide_eq_true (by kernel_rfl)⟩) rfl (by kernel_rfl) Try.underlying4 hW0 rfl rfl rfl hb⟩
set_option maxRecDepth 100000 in
theorem lifted (os : Os) (started : os.Started) (H : Type) (enc : TypeId × Value → H) (F : Stop.Interp) :
    ReturnsInHanded {} Try.checked os 9 .any ((Rows.OpenSpec.upto Rows.ratSumSpec).pre6 enc Try.prog Try.f9 Rows.ratSumUptoRow.domain false) (((Rows.OpenSpec.upto Rows.ratSumSpec).at F).post enc Try.prog Try.f9 false true false false) := by
  refine returnsInHanded_of_cond (C := Try.checked) (s := Rows.OpenSpec.upto Rows.ratSumSpec) (k := Rows.uptoSmall) rfl Tryown started (by kernel_rfl) Try.func9
    (OpenSpec.witness (enc := enc) (C := Try.checked) (s := Rows.OpenSpec.upto Rows.ratSumSpec) (k := Rows.uptoSmall) rfl false ⟨#[], #[.slice none 0 0], []⟩ 8 (by kernel_rfl) (by kernel_rfl) (by kernel_rfl)
      (x := ([.nil], [], [])) (by kernel_rfl) rfl (by kernel_rfl)) ?_
  intro W base args ds gs before hval hW _ hk _
  exact contract H enc W base args ds gs before hval hW hk
/-- THE STATEMENT -/
theorem proved : Rows.RatSumUptoSaid :=
  OpenClaim.holds_of_cond 9 Try.f9 rfl rfl rfl rfl rfl rfl rfl ⟨rfl, rfl, rfl, rfl, rfl⟩ rfl rfl rfl rfl rfl (by kernel_rfl) Try.func9 (by kernel_rfl)
    (of_decide_eq_true (by kernel_rfl)) (by unfold Func.isWrapper; first | (rw [if_pos (by decide +kernel)]; kernel_rfl) | (rw [if_neg (by decide +kernel)]; exact ⟨rfl, rfl⟩))
    (fun os started H enc _ F => lifted os started H enc F)
#print axioms proved
end Go.Proofs.Ytknflfnkdieomaa.ratSum
