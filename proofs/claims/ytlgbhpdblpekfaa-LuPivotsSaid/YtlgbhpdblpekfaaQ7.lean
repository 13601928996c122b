/- The parts SO2. -/
import Derived.Test.YtlgbhpdblpekfaaQ6
namespace Go.Proofs.Ytlgbhpdblpekfaa
open Go.ChangeShapes Go.WideShapes Go.ChangeAt Go.RowKit Go.Deep
section
variable {H : Type} {enc : TypeId × Value → H} {W : World} {base : Nat} {v : Value} {d : DataW H} {ps : List MemPlace}
theorem LongC.at {n : Nat} {d : DataW H} {C : Nat → DataW H → Prop} (h : LongC n d C) : ∀ i, i < n → ∃ d', C i d' := fun i hi => by
  rcases h with ⟨rfl, _⟩ | ⟨D, _, _, k⟩
  · omega
  · exact ⟨D i, k i hi⟩
set_option maxRecDepth 100000 in
theorem opens_u8 {T : TypeId} (hT : Try.prog.underlying T = some (.int .u8)) : Opens enc W T 1 (fun z : Nat => .ex (.int .u8 ((z : Nat) : Int))) (fun z _ => z < 256) := by
  intro fuel cs x hx
  obtain ⟨p, hp, _, wp⟩ := DataW.trod_int hT hx
  have : 0 ≤ p ∧ p ≤ 255 := by simpa [Lit.wf, IntKind.min, IntKind.max, IntKind.signed, IntKind.bits] using wp
  exact ⟨p.toNat, .int .u8 p, hp, rfl, by simp [One, Value.cells, Value.oneCell'], by show Value.int .u8 p = .int .u8 ((p.toNat : Nat) : Int); rw [Int.toNat_of_nonneg this.1], by omega⟩
end
set_option maxRecDepth 100000 in
theorem opens_grid {H : Type} {enc : TypeId × Value → H} {W : World} : Opens enc W 24 2 (fun t : Nat × (Nat × (Nat → Nat × (Nat → Int × Int))) => .agg (.cn (.ex (.int .u8 ((t.1 : Nat) : Int))) (.cn (.sl 1 (fun i => rowS (t.2.2 i)) t.2.1) .nl))) (fun t d => ∃ d0 d1, d = .agg [d0, d1] ∧ t.1 < 256 ∧ LongC t.2.1 d1 fun i d' => RowC (t.2.2 i) d') :=
  opens_pair (s0 := 1) (s1 := 1) Try.underlying24 rfl rfl (by kernel_rfl) (by kernel_rfl) (by kernel_rfl) (opens_u8 Try.underlying5) opens_rows
section
variable {H : Type} {enc : TypeId × Value → H} {W : World} {base : Nat} {v : Value} {d : DataW H} {ps : List MemPlace}
theorem LongC.wf {n : Nat} {d : DataW H} {f : Nat → Nat} (h : LongC n d fun i _ => f i < 18446744073709551616) : Wf f n := fun i hi => by
  obtain ⟨_, k⟩ := h.at i hi
  exact k
set_option maxRecDepth 100000 in
theorem top_grid (hv : Value.okWide Try.prog W .any base 24 v) (h : DataW.Trod enc Try.prog W 0 (fun _ => true) true 24 v d ps) : ∃ (t : Nat × (Nat × (Nat → Nat × (Nat → Int × Int)))), R0 (.agg (.cn (.ex (.int .u8 ((t.1 : Nat) : Int))) (.cn (.sl 1 (fun i => rowS (t.2.2 i)) t.2.1) .nl))) W v ∧ t.1 < 256 ∧ ∀ r, r < t.2.1 → ∀ c, c < (t.2.2 r).1 → Wd64 ((t.2.2 r).2 c).1 ∧ Wd64 ((t.2.2 r).2 c).2 := by
  obtain ⟨t, hR, _, _, _, h8, hL⟩ := opens_aggV (E := fun t : Nat × (Nat × (Nat → Nat × (Nat → Int × Int))) => .cn (.ex (.int .u8 ((t.1 : Nat) : Int))) (.cn (.sl 1 (fun i => rowS (t.2.2 i)) t.2.1) .nl)) Try.underlying24 hv h opens_grid
  refine ⟨t, hR, h8, fun r hr c hc => ?_⟩
  obtain ⟨_, k⟩ := hL.at r hr
  obtain ⟨_, _, _, _, k2⟩ := k.at c hc
  exact k2
end
end Go.Proofs.Ytlgbhpdblpekfaa
