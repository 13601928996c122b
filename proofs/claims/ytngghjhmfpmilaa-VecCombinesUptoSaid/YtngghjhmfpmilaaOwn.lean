/- Rows of one's own, of any elements: E g i is what element i is, where the row lies in block g. -/
import Derived.Test.YtngghjhmfpmilaaVec2
namespace Go.Proofs.Ytngghjhmfpmilaa
open Go.RowKit
theorem blk_setCells {t : TypeId} {g : Nat} : ∀ (l : List Value) (o : Nat) {w : World} {cs : Array Value}, Blk w g t cs → ∃ cs' : Array Value, Blk (w.setCells g o l) g t cs' ∧ cs'.size = cs.size
  | [], _, _, cs, h => ⟨cs, h, rfl⟩
  | v :: l, o, _, _, h => by
    obtain ⟨cs', h1, h2⟩ := blk_setCells l (o + 1) (h.set_ o v)
    exact ⟨cs', h1, by rw [h2]; simp⟩
theorem setCells_os (g : Nat) : ∀ (l : List Value) (o : Nat) (w : World), (w.setCells g o l).os = w.os ∧ (w.setCells g o l).tape = w.tape ∧ (w.setCells g o l).output = w.output ∧ (w.setCells g o l).heap.size = w.heap.size
  | [], _, _ => ⟨rfl, rfl, rfl, rfl⟩
  | v :: l, o, w => by
    obtain ⟨h1, h2, h3, h4⟩ := setCells_os g l (o + 1) (w.setCell ⟨g, o, none⟩ v)
    exact ⟨h1, h2, h3, h4.trans (by simp [World.setCell])⟩
/-- an element whose cells are whole values -/
def Whole1 (R : MR) : Prop := ∀ {w v}, R.R w v → ∀ u ∈ v.cells, u.oneCell' = true
def MR.ownS (T : TypeId) (s B : Nat) (F : Nat → Prop) (E : Nat → Nat → MR) (n : Nat) : MR := ⟨fun w v => ∃ A c, v = .slice A n c ∧ n ≤ c ∧ c ≤ maxLen ∧ ((A = none ∧ n = 0 ∧ c = 0) ∨ ∃ g cs, A = some ⟨g, 0, none⟩ ∧ B ≤ g ∧ ¬ F g ∧ Blk w g T cs ∧ cs.size = s * c ∧ ∀ i, i < n → Elt w g (s * i) s (E g i)),
  fun h ⟨A, c, e, h1, h2, k⟩ => ⟨A, c, e, h1, h2, k.imp id fun ⟨g, cs, ea, hB, hF, hb, hs, he⟩ => ⟨g, cs, ea, hB, hF, hb.below h, hs, fun i hi => (he i hi).grow h hb.lt⟩⟩⟩
/-- one element, typed -/
def MR.litS (s : Nat) (R : MR) : MR := ⟨fun w v => ∃ g, v = .slice (some ⟨g, 0, none⟩) 1 1 ∧ g < w.heap.size ∧ Elt w g 0 s R, fun h ⟨g, e, hl, k⟩ => ⟨g, e, Nat.lt_of_lt_of_le hl h.size, k.grow h hl⟩⟩
section
variable {o : Oper} {ρ : Operand → Value} {w w' : World} {x y : Operand} {B s bts : Nat} {F F' : Nat → Prop} {n : Nat} {E : Nat → Nat → MR} {R : MR} {T e : TypeId} {z : Value}
theorem ownS_nil {v : Nat} (_ : v = 0) : (MR.ownS e s B F E 0).R w (.slice none 0 0) := ⟨none, 0, rfl, Nat.le_refl _, Nat.zero_le _, .inl ⟨rfl, rfl, rfl⟩⟩
theorem yld_appendS {Φ : Value → World → Prop} (hT : Try.prog.underlying T = some (.slice e)) (hI : (Try.prog.info? e).map (fun i => (i.zero, i.size, i.bytes)) = some (some z, s, bts)) (hz : z.cells.size = s) (hs : 0 < s) (hbt : bts ≤ 128) (he : e ≠ 105)
    (h : o.op = .call { callee := .builtin .append, args := #[x, y], argTypes := #[T, T] }) (hx : (MR.ownS e s B F E n).R w (ρ x)) (hy : (MR.litS s R).R w (ρ y)) (hone : Whole1 R) (hn : n ≤ 68719476736) (hB : B ≤ w.heap.size)
    (hF' : ∀ k, F' k → F k ∧ k < w.heap.size)
    (hold : ∀ g i w' v, i < n → g < w.heap.size → App B F' w w' → (E g i).R w v → (E g i).R w' v) (hnew : ∀ g w' v, g < w.heap.size → ¬ F g → App B F' w w' → R.R w v → (E g n).R w' v)
    (hmv : ∀ g i w' v, i < n → Grow w w' → (E g i).R w v → (E w.heap.size i).R w' v) (hnw : ∀ w' v, Grow w w' → R.R w v → (E w.heap.size n).R w' v)
    (K : ∀ v w', App B F' w w' → (MR.ownS e s B F' E (n + 1)).R w' v → Φ v w') : Yld Try.prog o ρ w Φ := by
  obtain ⟨A, c, ex, h1, h2, h3⟩ := hx
  obtain ⟨gy, ey, hgy, v0, hs0, hR0, hc0⟩ := hy
  obtain ⟨i0, hi0, hz0, hz1, hz2⟩ := infoParts hI
  have hsrc : Src Try.prog i0.size T (.slice (some ⟨gy, 0, none⟩) 1 1) 1 v0.cells.toList w := Src.ofSlice w hT ⟨gy, 0, none⟩ 1 1 v0.cells.toList (by rw [Array.length_toList, hz1, hs0, Nat.one_mul]) (fun j u hj => by
    rw [Array.getElem?_toList] at hj
    rw [add_plain]
    exact hc0 j u hj) (fun u hu => hone hR0 u (by simpa using hu))
  have hnl : v0.cells.toList.length = s := by rw [Array.length_toList, hs0]
  have hin : ∀ {a b : Nat}, a < b → s * a + s ≤ s * b := fun {a b} hab => by
    have := Nat.mul_le_mul_left s (show a + 1 ≤ b from hab)
    rwa [Nat.mul_succ] at this
  by_cases hroom : n + 1 ≤ c
  · rcases h3 with ⟨_, _, rfl⟩ | ⟨g, cs, rfl, hBg, hFg, hb, hcs, hel⟩
    · omega
    have hnc := hin (show n < c by omega)
    have hrun := run_append_room_src (P := Try.prog) w T T o.type e i0 hT hi0 g 0 n c _ 1 v0.cells.toList hsrc hroom (fun j hj => by
      rw [hnl] at hj
      rw [hb.cell, hz1, Array.getElem?_eq_getElem (show 0 + n * s + j < cs.size by rw [Nat.mul_comm n s]; omega)]
      rfl) (fun j hj => hb.frozen _)
    have hexec : (execOp ρ o).run Try.prog w = .ok (.value (.slice (some ⟨g, 0, none⟩) (n + 1) c)) (w.setCells g (0 + n * i0.size) v0.cells.toList) := by
      unfold execOp; rw [h]; simp [resolve, invoke, builtin, ex, ey, hrun]
    unfold Yld
    rw [hexec]
    obtain ⟨cs', hb', hcs'⟩ := blk_setCells v0.cells.toList (0 + n * i0.size) hb
    obtain ⟨w1, w2, w3, w4⟩ := setCells_os g v0.cells.toList (0 + n * i0.size) w
    have happ : App B F' w (w.setCells g (0 + n * i0.size) v0.cells.toList) := by
      have hoth : ∀ k, k < w.heap.size → k ≠ g → (w.setCells g (0 + n * i0.size) v0.cells.toList).heap[k]? = w.heap[k]? := fun k hk hne => World.heap_setCells_other w g _ _ hk hne
      refine ⟨w1, w2, w3, by rw [w4]; exact Nat.le_refl _, fun k hk hl => hoth k hl (by omega), fun k hk hl => hoth k hl (fun e => hFg (e ▸ (hF' k hk).1)), fun k hk => hoth k hk.lt (fun ek => ?_)⟩
      subst ek
      obtain ⟨cs2, m2, hk⟩ := hk
      unfold Blk at hb
      rw [hb] at hk
      simp only [Option.some.injEq, Obj.cells.injEq] at hk
      exact absurd hk.2.1 he
    refine K _ _ happ ⟨some ⟨g, 0, none⟩, c, rfl, hroom, h2, .inr ⟨g, _, rfl, hBg, fun hg => hFg (hF' g hg).1, hb', by rw [hcs', hcs], fun i hi => ?_⟩⟩
    by_cases hii : i = n
    · subst hii
      refine ⟨v0, hs0, hnew g _ v0 hb.lt hFg happ hR0, fun j v hj => ?_⟩
      have hj3 : j < v0.cells.toList.length := by rw [Array.length_toList]; exact (Array.getElem?_eq_some_iff.1 hj).1
      have := World.cell?_setCells_in g v0.cells.toList (0 + i * i0.size) w (fun j hj => by
        rw [hnl] at hj
        rw [hb.cell, hz1, Array.getElem?_eq_getElem (show 0 + i * s + j < cs.size by rw [Nat.mul_comm i s]; omega)]
        rfl) j hj3
      rw [show s * i + j = 0 + i * i0.size + j by rw [hz1, Nat.mul_comm i s]; omega, this, ← hj]
      simp
    · have hlt : i < n := by omega
      obtain ⟨v1, hs1, hR, hc⟩ := hel i hlt
      refine ⟨v1, hs1, hold g i _ v1 hlt hb.lt happ hR, fun j v hj => ?_⟩
      have hj3 : j < s := hs1 ▸ (Array.getElem?_eq_some_iff.1 hj).1
      have := hin hlt
      rw [World.cell?_setCells_out g _ _ _ _ (fun _ _ => .inl (by show s * i + j < 0 + n * i0.size; rw [hz1, Nat.mul_comm n s]; omega))]
      exact hc j v hj
  · have hnc : n = c := by omega
    have core : ∀ (olds : List Value), olds.length = s * n → (Builtin.firstCells i0.size n (.slice A n c)).run Try.prog w.drew = .ok olds.toArray w.drew → (∀ i, i < n → ∃ g, ∃ v1 : Value, v1.cells.size = s ∧ (E g i).R w v1 ∧ ∀ j v, v1.cells[j]? = some v → olds[s * i + j]? = some v) → Yld Try.prog o ρ w Φ := by
      intro olds hol hold hel
      have hb2 : (n + 1) * bts ≤ (n + 1) * 128 := Nat.mul_le_mul_left _ hbt
      have hrun := run_append_grow_src (P := Try.prog) w T T o.type e i0 _ hT hi0 hz0 A n c olds hold _ 1 v0.cells.toList hsrc (by omega) (by omega) (growslice_fits (by omega) (by rw [hz2]; omega))
      have hcap := grownCap_ge w (n + 1) c e
      have hcap2 := grownCap_le_maxLen w (n + 1) c e (by unfold maxLen; omega)
      generalize grownCap w (n + 1) c e = cc at hrun hcap hcap2
      have hexec : (execOp ρ o).run Try.prog w = .ok (.value (.slice (some ⟨w.heap.size, 0, none⟩) (n + 1) cc)) (w.drew.alloc (.cells ((olds ++ v0.cells.toList).toArray ++ Builtin.zeroCells z.cells (cc - (n + 1))) e)) := by
        unfold execOp; rw [h]; simp [resolve, invoke, builtin, ex, ey, hrun]
      unfold Yld
      rw [hexec]
      have hg : Grow w (w.drew.alloc (.cells ((olds ++ v0.cells.toList).toArray ++ Builtin.zeroCells z.cells (cc - (n + 1))) e)) := ((Grow.refl w).drew).alloc _
      have hb' : Blk (w.drew.alloc (.cells ((olds ++ v0.cells.toList).toArray ++ Builtin.zeroCells z.cells (cc - (n + 1))) e)) w.heap.size e _ := Blk.new w.drew e _
      refine K _ _ hg.app ⟨some ⟨w.heap.size, 0, none⟩, cc, rfl, hcap, hcap2, .inr ⟨w.heap.size, _, rfl, hB, fun hg => absurd (hF' _ hg).2 (Nat.lt_irrefl _), hb', ?_, fun i hi => ?_⟩⟩
      · simp only [Array.size_append, List.size_toArray, List.length_append, hol, hnl, size_zeroCells, hz]
        have e2 : (cc - (n + 1)) * s = s * cc - s * (n + 1) := by rw [Nat.mul_comm, Nat.mul_sub]
        have e3 : s * (n + 1) ≤ s * cc := Nat.mul_le_mul_left s hcap
        rw [Nat.mul_succ] at e2 e3
        omega
      · have hi1 := hin hi
        by_cases hii : i = n
        · subst hii
          refine ⟨v0, hs0, hnw _ v0 hg hR0, fun j v hj => ?_⟩
          have hj3 : j < s := hs0 ▸ (Array.getElem?_eq_some_iff.1 hj).1
          rw [hb'.cell, Array.getElem?_append_left (by simp only [List.size_toArray, List.length_append, hol, hnl]; omega)]
          simp only [List.getElem?_toArray]
          rw [List.getElem?_append_right (by omega), hol, Nat.add_sub_cancel_left, Array.getElem?_toList]
          exact hj
        · have hlt : i < n := by omega
          obtain ⟨g, v1, hs1, hR, hc⟩ := hel i hlt
          have := hin hlt
          refine ⟨v1, hs1, hmv g i _ v1 hlt hg hR, fun j v hj => ?_⟩
          have hj3 : j < s := hs1 ▸ (Array.getElem?_eq_some_iff.1 hj).1
          rw [hb'.cell, Array.getElem?_append_left (by simp only [List.size_toArray, List.length_append, hol, hnl]; omega)]
          simp only [List.getElem?_toArray]
          rw [List.getElem?_append_left (by omega)]
          exact hc j v hj
    rcases h3 with ⟨rfl, rfl, rfl⟩ | ⟨g, cs, rfl, hBg, hFg, hb, hcs, hel⟩
    · exact core [] (by simp) (run_firstCells_none w.drew _ _ _ _) (fun i hi => by omega)
    · refine core cs.toList (by rw [Array.length_toList, hcs, hnc]) (run_firstCells_some w.drew _ _ _ _ _ _ (by rw [Array.length_toList, hcs, hz1, hnc, Nat.mul_comm]) (fun j v hj => by
        rw [Array.getElem?_toList] at hj
        rw [add_plain, Nat.zero_add]
        exact (hb.cell _).trans hj)) (fun i hi => ?_)
      obtain ⟨v1, hs1, hR, hc⟩ := hel i hi
      refine ⟨g, v1, hs1, hR, fun j v hj => ?_⟩
      rw [Array.getElem?_toList, ← hb.cell]
      exact hc j v hj
/-- one element of one cell, typed -/
theorem yld_lit1S (hT : Try.prog.underlying T = some (.slice e)) (hI : (Try.prog.info? e).map (fun i => (i.zero, i.size, i.bytes)) = some (some z, 1, bts)) (hz : z.cells = #[z]) (h : o.op = .buildSlice T 1 #[(0, x)]) (hx : R.R w (ρ x)) (hc : (ρ x).cells = #[ρ x]) :
    Yld Try.prog o ρ w (fun v w' => Grow w w' ∧ (MR.litS 1 R).R w' v) := by
  obtain ⟨i0, hi0, hz0, hz1, hz2⟩ := infoParts hI
  have hrun : (Instr.buildSlice T 1 #[(0, ρ x)]).run Try.prog w = .ok (.slice (some ⟨w.heap.size, 0, none⟩) 1 1) (w.alloc (.cells #[ρ x] e)) :=
    run_buildSlice w T e 1 _ _ i0 _ hT hi0 hz0 (by rw [hz1]; decide) (by rw [hz1]; decide) (by rw [hz1, show Array.range (1 * 1) = #[0] from by decide]; simp [Instr.fill, hz, hc])
  unfold Yld execOp
  rw [h]
  have ee : (#[(0, x)] : Array (Nat × Operand)).map (fun (i, x) => (i, ρ x)) = #[(0, ρ x)] := by simp
  simp only [ee, Sem.run_bind, hrun, Result.andThen_ok]
  have hg : Grow w (w.alloc (.cells #[ρ x] e)) := (Grow.refl w).alloc _
  refine ⟨hg, w.heap.size, rfl, by simp, ρ x, by rw [hc]; rfl, MR.mono _ hg hx, fun j v hj => ?_⟩
  rw [(Blk.new w e #[ρ x]).cell, Nat.zero_add, ← hc]
  exact hj
end
/-- a row of whole numbers of one's own -/
def MR.owni (B : Nat) (F : Nat → Prop) (a : Nat → Int) (n : Nat) : MR := .ownS 3 1 B F (fun _ i => .eq (.int .i64 (a i))) n
def updZ (a : Nat → Int) (n : Nat) (z : Int) : Nat → Int := fun i => if i = n then z else a i
section
variable {o : Oper} {ρ : Operand → Value} {w : World} {x y : Operand} {B : Nat} {F F' : Nat → Prop} {n : Nat} {a : Nat → Int} {z : Int} {T : TypeId} {v : Value}
theorem owni_ints (h : (MR.owni B F a n).R w v) : (MR.ints F a n).R w v := by
  obtain ⟨A, c, rfl, h1, h2, h3⟩ := h
  rcases h3 with ⟨rfl, rfl, rfl⟩ | ⟨g, cs, rfl, hB, hF, hb, hs, he⟩
  · exact ⟨none, 0, rfl, fun _ => ⟨rfl, rfl⟩, h1, h2, fun i hi => by omega⟩
  · exact ⟨some ⟨g, 0, none⟩, c, rfl, (fun e => by cases e), h1, h2, fun i hi => ⟨g, 0, rfl, hF, hb.lt, by rw [Nat.zero_add]; exact he i hi⟩⟩
theorem yld_litI (hT : Try.prog.underlying T = some (.slice 3)) (h : o.op = .buildSlice T 1 #[(0, x)]) (hx : ρ x = .int .i64 z) : Yld Try.prog o ρ w (fun v w' => Grow w w' ∧ (MR.litS 1 (.eq (.int .i64 z))).R w' v) :=
  yld_lit1S hT intInfo rfl h hx (by rw [hx]; rfl)
theorem yld_appendI {Φ : Value → World → Prop} (hT : Try.prog.underlying T = some (.slice 3)) (h : o.op = .call { callee := .builtin .append, args := #[x, y], argTypes := #[T, T] }) (hx : (MR.owni B F a n).R w (ρ x)) (hy : (MR.litS 1 (.eq (.int .i64 z))).R w (ρ y)) (hn : n ≤ 68719476736) (hB : B ≤ w.heap.size)
    (hF' : ∀ k, F' k → F k ∧ k < w.heap.size) (K : ∀ v w', App B F' w w' → (MR.owni B F' (updZ a n z) (n + 1)).R w' v → Φ v w') : Yld Try.prog o ρ w Φ := by
  have hx' : (MR.ownS 3 1 B F (fun _ i => .eq (.int .i64 (updZ a n z i))) n).R w (ρ x) := by
    obtain ⟨A, c, ev, h1, h2, h3⟩ := hx
    refine ⟨A, c, ev, h1, h2, h3.imp id fun ⟨g, cs, ea, hB, hF, hb, hs, he⟩ => ⟨g, cs, ea, hB, hF, hb, hs, fun i hi => ?_⟩⟩
    have e1 : updZ a n z i = a i := if_neg (by omega)
    show Elt w g (1 * i) 1 (.eq (.int .i64 (updZ a n z i)))
    rw [e1]
    exact he i hi
  refine yld_appendS (E := fun _ i => .eq (.int .i64 (updZ a n z i))) hT intInfo rfl (by decide) (by decide) (by decide) h hx' hy (fun {w v} hv u hu => ?_) hn hB hF' (fun _ _ _ _ _ _ _ hv => hv) (fun _ _ v _ _ _ hv => ?_) (fun _ _ _ _ _ _ hv => hv) (fun _ v _ hv => ?_) K
  · have hv : v = .int .i64 z := hv
    subst hv
    simp only [Value.cells, List.mem_toArray, List.mem_cons, List.not_mem_nil, or_false] at hu
    subst hu
    rfl
  · have hv : v = .int .i64 z := hv
    show v = .int .i64 (updZ a n z n)
    rw [hv, show updZ a n z n = z from if_pos rfl]
  · have hv : v = .int .i64 z := hv
    show v = .int .i64 (updZ a n z n)
    rw [hv, show updZ a n z n = z from if_pos rfl]
end
end Go.Proofs.Ytngghjhmfpmilaa
