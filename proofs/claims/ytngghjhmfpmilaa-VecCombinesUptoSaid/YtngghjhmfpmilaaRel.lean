/- A region by what its operations yield, whatever order is drawn: each operation's value is in a relation that stays as memory grows; the stores at the end go in order. -/
import Derived.Test.YtngghjhmfpmilaaMem
import Derived.Test.YtngghjhmfpmilaaHeldT
namespace Go.Proofs.Ytngghjhmfpmilaa
open Go.RowKit

/-- memory has grown; all that was there is as it was -/
def Grow (w w' : World) : Prop := Below w.heap.size w w'
theorem Grow.refl (w : World) : Grow w w := Below.refl _ _
theorem Grow.trans {a b c : World} (h : Grow a b) (k : Grow b c) : Grow a c := Below.trans h (Below.mono k h.size)
theorem Grow.drew {a b : World} (h : Grow a b) : Grow a b.drew := Below.drew h
theorem Grow.alloc {a b : World} (h : Grow a b) (o : Obj) : Grow a (b.alloc o) := Below.alloc h h.size o
/-- a relation between worlds and values that stays as memory grows -/
structure MR where
  R : World → Value → Prop
  mono : ∀ {w w' v}, Grow w w' → R w v → R w' v
def MR.any : MR := ⟨fun _ _ => True, fun _ h => h⟩
/-- operation o, its operands read by ρ, carried out in w: it yields a value, and Φ holds -/
def Yld (P : Program) (o : Oper) (ρ : Operand → Value) (w : World) (Φ : Value → World → Prop) : Prop :=
  match (execOp ρ o).run P w with
  | .ok (.value v) w' => Φ v w'
  | .ok .skip w' => Φ undef w'
  | .ok (.enter f args) w' => Calls P f args w' fun e w'' => ∃ v, e = .returned v ∧ Φ v w''
  | _ => False
section
variable {P : Program} {ops : Array Oper} {Q : Exit → Act → World → Prop} {md : Region.Mode}
theorem Yld.wp {o : Oper} {a : Act} {w : World} {Φ : Value → World → Prop} {K : Act → World → Prop} (h : Yld P o a.eval w Φ) (hK : ∀ v w', Φ v w' → K (a.put o.dst v) w') : Oper.wp P o a w K Q := by
  unfold Yld at h
  unfold Oper.wp
  generalize (execOp a.eval o).run P w = r at *
  cases r with
  | ok x w' =>
    cases x <;> simp only [Oper.upon] at h ⊢ <;>
      first
      | exact hK _ _ h
      | exact h.elim
      | (refine Calls.mono h fun e w'' => ?_
         rintro ⟨v, rfl, hv⟩
         exact hK _ _ hv)
  | halt x w' => exact h.elim
theorem Yld.mono {o : Oper} {ρ : Operand → Value} {w : World} {Φ Ψ : Value → World → Prop} (h : Yld P o ρ w Φ) (k : ∀ v w', Φ v w' → Ψ v w') : Yld P o ρ w Ψ := by
  unfold Yld at *
  generalize (execOp ρ o).run P w = r at *
  cases r with
  | ok x w' =>
    cases x <;> simp only at h ⊢ <;>
      first
      | exact k _ _ h
      | exact h.elim
      | exact Calls.mono h fun e w'' ⟨v, hv, hΦ⟩ => ⟨v, hv, k _ _ hΦ⟩
  | halt x w' => exact h.elim
/-- the slot that operation i writes -/
def dstOf (ops : Array Oper) (i : Nat) : Option Tmp := (ops[i]?).bind (·.dst)
/-- what operation i has yielded -/
def valOf (ops : Array Oper) (a : Act) (i : Nat) : Value := match dstOf ops i with | some d => a.tmps.getD d undef | none => undef
/-- the operations ahead of n whose slots operation i looks at -/
def needs (ops : Array Oper) (n i : Nat) : List Nat :=
  match ops[i]? with
  | none => []
  | some o => (List.range n).filter fun j => match dstOf ops j with | some d => (o.looksAt ops).contains d | none => false
def Conts (ops : Array Oper) (Rs : Nat → MR) : List Nat → (Act → Prop) → Act → World → Prop
  | [], K, a, _ => K a
  | j :: l, K, a, w => ∀ v, (Rs j).R w v → Conts ops Rs l K (a.put (dstOf ops j) v) w
def blkN : Value → Nat
  | .pointer (some a) => a.block
  | .slice (some a) _ _ => a.block
  | _ => 0
/-- v is new memory -/
def Fresh (w w' : World) (v : Value) : Prop := w.heap.size ≤ blkN v ∧ blkN v < w'.heap.size
/-- the blocks kb are as they were -/
def Kept (kb : List Nat) (w w' : World) : Prop := ∀ k ∈ kb, w'.heap[k]? = w.heap[k]?
/-- one operation ahead of the stores -/
def StepOK (P : Program) (ops : Array Oper) (Rs : Nat → MR) (n : Nat) (news lz kb : List Nat) (a0 : Act) (w0 : World) (i : Nat) : Prop :=
  match ops[i]? with
  | none => False
  | some o => ∀ w, Grow w0 w → Conts ops Rs (needs ops n i) (fun a =>
      if lz.contains i then
        (if Region.wanted o (yielded ops a.tmps) = true then ∃ v, (∀ w2, Kept kb w w2 → (execOp a.eval o).run P w2 = .ok (.value v) w2) ∧ (Rs i).R w v else (Rs i).R w undef)
      else
        (if Region.wanted o (yielded ops a.tmps) = true then Yld P o a.eval w (fun v w' => Grow w w' ∧ (Rs i).R w' v ∧ (news.contains i = true → Fresh w w' v)) else (Rs i).R w undef ∧ news.contains i = false)) a0 w
/-- what is new lies apart -/
def Apart (ops : Array Oper) (a : Act) (w0 w : World) : List Nat → Prop
  | [] => True
  | i :: l => (w0.heap.size ≤ blkN (valOf ops a i) ∧ blkN (valOf ops a i) < w.heap.size) ∧ (∀ j ∈ l, blkN (valOf ops a i) ≠ blkN (valOf ops a j)) ∧ Apart ops a w0 w l
/-- does operation i bind on j? -/
def bindsOn (md : Region.Mode) (ops : Array Oper) (i j : Nat) : Bool := match ops[i]? with
  | none => false
  | some o => o.after.any fun e => Region.binds md e && e.on == j
def headOK (md : Region.Mode) (ops : Array Oper) (n N i : Nat) : Bool := match ops[i]? with
  | none => false
  | some o => (match o.dst with | some d => decide (d < N) && (List.range n).all (fun j => j == i || dstOf ops j != some d) | none => false) &&
      (match o.op with | .select .. => false | _ => true) && (needs ops n i).all (fun j => bindsOn md ops i j) && o.after.all (fun e => !Region.binds md e || decide (e.on < i))
/-- what operation j waits for, at one remove or several -/
def reachL (md : Region.Mode) (ops : Array Oper) (j : Nat) : List Nat :=
  (List.range (j + 1)).reverse.foldl (fun S k => if S.contains k then S ++ (List.range k).filter (bindsOn md ops k) else S) [j]
/-- operation j, a store or behind one, comes behind all others ahead of it, but for the ones in lz -/
def tailOK (md : Region.Mode) (ops : Array Oper) (lz : List Nat) (j : Nat) : Bool :=
  match ops[j]? with
  | none => false
  | some o => (let S := reachL md ops j; (List.range j).all fun i => S.contains i || lz.contains i) && o.after.all (fun e => !Region.binds md e || decide (e.on < j))
def lazyOK (md : Region.Mode) (ops : Array Oper) (n : Nat) (lz : List Nat) (i : Nat) : Bool := match ops[i]? with
  | none => false
  | some o => decide (i < n) && decide (n < ops.size) && bindsOn md ops (ops.size - 1) i && (List.range ops.size).all fun j => match ops[j]? with | none => true | some oj => j == i || (decide (j < n) && !lz.contains j) || bindsOn md ops j i || o.apart ops oj
def relOK (md : Region.Mode) (ops : Array Oper) (n N : Nat) (lz : List Nat) : Bool :=
  decide (n ≤ ops.size) && (List.range n).all (headOK md ops n N) && (List.range' n (ops.size - n)).all (tailOK md ops lz) && lz.all (lazyOK md ops n lz) && Region.noSelect ops

theorem put_get (a : Act) (d : Tmp) (v : Value) (t : Tmp) : (a.put (some d) v).tmps[t]? = if d = t then (if d < a.tmps.size then some v else none) else a.tmps[t]? := by
  simp only [Act.put, Array.getElem?_setIfInBounds]
theorem put_size (a : Act) (d : Option Tmp) (v : Value) : (a.put d v).tmps.size = a.tmps.size := by cases d <;> simp [Act.put]
theorem put_def (a : Act) (d : Option Tmp) (v : Value) : (a.put d v).defers = a.defers := by cases d <;> rfl
theorem getD_get (a : Act) (t : Tmp) : a.tmps.getD t undef = (a.tmps[t]?).getD undef := by simp
/-- the walk through all that is wanted -/
theorem conts_use (Rs : Nat → MR) {b : Act} {w : World} : ∀ (l : List Nat) (K : Act → Prop) (a : Act), Conts ops Rs l K a w →
    (∀ j ∈ l, ∃ d, dstOf ops j = some d ∧ d < a.tmps.size) → a.tmps.size = b.tmps.size → (∀ j ∈ l, (Rs j).R w (valOf ops b j)) →
    ∃ c : Act, K c ∧ c.defers = a.defers ∧ c.tmps.size = a.tmps.size ∧ ∀ t, c.tmps[t]? = if (∃ j ∈ l, dstOf ops j = some t) then b.tmps[t]? else a.tmps[t]?
  | [], K, a, h, _, _, _ => ⟨a, h, rfl, rfl, fun t => by simp⟩
  | j :: l, K, a, h, hd, hs, hR => by
    obtain ⟨d, hdj, hlt⟩ := hd j (by simp)
    have h1 := h (valOf ops b j) (hR j (by simp))
    rw [hdj] at h1
    obtain ⟨c, hK, hdef, hsz, hc⟩ := conts_use Rs l K _ h1 (fun j' hj' => by obtain ⟨d', e, hl⟩ := hd j' (by simp [hj']); exact ⟨d', e, by rw [put_size]; exact hl⟩) (by rw [put_size]; exact hs) (fun j' hj' => hR j' (by simp [hj']))
    refine ⟨c, hK, by rw [hdef, put_def], by rw [hsz, put_size], fun t => ?_⟩
    rw [hc t]
    by_cases hx : ∃ j' ∈ l, dstOf ops j' = some t
    · rw [if_pos hx, if_pos]
      obtain ⟨j', hj', e⟩ := hx
      exact ⟨j', by simp [hj'], e⟩
    · rw [if_neg hx, put_get]
      by_cases e : d = t
      · subst e
        rw [if_pos rfl, if_pos hlt, if_pos ⟨j, by simp, hdj⟩]
        have hlt' : d < b.tmps.size := hs ▸ hlt
        simp only [valOf, hdj, getD_get]
        rw [Array.getElem?_eq_getElem hlt']; rfl
      · rw [if_neg e, if_neg]
        rintro ⟨j', hj', e'⟩
        rcases List.mem_cons.1 hj' with rfl | hj'
        · rw [hdj] at e'; exact e (Option.some.inj e')
        · exact hx ⟨j', hj', e'⟩
theorem same_eval {a b : Act} (x : Operand) (h : ∀ t, x = .tmp t → a.tmps[t]? = b.tmps[t]?) : a.eval x = b.eval x := by
  cases x with
  | tmp t => simp only [Act.eval, getD_get, h t rfl]
  | _ => rfl
theorem same_exec {a b : Act} (o : Oper) (hs : ∀ cs b, o.op ≠ .select cs b) (h : ∀ t ∈ o.looksAt ops, a.tmps[t]? = b.tmps[t]?) : execOp a.eval o = execOp b.eval o :=
  execOp_congr o hs fun x hx => same_eval x fun t e => h t (by subst e; exact List.mem_append_left _ (List.mem_filterMap.2 ⟨.tmp t, by simpa using hx, rfl⟩))
theorem same_wanted {a b : Act} (o : Oper) (h : ∀ t ∈ o.looksAt ops, a.tmps[t]? = b.tmps[t]?) : Region.wanted o (yielded ops a.tmps) = Region.wanted o (yielded ops b.tmps) := by
  unfold Region.wanted
  cases hg : o.guard with
  | none => rfl
  | some gw =>
    obtain ⟨g, want⟩ := gw
    have : yielded ops a.tmps g = yielded ops b.tmps g := by
      unfold yielded
      cases ht : (ops[g]?).bind (·.dst) with
      | none => rfl
      | some t =>
        have := h t (by simp [Oper.looksAt, hg, ht])
        simp [this]
    simp only [this]
/-- where the region has come to: some of the operations ahead of the stores are done -/
structure At (md : Region.Mode) (ops : Array Oper) (Rs : Nat → MR) (n : Nat) (news : List Nat) (a0 : Act) (w0 : World) (listed : Array Bool) (a : Act) (w : World) : Prop where
  grow : Grow w0 w
  defers : a.defers = a0.defers
  size : a.tmps.size = a0.tmps.size
  lsize : listed.size = ops.size
  same : ∀ t, (∀ i, i < n → dstOf ops i ≠ some t) → a.tmps[t]? = a0.tmps[t]?
  rel : ∀ i, i < n → listed.getD i false = true → (Rs i).R w (valOf ops a i)
  tail : ∀ i, n ≤ i → listed.getD i false = false
  closed : ∀ i j, listed.getD i false = true → bindsOn md ops i j = true → listed.getD j false = true
  fresh : ∀ i, i < n → news.contains i = true → listed.getD i false = true → w0.heap.size ≤ blkN (valOf ops a i) ∧ blkN (valOf ops a i) < w.heap.size
  apart : ∀ i j, i < n → j < n → i ≠ j → news.contains i = true → news.contains j = true → listed.getD i false = true → listed.getD j false = true → blkN (valOf ops a i) ≠ blkN (valOf ops a j)
section
variable {Rs : Nat → MR} {n : Nat} {news lz : List Nat} {a0 a : Act} {w0 w : World} {listed : Array Bool}
theorem head_spec {N i : Nat} (h : headOK md ops n N i = true) : ∃ o d, ops[i]? = some o ∧ o.dst = some d ∧ dstOf ops i = some d ∧ d < N ∧ (∀ j, j < n → j ≠ i → dstOf ops j ≠ some d) ∧ (∀ cs b, o.op ≠ .select cs b) ∧
    (∀ j ∈ needs ops n i, ∃ e ∈ o.after, Region.binds md e = true ∧ e.on = j) ∧ ∀ e ∈ o.after, Region.binds md e = true → e.on < i := by
  unfold headOK at h
  split at h
  · cases h
  rename_i o ho
  simp only [Bool.and_eq_true] at h
  obtain ⟨⟨⟨h1, h2⟩, h3⟩, h4⟩ := h
  cases hd : o.dst with
  | none => rw [hd] at h1; cases h1
  | some d =>
    rw [hd] at h1
    simp only [Bool.and_eq_true, decide_eq_true_eq, List.all_eq_true, List.mem_range, Bool.or_eq_true, beq_iff_eq, bne_iff_ne] at h1
    refine ⟨o, d, ho, hd, by simp [dstOf, ho, hd], h1.1, fun j hj hne => (h1.2 j hj).resolve_left hne, ?_, ?_, ?_⟩
    · intro cs b e; rw [e] at h2; cases h2
    · intro j hj
      have := List.all_eq_true.1 h3 j hj
      unfold bindsOn at this
      rw [ho] at this
      obtain ⟨e, he, hb⟩ := Array.any_eq_true'.1 this
      simp only [Bool.and_eq_true, beq_iff_eq] at hb
      exact ⟨e, he, hb.1, hb.2⟩
    · intro e he hb
      have := Array.all_eq_true_iff_forall_mem.1 h4 e he
      simp only [hb, Bool.not_true, Bool.false_or, decide_eq_true_eq] at this
      exact this
theorem mem_needs {i j : Nat} {o : Oper} (ho : ops[i]? = some o) (hj : j < n) {t : Tmp} (ht : t ∈ o.looksAt ops) (hd : dstOf ops j = some t) : j ∈ needs ops n i := by
  unfold needs
  rw [ho]
  simp only [List.mem_filter, List.mem_range]
  refine ⟨hj, ?_⟩
  rw [hd]
  simpa using ht
theorem needs_lt {i j : Nat} (h : j ∈ needs ops n i) : j < n := by
  unfold needs at h
  split at h
  · cases h
  · simp only [List.mem_filter, List.mem_range] at h; exact h.1
theorem val_put_other {j : Nat} {d : Tmp} (v : Value) (h : dstOf ops j ≠ some d) : valOf ops (a.put (some d) v) j = valOf ops a j := by
  unfold valOf
  cases hj : dstOf ops j with
  | none => rfl
  | some t =>
    have hne : d ≠ t := fun e => h (by rw [hj, e])
    simp only [getD_get, put_get, if_neg hne]
theorem val_put_self {i : Nat} {d : Tmp} (v : Value) (h : dstOf ops i = some d) (hlt : d < a.tmps.size) : valOf ops (a.put (some d) v) i = v := by
  unfold valOf
  rw [h]
  simp only [getD_get, put_get, if_pos hlt, if_true, Option.getD_some]
theorem getD_lt {i : Nat} (h : listed.getD i false = true) : i < listed.size := by
  rcases Nat.lt_or_ge i listed.size with h' | h'
  · exact h'
  · simp [Array.getElem?_eq_none h'] at h
/-- one more is done -/
theorem At.put {N i : Nat} {o : Oper} {d : Tmp} {v : Value} {w' : World} (h : At md ops Rs n news a0 w0 listed a w) (hpre : ∀ e ∈ o.after, Region.binds md e = true → listed.getD e.on false = true) (hN : a0.tmps.size = N) (hok : ∀ i, i < n → headOK md ops n N i = true) (hi : i < n) (ho : ops[i]? = some o) (hd : o.dst = some d) (hsz : i < ops.size)
    (hun : listed.getD i true = false) (hg : Grow w w') (hR : (Rs i).R w' v) (hf : news.contains i = true → Fresh w w' v) : At md ops Rs n news a0 w0 (listed.setIfInBounds i true) (a.put (some d) v) w' := by
  obtain ⟨o', d', ho', hd', hdi, hlt, hne, _, _, _⟩ := head_spec (hok i hi)
  rw [ho] at ho'
  obtain rfl := Option.some.inj ho'
  rw [hd] at hd'
  obtain rfl := Option.some.inj hd'
  have hself : valOf ops (a.put (some d) v) i = v := val_put_self v hdi (by rw [h.size, hN]; exact hlt)
  have hoth : ∀ j, j < n → j ≠ i → valOf ops (a.put (some d) v) j = valOf ops a j := fun j hj e => val_put_other v (hne j hj e)
  have hl : ∀ j, j ≠ i → (listed.setIfInBounds i true).getD j false = listed.getD j false := fun j e => getD_set_ne false (Ne.symm e)
  refine ⟨h.grow.trans hg, by rw [put_def]; exact h.defers, by rw [put_size]; exact h.size, by simpa using h.lsize, ?_, ?_, ?_, ?_, ?_, ?_⟩
  · intro t ht
    rw [put_get, if_neg (fun e => ht i hi (by rw [hdi, e]))]
    exact h.same t ht
  · intro j hj hlj
    by_cases e : j = i
    · subst e; rw [hself]; exact hR
    · rw [hoth j hj e]
      exact (Rs j).mono hg (h.rel j hj (by rw [← hl j e]; exact hlj))
  · intro j hj
    rw [hl j (by omega)]
    exact h.tail j hj
  · intro j k hlj hb
    by_cases e : j = i
    · subst e
      unfold bindsOn at hb
      rw [ho] at hb
      obtain ⟨e, he, hb⟩ := Array.any_eq_true'.1 hb
      simp only [Bool.and_eq_true, beq_iff_eq] at hb
      rw [← hb.2]
      exact getD_set_true (hpre e he hb.1)
    · exact getD_set_true (h.closed j k (by rw [← hl j e]; exact hlj) hb)
  · intro j hj hnj hlj
    by_cases e : j = i
    · subst e
      rw [hself]
      have := hf hnj
      exact ⟨Nat.le_trans h.grow.size this.1, this.2⟩
    · rw [hoth j hj e]
      have := h.fresh j hj hnj (by rw [← hl j e]; exact hlj)
      exact ⟨this.1, Nat.lt_of_lt_of_le this.2 hg.size⟩
  · intro j k hj hk hjk hnj hnk hlj hlk
    by_cases e : j = i
    · subst e
      rw [hself, hoth k hk (Ne.symm hjk)]
      have h1 := (hf hnj).1
      have h2 := (h.fresh k hk hnk (by rw [← hl k (Ne.symm hjk)]; exact hlk)).2
      omega
    · rw [hoth j hj e]
      by_cases e2 : k = i
      · subst e2
        rw [hself]
        have h1 := (hf hnk).1
        have h2 := (h.fresh j hj hnj (by rw [← hl j e]; exact hlj)).2
        omega
      · rw [hoth k hk e2]
        exact h.apart j k hj hk hjk hnj hnk (by rw [← hl j e]; exact hlj) (by rw [← hl k e2]; exact hlk)
/-- the frame that a step was shown on, and the frame at hand, look alike to it -/
theorem At.step {N i : Nat} {o : Oper} {K : Act → Prop} (h : At md ops Rs n news a0 w0 listed a w) (hN : a0.tmps.size = N) (hok : ∀ i, i < n → headOK md ops n N i = true) (hi : i < n) (ho : ops[i]? = some o)
    (hl : ∀ e ∈ o.after, Region.binds md e = true → listed.getD e.on false = true) (hc : Conts ops Rs (needs ops n i) K a0 w) : ∃ c : Act, K c ∧ ∀ t ∈ o.looksAt ops, c.tmps[t]? = a.tmps[t]? := by
  obtain ⟨o', d', ho', hd', hdi, hlt, hne, _, hneeds, _⟩ := head_spec (hok i hi)
  rw [ho] at ho'
  obtain rfl := Option.some.inj ho'
  obtain ⟨c, hK, _, _, hcs⟩ := conts_use Rs (b := a) (needs ops n i) K a0 hc (fun j hj => by
      obtain ⟨_, d, _, _, e, hlt, _⟩ := head_spec (hok j (needs_lt hj))
      exact ⟨d, e, by rw [hN]; exact hlt⟩) h.size.symm (fun j hj => by
      obtain ⟨e, he, hb, rfl⟩ := hneeds j hj
      exact h.rel _ (needs_lt hj) (hl e he hb))
  refine ⟨c, hK, fun t ht => ?_⟩
  rw [hcs t]
  by_cases hx : ∃ j ∈ needs ops n i, dstOf ops j = some t
  · rw [if_pos hx]
  · rw [if_neg hx]
    exact (h.same t fun j hj e => hx ⟨j, mem_needs ho hj ht e, e⟩).symm

theorem filter_len {l : List Nat} (hn : l.Nodup) (p q : Nat → Bool) (i : Nat) (hi : i ∈ l) (hp : p i = true) (hq : q i = false) (h : ∀ j, j ≠ i → q j = p j) : (l.filter q).length + 1 = (l.filter p).length := by
  induction l with
  | nil => cases hi
  | cons x l ih =>
    rw [List.nodup_cons] at hn
    by_cases e : x = i
    · subst e
      have : l.filter q = l.filter p := List.filter_congr fun j hj => h j fun e => hn.1 (e ▸ hj)
      simp [hp, hq, this]
    · have hi' : i ∈ l := by
        rcases List.mem_cons.1 hi with e' | e'
        · exact absurd e'.symm e
        · exact e'
      have := ih hn.2 hi'
      simp only [List.filter_cons, h x e]
      split <;> simp_all
/-- how many are not done yet -/
def left (ops : Array Oper) (listed : Array Bool) : Nat := ((List.range ops.size).filter fun i => !listed.getD i true).length
theorem left_put {i : Nat} (hs : listed.size = ops.size) (hi : i < ops.size) (hun : listed.getD i true = false) : left ops (listed.setIfInBounds i true) + 1 = left ops listed := by
  unfold left
  refine filter_len List.nodup_range _ _ i (by simpa using hi) (by simp only [hun]; rfl) ?_ ?_
  · have : i < listed.size := by omega
    simp [this]
  · intro j hj
    rw [getD_set_ne true (Ne.symm hj)]
theorem getD_tf {i : Nat} (h : i < listed.size) : listed.getD i true = listed.getD i false := by simp [h]
theorem ready_of {i : Nat} {o : Oper} (ho : ops[i]? = some o) (hun : listed.getD i true = false) (h : ∀ e ∈ o.after, Region.binds md e = true → listed.getD e.on false = true) : i ∈ Region.ready md ops listed :=
  mem_ready.2 ⟨hun, o, ho, h⟩
/-- the first one that is not done -/
theorem first_left (h : left ops listed ≠ 0) : ∃ i, i < ops.size ∧ listed.getD i true = false ∧ ∀ j, j < i → listed.getD j true = true := by
  have hex : ∃ i, i < ops.size ∧ listed.getD i true = false := by
    unfold left at h
    obtain ⟨i, hi⟩ := List.exists_mem_of_length_pos (Nat.pos_of_ne_zero h)
    simp only [List.mem_filter, List.mem_range, Bool.not_eq_true'] at hi
    exact ⟨i, hi⟩
  obtain ⟨i, hi⟩ := hex
  induction i using Nat.strongRecOn with
  | _ i ih =>
    by_cases hx : ∃ j, j < i ∧ listed.getD j true = false
    · obtain ⟨j, hj, hjf⟩ := hx
      exact ih j hj ⟨by omega, hjf⟩
    · refine ⟨i, hi.1, hi.2, fun j hj => ?_⟩
      cases hb : listed.getD j true with
      | true => rfl
      | false => exact absurd ⟨j, hj, hb⟩ hx
inductive Dep (md : Region.Mode) (ops : Array Oper) : Nat → Nat → Prop
  | refl (j : Nat) : Dep md ops j j
  | step {j k i : Nat} (h : Dep md ops j k) (b : bindsOn md ops k i = true) : Dep md ops j i
theorem reach_dep (j : Nat) : ∀ (l : List Nat) (S : List Nat), (∀ x ∈ S, Dep md ops j x) → ∀ x ∈ l.foldl (fun S k => if S.contains k then S ++ (List.range k).filter (bindsOn md ops k) else S) S, Dep md ops j x
  | [], _, h => h
  | k :: l, S, h => reach_dep j l _ fun x hx => by
    dsimp only at hx
    split at hx
    · rename_i hk
      rcases List.mem_append.1 hx with hx | hx
      · exact h x hx
      · exact .step (h k (by simpa using hk)) (List.mem_filter.1 hx).2
    · exact h x hx
theorem tail_spec {j : Nat} (h : tailOK md ops lz j = true) : ∃ o, ops[j]? = some o ∧ (∀ i, i < j → Dep md ops j i ∨ lz.contains i = true) ∧ ∀ e ∈ o.after, Region.binds md e = true → e.on < j := by
  unfold tailOK at h
  split at h
  · cases h
  rename_i o ho
  simp only [Bool.and_eq_true] at h
  refine ⟨o, ho, fun i hi => ?_, fun e he hb => ?_⟩
  · have := List.all_eq_true.1 h.1 i (by simpa using hi)
    simp only [Bool.or_eq_true] at this
    rcases this with h1 | h1
    · exact .inl (reach_dep j _ [j] (fun x hx => by rw [List.mem_singleton.1 hx]; exact .refl j) i (by rw [List.contains_iff_mem] at h1; exact h1))
    · exact .inr h1
  · have := Array.all_eq_true_iff_forall_mem.1 h.2 e he
    simp only [hb, Bool.not_true, Bool.false_or, decide_eq_true_eq] at this
    exact this
/-- what is waited for is done -/
theorem dep_listed {j : Nat} {o : Oper} (ho : ops[j]? = some o) (hpre : ∀ e ∈ o.after, Region.binds md e = true → listed.getD e.on false = true) (hcl : ∀ i k, listed.getD i false = true → bindsOn md ops i k = true → listed.getD k false = true) : ∀ {i : Nat}, Dep md ops j i → i = j ∨ listed.getD i false = true := by
  intro i h
  induction h with
  | refl => exact .inl rfl
  | step h b ih =>
    right
    rcases ih with rfl | ih
    · unfold bindsOn at b
      rw [ho] at b
      obtain ⟨e, he, hb⟩ := Array.any_eq_true'.1 b
      simp only [Bool.and_eq_true, beq_iff_eq] at hb
      rw [← hb.2]
      exact hpre e he hb.1
    · exact hcl _ _ ih b
theorem range_ge (n : Nat) : ∀ s, ((List.range s).filter fun i => decide (n ≤ i)).length = s - n
  | 0 => by simp
  | s + 1 => by
    rw [List.range_succ, List.filter_append, List.length_append, range_ge n s]
    by_cases h : n ≤ s
    · simp [h]; omega
    · simp [h]; omega
theorem left_tail (hs : listed.size = ops.size) (h1 : ∀ i, i < n → listed.getD i false = true) (h2 : ∀ i, n ≤ i → listed.getD i false = false) : left ops listed = ops.size - n := by
  rw [← range_ge n ops.size]
  unfold left
  congr 1
  refine List.filter_congr fun i hi => ?_
  have hi' : i < listed.size := by rw [hs]; simpa using hi
  rw [getD_tf hi']
  by_cases h : n ≤ i
  · rw [h2 i h]; simp [h]
  · rw [h1 i (by omega)]; simp [h]
theorem left_pos {i : Nat} (hi : i < ops.size) (h : listed.getD i true = false) : left ops listed ≠ 0 := by
  unfold left
  intro h0
  have hm : i ∈ (List.range ops.size).filter fun i => !listed.getD i true := by
    rw [List.mem_filter]
    exact ⟨by simpa using hi, by simp only [h]; rfl⟩
  rw [List.length_eq_zero_iff.1 h0] at hm
  cases hm
theorem act_ext {a b : Act} (h : ∀ t : Nat, a.tmps[t]? = b.tmps[t]?) (hd : a.defers = b.defers) : a = b := by
  cases a; cases b
  simp only at h hd
  rw [Array.ext_getElem? h, hd]
theorem apart_of (h : At md ops Rs n news a0 w0 listed a w) (hd : ∀ i, i < n → listed.getD i false = true) : ∀ (l : List Nat), (∀ i ∈ l, news.contains i = true ∧ i < n) → l.Nodup → Apart ops a w0 w l
  | [], _, _ => trivial
  | i :: l, hl, hn => by
    rw [List.nodup_cons] at hn
    have hi := hl i (by simp)
    refine ⟨h.fresh i hi.2 hi.1 (hd i hi.2), fun j hj => ?_, apart_of h hd l (fun j hj => hl j (by simp [hj])) hn.2⟩
    have hj' := hl j (by simp [hj])
    exact h.apart i j hi.2 hj'.2 (fun e => hn.1 (e ▸ hj)) hi.1 hj'.1 (hd i hi.2) (hd j hj'.2)
theorem rel_spec {N : Nat} (h : relOK md ops n N lz = true) : n ≤ ops.size ∧ (∀ i, i < n → headOK md ops n N i = true) ∧ (∀ j, n ≤ j → j < ops.size → tailOK md ops lz j = true) ∧ (∀ i, lz.contains i = true → lazyOK md ops n lz i = true) ∧ Region.noSelect ops = true := by
  unfold relOK at h
  simp only [Bool.and_eq_true, decide_eq_true_eq, List.all_eq_true, List.mem_range, List.mem_range'] at h
  obtain ⟨⟨⟨⟨h1, h2⟩, h3⟩, h4⟩, h5⟩ := h
  exact ⟨h1, h2, fun j hj hlt => h3 j ⟨j - n, by omega, by omega⟩, fun i hi => h4 i (by simpa using hi), h5⟩
theorem lazy_spec {i : Nat} {o : Oper} (h : lazyOK md ops n lz i = true) (ho : ops[i]? = some o) : i < n ∧ n < ops.size ∧ bindsOn md ops (ops.size - 1) i = true ∧ ∀ j oj, ops[j]? = some oj → j ≠ i → (n ≤ j ∨ lz.contains j = true) → (∀ e ∈ oj.after, Region.binds md e = true → e.on ≠ i) → o.apart ops oj = true := by
  unfold lazyOK at h
  rw [ho] at h
  simp only [Bool.and_eq_true, decide_eq_true_eq, List.all_eq_true, List.mem_range] at h
  refine ⟨h.1.1.1, h.1.1.2, h.1.2, fun j oj hoj hne hl hno => ?_⟩
  have := h.2 j (Array.getElem?_eq_some_iff.1 hoj).1
  rw [hoj] at this
  simp only [Bool.or_eq_true, Bool.and_eq_true, decide_eq_true_eq, beq_iff_eq, Bool.not_eq_true'] at this
  rcases this with ((h1 | h1) | h1) | h1
  · exact absurd h1 hne
  · rcases hl with hl | hl
    · omega
    · rw [hl] at h1; cases h1.2
  · unfold bindsOn at h1
    rw [hoj] at h1
    obtain ⟨e, he, hb⟩ := Array.any_eq_true'.1 h1
    simp only [Bool.and_eq_true, beq_iff_eq] at hb
    exact absurd hb.2 (hno e he hb.1)
  · exact h1
/-- the stores in order; S holds behind each but the last -/
def wpListS (P : Program) (ops : Array Oper) (Q : Exit → Act → World → Prop) (S : World → Prop) : List Oper → Act → World → Prop
  | [], a, w => Q .normal a w
  | o :: rest, a, w =>
    if Region.wanted o (yielded ops a.tmps) = true then o.wp P a w (fun a' w' => (rest ≠ [] → S w') ∧ wpListS P ops Q S rest a' w') Q ∨ (o.asks P a w ∧ LetsOut Q)
    else (rest ≠ [] → S w) ∧ wpListS P ops Q S rest (a.put o.dst undef) w
theorem wpList_of_S {S : World → Prop} : ∀ (l : List Oper) (a : Act) (w : World), wpListS P ops Q S l a w → wpList P ops Q l a w
  | [], _, _, h => h
  | o :: rest, a, w, h => by
    unfold wpListS at h
    unfold wpList
    by_cases hw : Region.wanted o (yielded ops a.tmps) = true
    · rw [if_pos hw] at h ⊢
      exact h.imp (Oper.wp_mono fun a' w' h' => wpList_of_S rest a' w' h'.2) id
    · rw [if_neg hw] at h ⊢
      exact wpList_of_S rest _ w h.2
theorem wpAnyT_tail {S : World → Prop} (hlz : ∀ i, lz.contains i = true → i < n) (htl : ∀ j, n ≤ j → j < ops.size → tailOK md ops lz j = true) : ∀ (fuel k : Nat) (listed : Array Bool) (a : Act) (w : World), n ≤ k → k + fuel = ops.size → listed.size = ops.size → (∀ i, i < k → listed.getD i false = true) → (∀ i, k ≤ i → listed.getD i false = false) → (∀ i j, listed.getD i false = true → bindsOn md ops i j = true → listed.getD j false = true) →
    wpListS P ops Q S (ops.toList.drop k) a w → wpAnyT P md ops Q S (ops.size - 1) fuel listed a w := by
  intro fuel
  induction fuel with
  | zero =>
    intro k listed a w hn hk hs hd hu _ h
    have hr : Region.ready md ops listed = [] := by
      refine List.eq_nil_iff_forall_not_mem.2 fun i hi => ?_
      obtain ⟨h1, o, ho, _⟩ := mem_ready.1 hi
      have hlt := (Array.getElem?_eq_some_iff.1 ho).1
      rw [getD_tf (by omega), hd i (by omega)] at h1
      cases h1
    rw [List.drop_eq_nil_of_le (by simp; omega)] at h
    exact ⟨hr, h⟩
  | succ fuel ih =>
    intro k listed a w hn hk hs hd hu hcl h
    obtain ⟨o, ho, hall, hlt⟩ := tail_spec (htl k hn (by omega))
    have hko : k < ops.size := by omega
    have hrdy : k ∈ Region.ready md ops listed := ready_of ho (by rw [getD_tf (by omega)]; exact hu k (Nat.le_refl _)) fun e he hb => hd _ (hlt e he hb)
    refine ⟨fun h0 => (by rw [h0] at hrdy; cases hrdy), fun i hi => ?_⟩
    obtain ⟨h1, oi, hoi, hpre⟩ := mem_ready.1 hi
    have hil := (Array.getElem?_eq_some_iff.1 hoi).1
    have hik : i = k := by
      rcases Nat.lt_trichotomy i k with hx | hx | hx
      · rw [getD_tf (by omega), hd i hx] at h1; cases h1
      · exact hx
      · obtain ⟨oi', hoi', hall', _⟩ := tail_spec (htl i (by omega) hil)
        rw [hoi] at hoi'
        obtain rfl := Option.some.inj hoi'
        rcases hall' k hx with hdep | hz
        · rcases dep_listed hoi hpre hcl hdep with e | e
          · omega
          · rw [hu k (Nat.le_refl _)] at e; cases e
        · exact absurd (hlz k hz) (by omega)
    subst hik
    have hdrop : ops.toList.drop i = o :: ops.toList.drop (i + 1) := by
      rw [List.drop_eq_getElem_cons (by simpa using hko)]
      congr 1
      have := (Array.getElem?_eq_some_iff.1 ho).2
      simpa using this
    have hne : i < ops.size - 1 → ops.toList.drop (i + 1) ≠ [] := fun hlt h0 => by
      have := List.drop_eq_nil_iff.1 h0
      simp at this
      omega
    rw [hdrop] at h
    unfold wpListS at h
    unfold wpOp
    rw [ho]
    have hnext : ∀ a' w', (ops.toList.drop (i + 1) ≠ [] → S w') ∧ wpListS P ops Q S (ops.toList.drop (i + 1)) a' w' → (i < ops.size - 1 → S w') ∧ wpAnyT P md ops Q S (ops.size - 1) fuel (listed.setIfInBounds i true) a' w' := fun a' w' h' =>
      ⟨fun hlt => h'.1 (hne hlt), ih (i + 1) _ a' w' (by omega) (by omega) (by simpa using hs) (fun j hj => by
        by_cases e : j = i
        · subst e; simp [show j < listed.size by omega]
        · rw [getD_set_ne false (Ne.symm e)]; exact hd j (by omega)) (fun j hj => by rw [getD_set_ne false (by omega)]; exact hu j (by omega)) (fun j m hj hb => by
        by_cases e : j = i
        · subst e
          unfold bindsOn at hb
          rw [ho] at hb
          obtain ⟨e, he, hb⟩ := Array.any_eq_true'.1 hb
          simp only [Bool.and_eq_true, beq_iff_eq] at hb
          rw [← hb.2]
          exact getD_set_true (hd _ (hlt e he hb.1))
        · exact getD_set_true (hcl j m (by rw [← getD_set_ne false (Ne.symm e)]; exact hj) hb)) h'.2⟩
    by_cases hw : Region.wanted o (yielded ops a.tmps) = true
    · rw [if_pos hw] at h
      simp only [hw, if_true]
      exact h.imp (Oper.wp_mono hnext) id
    · rw [if_neg hw] at h
      simp only [hw]
      exact hnext _ _ h
/-- what is left of a region when all but lazy operations and the stores are done -/
theorem wpAnyT_lazy {kb : List Nat} {N : Nat} (hc : relOK md ops n N lz = true) (hN : a0.tmps.size = N) (hQ : ∀ c d v a w, Q (.panic c) (Act.put a d v) w → Q (.panic c) a w)
    (hnw : ∀ i ∈ news, i < n) (hnd : news.Nodup) (hnz : ∀ i, lz.contains i = true → news.contains i = false)
    (hst : ∀ i, i < n → StepOK P ops Rs n news lz kb a0 w0 i)
    (htl : Conts ops Rs (List.range n) (fun a => Apart ops a w0 w news → wpListS P ops Q (Kept kb w) (ops.toList.drop n) a w) a0 w) :
    ∀ (fuel : Nat) (listed : Array Bool) (a : Act), At md ops Rs n news a0 w0 listed a w → left ops listed = fuel → (∀ j, j < n → lz.contains j = false → listed.getD j false = true) → wpAnyT P md ops Q (Kept kb w) (ops.size - 1) fuel listed a w := by
  obtain ⟨hns, hok, htail, hlz, hsel⟩ := rel_spec hc
  have hlzn : ∀ i, lz.contains i = true → i < n := fun i hi => (lazy_spec (hlz i hi) (o := (ops[i]?).getD default) (by
        have := hlz i hi
        unfold lazyOK at this
        cases ho : ops[i]? with
        | none => rw [ho] at this; cases this
        | some o => rfl)).1
  have dlt : ∀ j ∈ List.range n, ∃ d, dstOf ops j = some d ∧ d < a0.tmps.size := fun j hj => by
    obtain ⟨_, d, _, _, e, hlt, _⟩ := head_spec (hok j (by simpa using hj))
    exact ⟨d, e, by rw [hN]; exact hlt⟩
  have fin : ∀ (fuel : Nat) (listed : Array Bool) (a : Act), At md ops Rs n news a0 w0 listed a w → left ops listed = fuel → (∀ i, i < n → listed.getD i false = true) → wpAnyT P md ops Q (Kept kb w) (ops.size - 1) fuel listed a w := by
    intro fuel listed a h hf hall
    rw [left_tail h.lsize hall h.tail] at hf
    obtain ⟨c, hK, hdef, hsz, hcs⟩ := conts_use Rs (b := a) (List.range n) _ a0 htl dlt h.size.symm (fun j hj => h.rel j (by simpa using hj) (hall j (by simpa using hj)))
    have hca : c = a := act_ext (fun t => by
      rw [hcs t]
      by_cases hx : ∃ j ∈ List.range n, dstOf ops j = some t
      · rw [if_pos hx]
      · rw [if_neg hx]
        exact (h.same t fun i hi e => hx ⟨i, by simpa using hi, e⟩).symm) (by rw [hdef, h.defers])
    subst hca
    exact wpAnyT_tail hlzn htail fuel n listed c w (Nat.le_refl _) (by omega) h.lsize hall h.tail h.closed (hK (apart_of h hall news (fun i hi => ⟨by simpa using hi, hnw i hi⟩) hnd))
  intro fuel
  induction fuel with
  | zero =>
    intro listed a h hf hnl
    refine fin 0 listed a h hf fun i hi => ?_
    cases hb : listed.getD i true with
    | true => rw [← getD_tf (by rw [h.lsize]; omega)]; exact hb
    | false => exact absurd hf (left_pos (by omega) hb)
  | succ fuel ih =>
    intro listed a h hf hnl
    by_cases hall : ∀ i, i < n → listed.getD i false = true
    · exact fin (fuel + 1) listed a h hf hall
    obtain ⟨i, his, hun, hbef⟩ := first_left (ops := ops) (listed := listed) (by omega)
    have hin : i < n := by
      rcases Nat.lt_or_ge i n with hx | hx
      · exact hx
      · exact absurd (fun j hj => by rw [← getD_tf (by rw [h.lsize]; omega)]; exact hbef j (by omega)) hall
    obtain ⟨o, d, ho, hd, _, _, _, hsl, _, hlt⟩ := head_spec (hok i hin)
    have hpre : ∀ e ∈ o.after, Region.binds md e = true → listed.getD e.on false = true := fun e he hb => by
      have := hlt e he hb
      rw [← getD_tf (by rw [h.lsize]; omega)]
      exact hbef _ this
    have hiz : lz.contains i = true := by
      cases hb : lz.contains i with
      | true => rfl
      | false =>
        have := hnl i hin hb
        rw [← getD_tf (by rw [h.lsize]; omega), hun] at this
        cases this
    have hs := hst i hin
    unfold StepOK at hs
    rw [ho] at hs
    obtain ⟨c, hK, hcs⟩ := h.step hN hok hin ho hpre (hs w h.grow)
    simp only [hiz, if_true] at hK
    rw [same_wanted o hcs, same_exec (ops := ops) o hsl hcs] at hK
    obtain ⟨_, hnsz, hlast, hap⟩ := lazy_spec (hlz i hiz) ho
    have go : ∀ v, YieldsIf P ops (Kept kb w) o v a → (Rs i).R w v → wpAnyT P md ops Q (Kept kb w) (ops.size - 1) (fuel + 1) listed a w := by
      intro v hy hR
      refine wpAnyT_first ho (Region.noSelect_spec hsel) (fun c a w => by rw [hd]; exact hQ c _ _ a w) (fun j oj hj hoj => ?_) fuel listed a w ?_ (ready_of ho hun hpre) hy (fun _ _ => rfl) ?_
      · have hjs := (Array.getElem?_eq_some_iff.1 hoj).1
        obtain rfl : j = ops.size - 1 := by omega
        unfold bindsOn at hlast
        rw [hoj] at hlast
        obtain ⟨e, he, hb⟩ := Array.any_eq_true'.1 hlast
        simp only [Bool.and_eq_true, beq_iff_eq] at hb
        exact ⟨e, he, hb.1, hb.2⟩
      · intro j oj hoj hne hunj hno
        refine hap j oj hoj hne ?_ hno
        rcases Nat.lt_or_ge j n with hx | hx
        · right
          cases hb : lz.contains j with
          | true => rfl
          | false =>
            have := hnl j hx hb
            rw [← getD_tf (by rw [h.lsize]; omega), hunj] at this
            cases this
        · exact .inl hx
      · rw [hd]
        refine ih _ _ (h.put hpre hN hok hin ho hd his hun (Grow.refl _) hR (fun hb => absurd hb (by rw [hnz i hiz]; exact Bool.false_ne_true))) (by have := left_put (ops := ops) h.lsize his hun; omega) fun j hj hjz => ?_
        by_cases e : j = i
        · subst e; rw [hiz] at hjz; cases hjz
        · rw [getD_set_ne false (Ne.symm e)]; exact hnl j hj hjz
    by_cases hw : Region.wanted o (yielded ops a.tmps) = true
    · rw [if_pos hw] at hK
      obtain ⟨v, hv, hR⟩ := hK
      exact go v (.inl ⟨hw, hv⟩) hR
    · rw [if_neg hw] at hK
      exact go undef (.inr ⟨by simpa using hw, rfl⟩) hK
theorem wpAny_rel {kb : List Nat} {N : Nat} (hc : relOK md ops n N lz = true) (hN : a0.tmps.size = N) (hQ : ∀ c d v a w, Q (.panic c) (Act.put a d v) w → Q (.panic c) a w)
    (hnw : ∀ i ∈ news, i < n) (hnd : news.Nodup) (hnz : ∀ i, lz.contains i = true → news.contains i = false)
    (hst : ∀ i, i < n → StepOK P ops Rs n news lz kb a0 w0 i)
    (htl : ∀ w, Grow w0 w → Conts ops Rs (List.range n) (fun a => Apart ops a w0 w news → wpListS P ops Q (Kept kb w) (ops.toList.drop n) a w) a0 w) :
    ∀ (fuel : Nat) (listed : Array Bool) (a : Act) (w : World), At md ops Rs n news a0 w0 listed a w → left ops listed = fuel → wpAny P md ops Q fuel listed a w := by
  obtain ⟨hns, hok, htail, hlz, hsel⟩ := rel_spec hc
  have pre_ok : ∀ (listed : Array Bool) (a : Act) (w : World) (i : Nat), At md ops Rs n news a0 w0 listed a w → i < ops.size → listed.getD i true = false → (∀ j, j < i → listed.getD j true = true) → ∃ o, ops[i]? = some o ∧ ∀ e ∈ o.after, Region.binds md e = true → listed.getD e.on false = true := by
    intro listed a w i h hi hun hbef
    have key : ∀ o : Oper, (∀ e ∈ o.after, Region.binds md e = true → e.on < i) → ∀ e ∈ o.after, Region.binds md e = true → listed.getD e.on false = true := fun o hlt e he hb => by
      have := hlt e he hb
      rw [← getD_tf (by rw [h.lsize]; omega)]
      exact hbef _ this
    by_cases hin : i < n
    · obtain ⟨o, _, ho, _, _, _, _, _, _, hlt⟩ := head_spec (hok i hin)
      exact ⟨o, ho, key o hlt⟩
    · obtain ⟨o, ho, _, hlt⟩ := tail_spec (htail i (by omega) hi)
      exact ⟨o, ho, key o hlt⟩
  intro fuel
  induction fuel with
  | zero =>
    intro listed a w h hf
    refine wpAny_of_T _ _ _ _ (wpAnyT_lazy hc hN hQ hnw hnd hnz hst (htl w h.grow) 0 listed a h hf fun i hi _ => ?_)
    cases hb : listed.getD i true with
    | true => rw [← getD_tf (by rw [h.lsize]; omega)]; exact hb
    | false => exact absurd hf (left_pos (by omega) hb)
  | succ fuel ih =>
    intro listed a w h hf
    by_cases hnl : ∀ j, j < n → lz.contains j = false → listed.getD j false = true
    · exact wpAny_of_T _ _ _ _ (wpAnyT_lazy hc hN hQ hnw hnd hnz hst (htl w h.grow) (fuel + 1) listed a h hf hnl)
    · obtain ⟨i, his, hun, hbef⟩ := first_left (ops := ops) (listed := listed) (by omega)
      obtain ⟨o, ho, hpre⟩ := pre_ok listed a w i h his hun hbef
      refine ⟨fun h0 => ?_, fun i hi => ?_⟩
      · have := ready_of (md := md) ho hun hpre
        rw [h0] at this
        cases this
      · clear ho hpre o his hun hbef
        obtain ⟨hun, o, ho, hpre⟩ := mem_ready.1 hi
        have his := (Array.getElem?_eq_some_iff.1 ho).1
        have hin : i < n := by
          rcases Nat.lt_or_ge i n with hx | hx
          · exact hx
          · exfalso
            obtain ⟨o', ho', hdep, _⟩ := tail_spec (htail i hx his)
            rw [ho] at ho'
            obtain rfl := Option.some.inj ho'
            refine hnl fun j hj hjz => ?_
            rcases hdep j (by omega) with hdp | hz
            · rcases dep_listed ho hpre h.closed hdp with e | e
              · omega
              · exact e
            · rw [hz] at hjz; cases hjz
        have hs := hst i hin
        unfold StepOK at hs
        rw [ho] at hs
        obtain ⟨c, hK, hcs⟩ := h.step hN hok hin ho hpre (hs w h.grow)
        obtain ⟨o', d, ho', hd, _, _, _, hsl, _, _⟩ := head_spec (hok i hin)
        rw [ho] at ho'
        obtain rfl := Option.some.inj ho'
        have hnext : ∀ v w', Grow w w' → (Rs i).R w' v → (news.contains i = true → Fresh w w' v) → wpAny P md ops Q fuel (listed.setIfInBounds i true) (a.put o.dst v) w' := fun v w' hg hR hfr => by
          rw [hd]
          exact ih _ _ _ (h.put hpre hN hok hin ho hd his hun hg hR hfr) (by have := left_put (ops := ops) h.lsize his hun; omega)
        have hexec : execOp c.eval o = execOp a.eval o := same_exec (ops := ops) o hsl hcs
        have hwant := same_wanted o hcs
        unfold wpOp
        rw [ho]
        cases hz : lz.contains i with
        | true =>
          simp only [hz, if_true] at hK
          rw [hwant, hexec] at hK
          have hno : news.contains i = true → ∀ v w', Fresh w w' v := fun hb => absurd hb (by rw [hnz i hz]; exact Bool.false_ne_true)
          by_cases hw : Region.wanted o (yielded ops a.tmps) = true
          · rw [if_pos hw] at hK
            obtain ⟨v, hv, hR⟩ := hK
            simp only [hw, if_true]
            refine .inl ?_
            unfold Oper.wp
            rw [hv w fun _ _ => rfl]
            exact hnext v w (Grow.refl _) hR (fun hb => hno hb _ _)
          · rw [if_neg hw] at hK
            simp only [hw]
            exact hnext undef w (Grow.refl _) hK (fun hb => hno hb _ _)
        | false =>
          simp only [hz] at hK
          rw [hwant] at hK
          by_cases hw : Region.wanted o (yielded ops a.tmps) = true
          · simp only [hw, if_true, Bool.false_eq_true, if_false] at hK
            simp only [hw, if_true]
            refine .inl ?_
            unfold Yld at hK
            rw [hexec] at hK
            exact Yld.wp (Φ := fun v w' => Grow w w' ∧ (Rs i).R w' v ∧ (news.contains i = true → Fresh w w' v)) hK fun v w' ⟨hg, hR, hfr⟩ => hnext v w' hg hR hfr
          · simp only [hw, Bool.false_eq_true, if_false] at hK
            simp only [hw]
            exact hnext undef w (Grow.refl _) hK.1 (fun hb => absurd hb (by rw [hK.2]; exact Bool.false_ne_true))
end
end
end Go.Proofs.Ytngghjhmfpmilaa
