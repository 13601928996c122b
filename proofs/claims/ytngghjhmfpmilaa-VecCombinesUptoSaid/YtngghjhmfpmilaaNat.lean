/- The contracts of package nat. -/
import Derived.Test.YtngghjhmfpmilaaVal
import Derived.Test.YtngghjhmfpmilaaInfo
namespace Go.Proofs.Ytngghjhmfpmilaa
open Go.RowKit

set_option maxHeartbeats 400000 in
theorem nLen (F : Nat → Prop) (v : Value) (x : Nat) (w : World) (h : NatAt F w v x) :
    Calls Try.prog 83 #[v] w fun e w' => e = .returned (.int .i64 (nw x)) ∧ Below w.heap.size w w' := by
  obtain ⟨A, c, rfl, _, _, _, _⟩ := h
  go_enter Try.func83, Try.ntmps83
  go_wp2
  go_ret
  exact ⟨rfl, (Below.refl _ _).alloc (Nat.le_refl _) _⟩

set_option maxHeartbeats 400000 in
theorem nZero (F : Nat → Prop) (v : Value) (x : Nat) (w : World) (h : NatAt F w v x) :
    Calls Try.prog 82 #[v] w fun e w' => e = .returned (.bool (decide (x = 0))) ∧ Below w.heap.size w w' := by
  obtain ⟨A, c, rfl, _, _, _, _⟩ := h
  have hd : ((nw x : Int) == 0) = decide (x = 0) := by
    rw [Bool.eq_iff_iff]; simp; exact nw_eq_zero x
  go_enter Try.func82, Try.ntmps82
  go_wp2
  go_ret
  exact ⟨rfl, (Below.refl _ _).alloc (Nat.le_refl _) _⟩

theorem ret_u64 {a b : Int} (h : a = b) : Ending.returned (.int .u64 a) = .returned (.int .u64 b) := by rw [h]
set_option maxHeartbeats 400000 in
theorem nWord (F : Nat → Prop) (v : Value) (x : Nat) (k : Int) (hk : 0 ≤ k) (w : World) (h : NatAt F w v x) :
    Calls Try.prog 92 #[v, .int .i64 k] w fun e w' => e = .returned (.int .u64 (wd x k.toNat : Nat)) ∧ Below w.heap.size w w' := by
  obtain ⟨A, c, rfl, h1, h2, hsm, h3⟩ := h
  obtain ⟨k, rfl⟩ := Int.eq_ofNat_of_zero_le hk
  rw [Int.toNat_natCast]
  unfold maxLen at h2
  by_cases hlt : k < nw x
  · obtain ⟨g, o, rfl, _, hl, hc⟩ := h3 k hlt
    clear h3
    go_enter Try.func92, Try.ntmps92
    go_wp2
    go_ret
    exact ⟨rfl, (Below.refl _ _).alloc (Nat.le_refl _) _⟩
  · have h0 := wd_high x k (by omega)
    have H := Lib.hid h0
    clear h0 h3
    go_enter Try.func92, Try.ntmps92
    go_wp2
    go_ret
    exact ⟨ret_u64 (by rw [H.out]; rfl), (Below.refl _ _).alloc (Nat.le_refl _) _⟩

def uintOk (x : Nat) : Bool := decide (x < 18446744073709551616)
def uintV (x : Nat) : Nat := if x < 18446744073709551616 then x else 0
theorem ret_ub {a b : Int} {x y : Bool} (h : a = b) (h' : x = y) : Ending.returned (.tuple #[.int .u64 a, .bool x]) = Ending.returned (.tuple #[.int .u64 b, .bool y]) := by rw [h, h']
set_option maxHeartbeats 400000 in
theorem nUint (F : Nat → Prop) (v : Value) (x : Nat) (w : World) (h : NatAt F w v x) :
    Calls Try.prog 97 #[v] w fun e w' => e = .returned (.tuple #[.int .u64 (uintV x), .bool (uintOk x)]) ∧ Below w.heap.size w w' := by
  have hn : nw x ≤ 1 ↔ x < 18446744073709551616 := nw_le x 1
  have h' := h
  obtain ⟨A, c, rfl, h1, h2, hsm, h3⟩ := h
  by_cases hx : x < 18446744073709551616
  · have hnx : (nw x : Int) ≤ 1 := by have := hn.2 hx; omega
    have e1 : uintV x = wd x 0 ∧ uintOk x = true := by
      unfold uintV uintOk wd
      exact ⟨by rw [if_pos hx]; simp; omega, decide_eq_true hx⟩
    have E := Lib.hid e1
    clear hn h2 h3 e1
    go_enter Try.func97, Try.ntmps97
    go_wp2_with fail
    refine (nWord F _ x 0 (by omega) _ (h'.keep (Keeps.alloc (Keeps.refl _ _) _))).mono ?_
    rintro e w1 ⟨rfl, hb⟩
    go_wp2_with fail
    go_ret2
    exact ⟨ret_ub (by rw [E.out.1]; first | done | rfl) E.out.2.symm, ((Below.refl _ _).alloc (Nat.le_refl _) _).trans (hb.mono (by simp))⟩
  · have hnx : (1 : Int) < nw x := by have := mt hn.1 hx; omega
    have e1 : uintV x = 0 ∧ uintOk x = false := by
      unfold uintV uintOk
      rw [if_neg hx]; simp [hx]
    have E := Lib.hid e1
    clear hn h2 h3 e1
    go_enter Try.func97, Try.ntmps97
    go_wp2_with fail
    go_ret2
    exact ⟨ret_ub (by rw [E.out.1]; rfl) E.out.2.symm, (Below.refl _ _).alloc (Nat.le_refl _) _⟩

theorem blen_nw (x : Nat) (h : x ≠ 0) : (Wd.blen x : Int) = 64 * ((nw x : Int) - 1) + (Wd.blen (wd x (nw x - 1)) : Nat) := by
  have hp := Wd.blen_pos x h
  have e : nw x = (Wd.blen x + 63) / 64 := rfl
  have hlt := lt_nw x
  have n1 : 1 ≤ nw x := by omega
  have e2 : wd x (nw x - 1) = x / 2 ^ (64 * (nw x - 1)) := by
    unfold wd
    apply Nat.mod_eq_of_lt
    rw [Nat.div_lt_iff_lt_mul (Nat.two_pow_pos _), show (18446744073709551616 : Nat) = 2 ^ 64 from rfl, ← Nat.pow_add]
    rw [show 64 + 64 * (nw x - 1) = 64 * nw x by omega]; exact hlt
  have hne : x / 2 ^ (64 * (nw x - 1)) ≠ 0 := by
    intro h0
    have h1 : x < 2 ^ (64 * (nw x - 1)) := by
      rcases Nat.div_eq_zero_iff.1 h0 with h0 | h0
      · exact absurd h0 (Nat.ne_of_gt (Nat.two_pow_pos _))
      · exact h0
    have := (nw_le x (nw x - 1)).2 h1
    omega
  have := Wd.blen_shift x (64 * (nw x - 1)) hne
  rw [e2, this]
  omega
theorem blen_wd (x i : Nat) : Wd.blen (wd x i) ≤ 64 := (Wd.blen_le _ 64).2 (wd_lt x i)
set_option maxHeartbeats 400000 in
theorem nBits (F : Nat → Prop) (v : Value) (x : Nat) (w : World) (h : NatAt F w v x) :
    Calls Try.prog 88 #[v] w fun e w' => e = .returned (.int .i64 (Wd.blen x)) ∧ Below w.heap.size w w' := by
  have hz := nw_eq_zero x
  obtain ⟨A, c, rfl, h1, h2, hsm, h3⟩ := h
  unfold maxLen at h2
  by_cases hx : x = 0
  · subst hx
    rw [nw_zero]
    clear h3 hz
    go_enter Try.func88, Try.ntmps88
    go_wp2_with fail
    go_ret
    exact ⟨rfl, (Below.refl _ _).alloc (Nat.le_refl _) _⟩
  · have hn0 : nw x ≠ 0 := fun h => hx (hz.1 h)
    have hb1 : ((nw x : Int) == 0) = false := by simp; omega
    have e := Lib.hid (blen_nw x hx)
    obtain ⟨g, o, rfl, _, hl, hc⟩ := h3 (nw x - 1) (by omega)
    have hb2 := blen_wd x (nw x - 1)
    have ei : ((nw x : Int) - 1) = ((nw x - 1 : Nat) : Int) := by omega
    have hsz : ((nw x - 1 : Nat) : Int) ≤ 1099511627776 := by have := hsm; unfold Small at this; omega
    have hb2' : (Wd.blen (wd x (nw x - 1)) : Int) ≤ 64 := by omega
    have hlt : ((nw x - 1 : Nat) : Int) < nw x := by omega
    clear h3 hz hx
    go_enter Try.func88, Try.ntmps88
    go_wp2_with fail
    refine (wLen _ (wd_lt x _) _).mono ?_
    rintro e1 w1 ⟨rfl, n1, rfl⟩
    go_wp2_with fail
    go_ret
    exact ⟨ret_i64 (by rw [e.out, ← ei]), below_drewN ((Below.refl _ _).alloc (Nat.le_refl _) _) _⟩

theorem add_plain (g o j : Nat) : (⟨g, o, none⟩ : Addr).add j = ⟨g, o + j, none⟩ := by
  unfold Addr.add
  by_cases h : j = 0 <;> simp [h]
theorem u64Info : (Try.prog.info? 105).map (fun i => (i.zero, i.size, i.bytes)) = some (some (.int .u64 0), 1, 8) := by kernel_rfl
def words (f : Nat → Nat) (n : Nat) : List Value := (List.range n).map fun i => Value.int .u64 (f i : Nat)
theorem words_length (f : Nat → Nat) (n : Nat) : (words f n).length = n := by simp [words]
theorem words_at (f : Nat → Nat) (n i : Nat) (h : i < n) : (words f n)[i]? = some (.int .u64 (f i : Nat)) := by simp [words, h]
/-- a row of the call's own holds these words -/
theorem own_slice {F : Nat → Prop} {w : World} {base n c g : Nat} {e : TypeId} {f : Nat → Nat} (h : w.ownsRow base e 1 (.slice (some ⟨g, 0, none⟩) n c) n (words f n)) (hF : ¬ F g) (hg : g < w.heap.size) : USlice F w (some ⟨g, 0, none⟩) n f := fun i hi =>
  ⟨g, 0, rfl, hF, hg, by rw [Nat.zero_add, h.cellAt i (by omega), words_at f n i hi]⟩

theorem words_one (f : Nat → Nat) (n : Nat) : ∀ u ∈ words f n, u.oneCell' = true := by
  intro u hu
  simp only [words, List.mem_map] at hu
  obtain ⟨_, _, rfl⟩ := hu
  rfl
theorem words_cells {F : Nat → Prop} {a : Addr} {n : Nat} {f : Nat → Nat} {w : World} {o : Obj} (h : USlice F w (some a) n f) : ∀ j u, (words f n)[j]? = some u → (w.alloc o).cell? (a.add j) = some u := by
  intro j u hu
  have hj : j < n := by
    have := (List.getElem?_eq_some_iff.1 hu).1
    rwa [words_length] at this
  obtain ⟨g, o', e, _, hl, hc⟩ := h j hj
  obtain rfl : a = ⟨g, o', none⟩ := Option.some.inj e
  rw [words_at f n j hj] at hu
  obtain rfl := Option.some.inj hu
  rw [add_plain, World.cell?_alloc_past _ _ _ hl]; exact hc
/-- what slices.Clone of words leaves -/
def Cloned (w : World) (n : Nat) (f : Nat → Nat) (v : Value) (w' : World) : Prop :=
  ∃ g c, v = .slice (some ⟨g, 0, none⟩) n c ∧ w'.ownsRow w.heap.size 105 1 v n (words f n) ∧ w.heap.size ≤ g ∧ g < w'.heap.size
set_option maxHeartbeats 400000 in
theorem clone_nil (w : World) :
    Calls Try.prog 100 #[.slice none 0 0] w fun e w' => e = .returned (.slice none 0 0) ∧ Below w.heap.size w w' := by
  have hnil := fun (w : World) (n c n' c' : Nat) => Lib.run_eql_slice_nil (P := Try.prog) w 29 105 none n c n' c' Try.underlying29
  go_enter Try.func100, Try.ntmps100
  go_wp2_with fail
  go_ret
  exact ⟨rfl, Below.refl _ _⟩
set_option maxHeartbeats 400000 in
theorem clone_some (F : Nat → Prop) (a : Addr) (n c : Nat) (f : Nat → Nat) (w : World) (h : USlice F w (some a) n f) (hn : n ≤ 1099511627776) :
    Calls Try.prog 100 #[.slice (some a) n c] w fun e w' => ∃ v, e = .returned v ∧ Cloned w n f v w' ∧ Below w.heap.size w w' := by
  obtain ⟨i0, hi0, hz0, hz1, hz2⟩ := infoParts u64Info
  have hnil := fun (w : World) (n c n' c' : Nat) => Lib.run_eql_slice_nil (P := Try.prog) w 29 105 (some a) n c n' c' Try.underlying29
  have HC := Lib.hid (words_cells (o := .cells #[] 105) h)
  have HO := Lib.hid (words_one f n)
  go_enter Try.func100, Try.ntmps100
  go_wp2_with (
    (at_builtin
     refine wpList_append_own _ rfl (.tmp 5) (.tmp 6) 29 rfl w.heap.size 105 i0 (.int .u64 0) 1 8 Try.underlying29 hi0 hz0 hz1 hz2 rfl (by decide) _ 0 [] rfl
       (World.ownsRow_lit (base := w.heap.size) (size := 1) w #[] 0 (Nat.le_refl _) (by unfold maxLen; omega) rfl) a n c (words f n) rfl ?c0 HC.out HO.out ?c3 ?c4 ?c5 ?_))
  case c0 => rw [words_length]; omega
  case c3 => unfold maxLen; omega
  case c4 => omega
  case c5 => simp
  intro v' w1 hown hgrow hnil'
  have hb : Below w.heap.size w w1 := ((Below.refl _ _).alloc (Nat.le_refl _) _).grown hgrow (by simp) (fun q hq => by simp [Value.ownBlock] at hq; omega)
  have hv : ∃ g c, v' = .slice (some ⟨g, 0, none⟩) n c ∧ w.heap.size ≤ g ∧ g < w1.heap.size := by
    rcases hown.2 with ⟨h1, _⟩ | ⟨g, cap, cur, hv, hb', hh, _⟩
    · exact absurd h1 hnil'
    · refine ⟨g, cap, hv, hb', ?_⟩
      rcases Nat.lt_or_ge g w1.heap.size with hl | hl
      · exact hl
      · rw [Array.getElem?_eq_none hl] at hh; cases hh
  clear hgrow hnil'
  have HOwn := Lib.hid hown
  have HV := Lib.hid hv
  clear hown hv hnil HC HO h
  go_wp2
  go_ret
  obtain ⟨g, c', hv, h1, h2⟩ := HV.out
  exact ⟨v', rfl, ⟨g, c', hv, HOwn.out, h1, h2⟩, hb⟩
theorem agg1 {a b : Value} (h : a = b) : Ending.returned (.agg #[a]) = .returned (.agg #[b]) := by rw [h]
theorem small_val (f : Nat → Nat) (n : Nat) (hw : Wf f n) (hn : n ≤ 1099511627776) : Small (val f n) := Nat.le_trans (nw_val f n hw) hn
theorem natAt_of {F : Nat → Prop} {w : World} {A : Option Addr} {n k c : Nat} {f : Nat → Nat} (h : USlice F w A n f) (hT : Typ w A n) (hw : Wf f n) (hk : k ≤ n) (hs : Small (val f n)) (hc : n ≤ c) (hc2 : c ≤ maxLen) (hv : val f k = val f n) (ht : nw (val f k) = k) : NatAt F w (.agg #[.slice A k c]) (val f n) := by
  have hw' : Wf f k := fun i hi => hw i (by omega)
  refine ⟨A, c, by rw [← hv, ht], by rw [← hv, ht]; omega, hc2, hs, fun i hi => ?_⟩
  rw [← hv, ht] at hi
  rw [← hv, wd_val f k i hw' hi]
  obtain ⟨g, o, e, hf, hl, hc⟩ := h i (by omega)
  exact ⟨g, o, e, ⟨hf, hT (by omega) g o e⟩, hl, hc⟩
set_option maxHeartbeats 400000 in
theorem nTrim (F : Nat → Prop) (A : Option Addr) (n c : Nat) (f : Nat → Nat) (w : World) (h : USlice F w A n f) (hT : Typ w A n) (hw : Wf f n) (hs : Small (val f n)) (hc : n ≤ c) (hc2 : c ≤ maxLen) :
    Calls Try.prog 93 #[.slice A n c] w fun e w' => ∃ v, e = .returned v ∧ NatAt F w' v (val f n) ∧ Below w.heap.size w w' := by
  have hc2' := hc2
  unfold maxLen at hc2
  have HT := Lib.hid hT
  clear hT
  go_enter Try.func93, Try.ntmps93
  go_wp2_with fail
  go_loop [0] (fun s => ∃ k, s = .slice A k c ∧ k ≤ n ∧ Hid (val f k = val f n)) (fun s => match s with | .slice _ k _ => k | _ => 0)
  case atStart => exact ⟨n, rfl, Nat.le_refl _, rfl⟩
  case round =>
    obtain ⟨k, rfl, hk, hv⟩ := hrel
    by_cases h0 : k = 0
    · subst h0
      have hv' := Lib.hid (natAt_of (h.keep ((Keeps.refl _ _).alloc (.cells #[.slice A 0 c] 31))) (HT.out.alloc _) hw (Nat.zero_le _) hs hc hc2' hv.out ((nw_eq_zero _).2 rfl))
      clear hv h
      go_wp2_with fail
      exact bodyPost_ret (v := .agg #[.slice A 0 c]) (by simp [results, Try.results93, go_sem]) rfl ⟨_, rfl, hv'.out, (Below.refl _ _).alloc (Nat.le_refl _) _⟩
    · obtain ⟨g, o, rfl, hF, hl, hcell⟩ := h (k - 1) (by omega)
      have hcell' : (w.alloc (.cells #[.slice none 0 0] 31)).cell? ⟨g, o + (k - 1), none⟩ = some (.int .u64 (f (k - 1) : Nat)) := by
        rw [World.cell?_alloc_past _ _ _ hl]; exact hcell
      have ek : ((k : Int) - 1) = ((k - 1 : Nat) : Int) := by omega
      have hkk : 0 < k := by omega
      by_cases hz : f (k - 1) = 0
      · have hz' : ((f (k - 1) : Int) == 0) = true := by simp; exact hz
        have HH := Lib.hid h
        clear h
        go_wp2_with fail
        go_round
        case rel =>
          refine ⟨k - 1, rfl, by omega, ?_⟩
          have e : val f k = val f (k - 1) := by
            have := val_top f (k - 1) hz
            rwa [show k - 1 + 1 = k by omega] at this
          exact e.symm.trans hv.out
        case measure => show k - 1 < k; omega
      · have hz' : ((f (k - 1) : Int) == 0) = false := by simp; exact hz
        have ht : nw (val f k) = k := by
          have := nw_top f (k - 1) (fun i hi => hw i (by omega)) hz
          rwa [show k - 1 + 1 = k by omega] at this
        have hv' := Lib.hid (natAt_of (h.keep ((Keeps.refl _ _).alloc (.cells #[.slice (some ⟨g, o, none⟩) k c] 31))) (HT.out.alloc _) hw hk hs hc hc2' hv.out ht)
        clear hv h ht
        go_wp2_with fail
        exact bodyPost_ret (v := .agg #[.slice (some ⟨g, o, none⟩) k c]) (by simp [results, Try.results93, go_sem]) rfl ⟨_, rfl, hv'.out, (Below.refl _ _).alloc (Nat.le_refl _) _⟩

theorem cloned_slice {w : World} {n : Nat} {f : Nat → Nat} {v : Value} {w' : World} (h : Cloned w n f v w') : ∃ g c, v = .slice (some ⟨g, 0, none⟩) n c ∧ n ≤ c ∧ c ≤ maxLen ∧ w.heap.size ≤ g ∧ g < w'.heap.size ∧ (∀ F : Nat → Prop, ¬ F g → USlice F w' (some ⟨g, 0, none⟩) n f) ∧ w'.ownsRow w.heap.size 105 1 v n (words f n) := by
  obtain ⟨g, c, rfl, hown, h1, h2⟩ := h
  have hcc : n ≤ c ∧ c ≤ maxLen := by
    rcases hown.2 with ⟨h', _⟩ | ⟨g', cap', cur, h', _, _, hnc, hcm, _⟩
    · cases h'
    · simp only [Value.slice.injEq] at h'
      obtain ⟨_, _, rfl⟩ := h'
      exact ⟨hnc, hcm⟩
  exact ⟨g, c, rfl, hcc.1, hcc.2, h1, h2, fun F hF => own_slice hown hF h2, hown⟩
theorem owns_typ {w : World} {base n c g : Nat} {xs : List Value} (h : w.ownsRow base 105 1 (.slice (some ⟨g, 0, none⟩) n c) n xs) : Typ w (some ⟨g, 0, none⟩) n := by
  intro _ g' o e
  simp only [Option.some.injEq, Addr.mk.injEq, and_true] at e
  obtain ⟨rfl, _⟩ := e
  rcases h.2 with ⟨h', _⟩ | ⟨g', cap', cur, h', _, hh, _⟩
  · cases h'
  · simp only [Value.slice.injEq, Option.some.injEq, Addr.mk.injEq, and_true] at h'
    obtain ⟨⟨rfl, _⟩, _⟩ := h'
    exact ⟨cur, _, hh⟩
/-- a slice of words: at nil it is nil as Go has it -/
def Nilled (A : Option Addr) (n c : Nat) : Prop := A = none → n = 0 ∧ c = 0
theorem orSub {F : Nat → Prop} {b : Nat} : ∀ k, F k → (fun k => F k ∨ k = b) k := fun _ h => .inl h
/-- the last step of a function that hands back a nat.Nat in its own variable b -/
theorem natRet {F : Nat → Prop} {w : World} {b : Nat} {v u : Value} {x : Nat} (h : NatAt (fun k => F k ∨ k = b) w v x) : NatAt F (w.setCell ⟨b, 0, none⟩ u) v x :=
  (h.keep ((Keeps.refl _ _).set (.inl (.inr rfl)) _)).sub orSub
set_option maxHeartbeats 400000 in
theorem nOf (F : Nat → Prop) (A : Option Addr) (n c : Nat) (f : Nat → Nat) (w : World) (hF : Lows F w) (h : USlice F w A n f) (hw : Wf f n) (hn : n ≤ 1099511627776) (hnil : Nilled A n c) :
    Calls Try.prog 87 #[.slice A n c] w fun e w' => ∃ v, e = .returned v ∧ NatAt F w' v (val f n) ∧ Below w.heap.size w w' := by
  have l0 := Blk.new w 31 #[.slice none 0 0]
  have C := Cur.start (Own F [w.heap.size]) w
  rcases A with _ | a
  · obtain ⟨rfl, rfl⟩ := hnil rfl
    go_enter Try.func87, Try.ntmps87
    go_wp2_with fail
    refine (clone_nil _).mono ?_
    rintro e wM ⟨rfl, hb⟩
    (obtain ⟨K, C⟩ := Cur.step C (by (repeat (first | with_reducible exact Keeps.refl _ _ | with_reducible assumption | with_reducible refine Keeps.drew ?_ | with_reducible refine Keeps.drewN ?_ _ | with_reducible refine Keeps.alloc ?_ _ | with_reducible refine Keeps.set ?_ (by first | (simp [Own]; done) | exact .inr (by first | (simp; done) | (simp; omega) | omega)) _ | with_reducible refine Keeps.trans ?_ (by assumption)))) hb; have BW := below_next (w := w) (by (repeat (first | with_reducible exact Below.refl _ _ | with_reducible assumption | with_reducible refine Below.drew ?_ | with_reducible refine below_drewN ?_ _ | with_reducible refine Below.alloc ?_ (by first | exact Nat.le_refl _ | (simp; done) | (simp; omega) | omega) _ | with_reducible refine Below.setCell ?_ (by first | exact Nat.le_refl _ | (simp; done) | (simp; omega) | omega) _))) hb; have l0 := Blk.next l0 (fun h => by (repeat (first | with_reducible assumption | with_reducible refine Blk.drew ?_ | with_reducible refine Blk.drewN ?_ _ | with_reducible refine Blk.alloc ?_ _ | with_reducible refine Blk.far ?_ (by simp; try omega) _))) hb; have c0 := l0.cell; have f0 := l0.frozen; have z0 := l0.lt)
    go_wp2_with fail
    (refine (nTrim (Own F [w.heap.size]) none 0 0 f wM (fun i hi => by omega) (fun h => absurd h (by omega)) hw (small_val f 0 hw (by omega)) (by omega) (by unfold maxLen; omega)).mono ?_; rintro e wM ⟨v', rfl, hr, hb⟩; obtain ⟨A', n', c', rfl⟩ := hr.form; obtain ⟨K, C⟩ := Cur.step C (by (repeat (first | with_reducible exact Keeps.refl _ _ | with_reducible assumption | with_reducible refine Keeps.drew ?_ | with_reducible refine Keeps.drewN ?_ _ | with_reducible refine Keeps.alloc ?_ _ | with_reducible refine Keeps.set ?_ (by first | (simp [Own]; done) | exact .inr (by first | (simp; done) | (simp; omega) | omega)) _ | with_reducible refine Keeps.trans ?_ (by assumption)))) hb; have BW := below_next (w := w) (by (repeat (first | with_reducible exact Below.refl _ _ | with_reducible assumption | with_reducible refine Below.drew ?_ | with_reducible refine below_drewN ?_ _ | with_reducible refine Below.alloc ?_ (by first | exact Nat.le_refl _ | (simp; done) | (simp; omega) | omega) _ | with_reducible refine Below.setCell ?_ (by first | exact Nat.le_refl _ | (simp; done) | (simp; omega) | omega) _))) hb; have l0 := Blk.next l0 (fun h => by (repeat (first | with_reducible assumption | with_reducible refine Blk.drew ?_ | with_reducible refine Blk.drewN ?_ _ | with_reducible refine Blk.alloc ?_ _ | with_reducible refine Blk.far ?_ (by simp; try omega) _))) hb; have c0 := l0.cell; have f0 := l0.frozen; have z0 := l0.lt)
    have H := Lib.hid hr
    clear hr
    go_wp2_with fail
    exact bodyPost_ret (v := .agg #[.slice A' n' c']) (by simp [results, Try.results87, go_sem, c0]) rfl ⟨_, rfl, (H.out.keep (by (repeat (first | with_reducible exact Keeps.refl _ _ | with_reducible assumption | with_reducible refine Keeps.drew ?_ | with_reducible refine Keeps.drewN ?_ _ | with_reducible refine Keeps.alloc ?_ _ | with_reducible refine Keeps.set ?_ (by first | (simp [Own]; done) | exact .inr (by first | (simp; done) | (simp; omega) | omega)) _ | with_reducible refine Keeps.trans ?_ (by assumption))))).sub Own.sub, by (repeat (first | with_reducible exact Below.refl _ _ | with_reducible assumption | with_reducible refine Below.drew ?_ | with_reducible refine below_drewN ?_ _ | with_reducible refine Below.alloc ?_ (by first | exact Nat.le_refl _ | (simp; done) | (simp; omega) | omega) _ | with_reducible refine Below.setCell ?_ (by first | exact Nat.le_refl _ | (simp; done) | (simp; omega) | omega) _))⟩
  · go_enter Try.func87, Try.ntmps87
    go_wp2_with fail
    refine (clone_some F a n c f _ (h.keep (by (repeat (first | with_reducible exact Keeps.refl _ _ | with_reducible assumption | with_reducible refine Keeps.drew ?_ | with_reducible refine Keeps.drewN ?_ _ | with_reducible refine Keeps.alloc ?_ _ | with_reducible refine Keeps.set ?_ (by first | (simp [Own]; done) | exact .inr (by first | (simp; done) | (simp; omega) | omega)) _ | with_reducible refine Keeps.trans ?_ (by assumption))))) hn).mono ?_
    rintro e wM ⟨v0, rfl, hcl, hb⟩
    obtain ⟨g, c0', rfl, hn1, hn2, hg, hg2, hsl, hor⟩ := cloned_slice hcl
    have HTy := Lib.hid (owns_typ hor)
    clear hor
    have hsl := hsl (Own F [w.heap.size]) (Lows.new (Lows.own hF (by first | (simp; done) | (simp; omega) | omega) (by first | (simp; done) | (simp; omega) | omega)) hg)
    (obtain ⟨K, C⟩ := Cur.step C (by (repeat (first | with_reducible exact Keeps.refl _ _ | with_reducible assumption | with_reducible refine Keeps.drew ?_ | with_reducible refine Keeps.drewN ?_ _ | with_reducible refine Keeps.alloc ?_ _ | with_reducible refine Keeps.set ?_ (by first | (simp [Own]; done) | exact .inr (by first | (simp; done) | (simp; omega) | omega)) _ | with_reducible refine Keeps.trans ?_ (by assumption)))) hb; have BW := below_next (w := w) (by (repeat (first | with_reducible exact Below.refl _ _ | with_reducible assumption | with_reducible refine Below.drew ?_ | with_reducible refine below_drewN ?_ _ | with_reducible refine Below.alloc ?_ (by first | exact Nat.le_refl _ | (simp; done) | (simp; omega) | omega) _ | with_reducible refine Below.setCell ?_ (by first | exact Nat.le_refl _ | (simp; done) | (simp; omega) | omega) _))) hb; have l0 := Blk.next l0 (fun h => by (repeat (first | with_reducible assumption | with_reducible refine Blk.drew ?_ | with_reducible refine Blk.drewN ?_ _ | with_reducible refine Blk.alloc ?_ _ | with_reducible refine Blk.far ?_ (by simp; try omega) _))) hb; have c0 := l0.cell; have f0 := l0.frozen; have z0 := l0.lt)
    have hsl := Lib.hid hsl
    clear hcl
    go_wp2_with fail
    (refine (nTrim (Own F [w.heap.size]) (some ⟨g, 0, none⟩) n c0' f wM hsl.out HTy.out hw (small_val f n hw hn) hn1 hn2).mono ?_; rintro e wM ⟨v', rfl, hr, hb⟩; obtain ⟨A', n', c', rfl⟩ := hr.form; obtain ⟨K, C⟩ := Cur.step C (by (repeat (first | with_reducible exact Keeps.refl _ _ | with_reducible assumption | with_reducible refine Keeps.drew ?_ | with_reducible refine Keeps.drewN ?_ _ | with_reducible refine Keeps.alloc ?_ _ | with_reducible refine Keeps.set ?_ (by first | (simp [Own]; done) | exact .inr (by first | (simp; done) | (simp; omega) | omega)) _ | with_reducible refine Keeps.trans ?_ (by assumption)))) hb; have BW := below_next (w := w) (by (repeat (first | with_reducible exact Below.refl _ _ | with_reducible assumption | with_reducible refine Below.drew ?_ | with_reducible refine below_drewN ?_ _ | with_reducible refine Below.alloc ?_ (by first | exact Nat.le_refl _ | (simp; done) | (simp; omega) | omega) _ | with_reducible refine Below.setCell ?_ (by first | exact Nat.le_refl _ | (simp; done) | (simp; omega) | omega) _))) hb; have l0 := Blk.next l0 (fun h => by (repeat (first | with_reducible assumption | with_reducible refine Blk.drew ?_ | with_reducible refine Blk.drewN ?_ _ | with_reducible refine Blk.alloc ?_ _ | with_reducible refine Blk.far ?_ (by simp; try omega) _))) hb; have c0 := l0.cell; have f0 := l0.frozen; have z0 := l0.lt)
    have H := Lib.hid hr
    clear hr
    go_wp2_with fail
    exact bodyPost_ret (v := .agg #[.slice A' n' c']) (by simp [results, Try.results87, go_sem, c0]) rfl ⟨_, rfl, (H.out.keep (by (repeat (first | with_reducible exact Keeps.refl _ _ | with_reducible assumption | with_reducible refine Keeps.drew ?_ | with_reducible refine Keeps.drewN ?_ _ | with_reducible refine Keeps.alloc ?_ _ | with_reducible refine Keeps.set ?_ (by first | (simp [Own]; done) | exact .inr (by first | (simp; done) | (simp; omega) | omega)) _ | with_reducible refine Keeps.trans ?_ (by assumption))))).sub Own.sub, by (repeat (first | with_reducible exact Below.refl _ _ | with_reducible assumption | with_reducible refine Below.drew ?_ | with_reducible refine below_drewN ?_ _ | with_reducible refine Below.alloc ?_ (by first | exact Nat.le_refl _ | (simp; done) | (simp; omega) | omega) _ | with_reducible refine Below.setCell ?_ (by first | exact Nat.le_refl _ | (simp; done) | (simp; omega) | omega) _))⟩
def cmpV (x y : Int) : Int := if x < y then -1 else if x = y then 0 else 1
set_option maxHeartbeats 400000 in
theorem cmpInt (x y : Int) (w : World) :
    Calls Try.prog 89 #[.int .i64 x, .int .i64 y] w fun e w' => e = .returned (.int .i64 (cmpV x y)) ∧ w = w' := by
  by_cases h1 : x < y
  · have e : Hid (cmpV x y = -1) := by show _ = _; simp [cmpV, h1]
    have hx : (x != x) = false := by simp
    have hy : (y != y) = false := by simp
    go_enter Try.func89, Try.ntmps89
    go_wp2
    go_ret
    exact ⟨ret_i64 e.out.symm, rfl⟩
  by_cases h2 : y < x
  · have e : Hid (cmpV x y = 1) := by show _ = _; unfold cmpV; rw [if_neg h1, if_neg (by omega)]
    have h1' : y ≤ x := by omega
    clear h1
    go_enter Try.func89, Try.ntmps89
    go_wp2
    go_ret
    exact ⟨ret_i64 e.out.symm, rfl⟩
  obtain rfl : x = y := by omega
  have e : Hid (cmpV x x = 0) := by show _ = _; simp [cmpV]
  clear h1 h2
  go_enter Try.func89, Try.ntmps89
  go_wp2
  go_ret
  exact ⟨ret_i64 e.out.symm, rfl⟩
set_option maxHeartbeats 400000 in
theorem cmpU64 (x y : Int) (w : World) :
    Calls Try.prog 90 #[.int .u64 x, .int .u64 y] w fun e w' => e = .returned (.int .i64 (cmpV x y)) ∧ w = w' := by
  by_cases h1 : x < y
  · have e : Hid (cmpV x y = -1) := by show _ = _; simp [cmpV, h1]
    go_enter Try.func90, Try.ntmps90
    go_wp2
    go_ret
    exact ⟨ret_i64 e.out.symm, rfl⟩
  by_cases h2 : y < x
  · have e : Hid (cmpV x y = 1) := by show _ = _; unfold cmpV; rw [if_neg h1, if_neg (by omega)]
    have h1' : y ≤ x := by omega
    clear h1
    go_enter Try.func90, Try.ntmps90
    go_wp2
    go_ret
    exact ⟨ret_i64 e.out.symm, rfl⟩
  obtain rfl : x = y := by omega
  have e : Hid (cmpV x x = 0) := by show _ = _; simp [cmpV]
  clear h1 h2
  go_enter Try.func90, Try.ntmps90
  go_wp2
  go_ret
  exact ⟨ret_i64 e.out.symm, rfl⟩
theorem cmpV_eq (x : Int) : cmpV x x = 0 := by simp [cmpV]
theorem cmpV_ne (x y : Int) (h : x ≠ y) : cmpV x y ≠ 0 := by unfold cmpV; split <;> simp_all
theorem hi_step (x k : Nat) : x / 2 ^ (64 * k) = x / 2 ^ (64 * (k + 1)) * 18446744073709551616 + wd x k := by
  unfold wd
  rw [p64, Nat.mul_comm 18446744073709551616, ← Nat.div_div_eq_div_mul]
  omega
theorem cmp_hi (x y k : Nat) (h : x / 2 ^ (64 * (k + 1)) = y / 2 ^ (64 * (k + 1))) (hne : wd x k ≠ wd y k) : cmpV x y = cmpV (wd x k : Nat) (wd y k : Nat) := by
  have hx := hi_step x k
  have hy := hi_step y k
  rw [h] at hx
  have key : ∀ a b : Nat, a / 2 ^ (64 * k) < b / 2 ^ (64 * k) → a < b := fun a b hab => by
    rcases Nat.lt_or_ge a b with h | h
    · exact h
    · have h2 : b / 2 ^ (64 * k) ≤ a / 2 ^ (64 * k) := Nat.div_le_div_right h
      omega
  unfold cmpV
  by_cases hlt : wd x k < wd y k
  · have := key x y (by omega)
    rw [if_pos (by omega), if_pos (by omega)]
  · have := key y x (by omega)
    rw [if_neg (by omega), if_neg (by omega), if_neg (by omega), if_neg (by omega)]
theorem cmp_nw (x y : Nat) (h : nw x ≠ nw y) : cmpV x y = cmpV (nw x : Nat) (nw y : Nat) := by
  have key : ∀ a b : Nat, nw a < nw b → a < b := fun a b hab => by
    rcases Nat.lt_or_ge a b with h | h
    · exact h
    · have := lt_nw a
      have h2 := (nw_le b (nw a)).2 (by omega)
      omega
  unfold cmpV
  by_cases hlt : nw x < nw y
  · have := key x y hlt
    rw [if_pos (by omega), if_pos (by omega)]
  · have := key y x (by omega)
    rw [if_neg (by omega), if_neg (by omega), if_neg (by omega), if_neg (by omega)]
set_option maxHeartbeats 1000000 in
theorem nCmp (F : Nat → Prop) (va vb : Value) (x y : Nat) (w : World) (ha : NatAt F w va x) (hb : NatAt F w vb y) :
    Calls Try.prog 75 #[va, vb] w fun e w' => e = .returned (.int .i64 (cmpV x y)) ∧ Below w.heap.size w w' := by
  obtain ⟨A, c, rfl, _, _, hsx, hwx⟩ := ha
  obtain ⟨B, d, rfl, _, _, hsy, hwy⟩ := hb
  unfold Small at hsx hsy
  by_cases hn : nw x = nw y
  · have e0 : cmpV (nw x : Nat) (nw y : Nat) = 0 := by rw [hn]; exact cmpV_eq _
    have HW := Lib.hid hwx
    have HY : Hid (WordsAt F w B y) := hwy
    rw [← hn] at e0 hsy ⊢
    have HN := Lib.hid hn
    clear hwx hwy hn
    go_enter Try.func75, Try.ntmps75
    go_wp2_with fail
    refine (cmpInt _ _ _).mono ?_
    rintro e w1 ⟨rfl, rfl⟩
    rw [e0]
    clear e0
    go_wp2_with fail
    go_loopw [6] (fun i wr => ∃ k m : Nat, i = .int .i64 ((k : Int) - 1) ∧ k ≤ nw x ∧ Hid (x / 2 ^ (64 * k) = y / 2 ^ (64 * k)) ∧ wr = (((w.alloc (.cells #[.slice A (nw x) c] 31)).alloc (.cells #[.slice B (nw x) d] 31)).drewN m)) (fun i wr => (intOf i + 1).toNat)
    case atStart =>
      refine ⟨nw x, 0, rfl, Nat.le_refl _, ?_, rfl⟩
      have h1 := lt_nw x
      have h2 := lt_nw y
      rw [← HN.out] at h2
      show _ = _
      rw [Nat.div_eq_of_lt h1, Nat.div_eq_of_lt h2]
    case round =>
      obtain ⟨k, m, rfl, hk, he, rfl⟩ := hrel
      by_cases h0 : k = 0
      · subst h0
        have hz : x = y := by have := he.out; simpa using this
        have hfin : Hid (cmpV x y = 0) := by show _ = _; rw [hz]; exact cmpV_eq _
        clear hz
        go_wp2_with fail
        go_ret
        exact ⟨ret_i64 hfin.out.symm, by (repeat (first | with_reducible exact Below.refl _ _ | with_reducible assumption | with_reducible refine Below.drew ?_ | with_reducible refine below_drewN ?_ _ | with_reducible refine Below.alloc ?_ (by first | exact Nat.le_refl _ | (simp; done) | (simp; omega) | omega) _ | with_reducible refine Below.setCell ?_ (by first | exact Nat.le_refl _ | (simp; done) | (simp; omega) | omega) _))⟩
      · obtain ⟨g, o, rfl, _, hl, hc⟩ := HW.out (k - 1) (by omega)
        obtain ⟨g', o', rfl, _, hl', hc'⟩ := HY.out (k - 1) (by rw [← HN.out]; omega)
        have ek : ((k : Int) - 1) = ((k - 1 : Nat) : Int) := by omega
        have hk1 : ((k - 1 : Nat) : Int) < nw x := by omega
        have hk0 : 0 ≤ ((k - 1 : Nat) : Int) := by omega
        rw [ek]
        by_cases hq : wd x (k - 1) = wd y (k - 1)
        · have e1 : cmpV (wd x (k - 1) : Nat) (wd y (k - 1) : Nat) = 0 := by rw [hq]; exact cmpV_eq _
          have HQ := Lib.hid hq
          clear hq
          go_wp2_with fail
          go_quiet ((go_at_call 90; exact quiet_add_left (cmpU64 _ _ _)))
          go_wp2_with fail
          go_roundw
          case rel =>
            refine ⟨k - 1, _, rfl, by omega, ?_, rfl⟩
            have h1 := hi_step x (k - 1)
            have h2 := hi_step y (k - 1)
            rw [show k - 1 + 1 = k by omega] at h1 h2
            show _ = _
            rw [h1, h2, he.out, HQ.out]
          case measure => simp [intOf]
        · have e1 := cmpV_ne (wd x (k - 1) : Nat) (wd y (k - 1) : Nat) (by omega)
          have e2 : (cmpV (wd x (k - 1) : Nat) (wd y (k - 1) : Nat) != 0) = true := by simpa using e1
          have hfin : Hid (cmpV x y = cmpV (wd x (k - 1) : Nat) (wd y (k - 1) : Nat)) := cmp_hi x y (k - 1) (by rw [show k - 1 + 1 = k by omega]; exact he.out) hq
          clear e1
          go_wp2_with fail
          go_quiet ((go_at_call 90; exact quiet_add_left (cmpU64 _ _ _)))
          go_wp2_with fail
          go_ret
          exact ⟨ret_i64 hfin.out.symm, by (repeat (first | with_reducible exact Below.refl _ _ | with_reducible assumption | with_reducible refine Below.drew ?_ | with_reducible refine below_drewN ?_ _ | with_reducible refine Below.alloc ?_ (by first | exact Nat.le_refl _ | (simp; done) | (simp; omega) | omega) _ | with_reducible refine Below.setCell ?_ (by first | exact Nat.le_refl _ | (simp; done) | (simp; omega) | omega) _))⟩
  · have e1 := cmpV_ne (nw x : Nat) (nw y : Nat) (by omega)
    have e2 : (cmpV (nw x : Nat) (nw y : Nat) != 0) = true := by simpa using e1
    have hfin : Hid (cmpV x y = cmpV (nw x : Nat) (nw y : Nat)) := cmp_nw x y hn
    clear e1 hn hwx hwy
    go_enter Try.func75, Try.ntmps75
    go_wp2_with fail
    refine (cmpInt _ _ _).mono ?_
    rintro e w1 ⟨rfl, rfl⟩
    go_wp2_with fail
    go_ret
    exact ⟨ret_i64 hfin.out.symm, by (repeat (first | with_reducible exact Below.refl _ _ | with_reducible assumption | with_reducible refine Below.drew ?_ | with_reducible refine below_drewN ?_ _ | with_reducible refine Below.alloc ?_ (by first | exact Nat.le_refl _ | (simp; done) | (simp; omega) | omega) _ | with_reducible refine Below.setCell ?_ (by first | exact Nat.le_refl _ | (simp; done) | (simp; omega) | omega) _))⟩
/-- a block of words -/
def wa (f : Nat → Nat) (n : Nat) : Array Value := (words f n).toArray
def upd (f : Nat → Nat) (k v : Nat) (i : Nat) : Nat := if i = k then v else f i
theorem wa_at (f : Nat → Nat) (n i : Nat) (h : i < n) : (wa f n)[i]? = some (.int .u64 (f i : Nat)) := by
  unfold wa; simp [words, h]
theorem wa_upd (f : Nat → Nat) (n k v : Nat) : (wa f n).setIfInBounds k (.int .u64 (v : Nat)) = wa (upd f k v) n := by
  apply Array.ext_getElem?
  intro i
  rw [Array.getElem?_setIfInBounds]
  by_cases hi : i < n
  · rw [wa_at _ _ _ hi, wa_at _ _ _ hi]
    unfold upd
    by_cases h : k = i
    · subst h; rw [if_pos rfl, if_pos rfl]; simp [wa, words, hi]
    · rw [if_neg h, if_neg (fun e => h e.symm)]
  · have e : ∀ g, (wa g n)[i]? = none := fun g => by unfold wa; simp [words]; omega
    rw [e, e]
    split
    · split
      · rename_i h1 h2
        subst h1
        exfalso; unfold wa at h2; simp [words] at h2; omega
      · rfl
    · rfl
theorem wf_upd (f : Nat → Nat) (n k v : Nat) (h : Wf f n) (hv : v < 18446744073709551616) : Wf (upd f k v) n := fun i hi => by
  unfold upd; split
  · exact hv
  · exact h i hi
theorem val_upd (f : Nat → Nat) (k v : Nat) : val (upd f k v) k = val f k := val_congr _ _ _ fun i hi => by unfold upd; rw [if_neg (by omega)]
theorem val_upd_succ (f : Nat → Nat) (k v : Nat) : val (upd f k v) (k + 1) = val f k + v * 2 ^ (64 * k) := by rw [val, val_upd]; unfold upd; rw [if_pos rfl]
theorem made_wa (n : Nat) : madeCells (Value.int .u64 0).cells (n * 1) = wa (fun _ => 0) n := by
  have := toList_madeCells_one (.int .u64 0) n
  rw [Nat.mul_one]
  apply Array.toList_inj.1
  refine this.trans ?_
  unfold wa words
  apply List.ext_getElem? ; intro i
  by_cases hi : i < n <;> simp [hi]
theorem mk64 (n : Nat) (hn : n ≤ 35184372088832) (w : World) :
    (Instr.makeSlice 29 (.int .i64 (n : Int)) (.int .i64 (n : Int))).run Try.prog w = .ok (.slice (some ⟨w.heap.size, 0, none⟩) n n) (w.alloc (.cells (wa (fun _ => 0) n) 105)) := by
  obtain ⟨i0, hi0, hz0, hz1, hz2⟩ := infoParts u64Info
  have := run_make (P := Try.prog) w 29 105 i0 (.int .u64 0) Try.underlying29 hi0 hz0 .i64 .i64 n n (by omega) (Int.le_refl _) (by rw [hz2]; omega) (by omega)
  rw [Int.toNat_natCast, hz1, made_wa] at this
  exact this
end Go.Proofs.Ytngghjhmfpmilaa
