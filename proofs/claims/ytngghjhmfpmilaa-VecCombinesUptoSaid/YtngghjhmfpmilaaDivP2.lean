/- quot: take, back and the long division, in plain numbers. -/
import Derived.Test.YtngghjhmfpmilaaDivW
namespace Go.Proofs.Ytngghjhmfpmilaa
open Go.RowKit
section
variable {q y o N i over b c : Nat} {f0 f : Nat → Nat}
/-- take has come to word i of y -/
def TInv (q y o : Nat) (f0 f : Nat → Nat) (N i over b : Nat) : Prop :=
  Wf f N ∧ over < 18446744073709551616 ∧ b ≤ 1 ∧ val f N + q * (y % 2 ^ (64 * i)) * 2 ^ (64 * o) = val f0 N + (over + b) * 2 ^ (64 * (o + i)) ∧ ∀ j, (j < o ∨ o + i ≤ j) → f j = f0 j
theorem t_start (hw : Wf f0 N) : TInv q y o f0 f0 N 0 0 0 := ⟨hw, by omega, by omega, by simp [Nat.mod_one], fun _ _ => rfl⟩
theorem p64o (o i : Nat) : 2 ^ (64 * (o + (i + 1))) = 18446744073709551616 * 2 ^ (64 * (o + i)) := by rw [show o + (i + 1) = o + i + 1 from rfl]; exact p64 _
theorem t_lin {A F C S Q Z0 OV BO QW HB LO BB : Nat} (e1 : A + F = C + S) (e2 : C + Q = Z0 + (OV + BO)) (e3 : HB + LO = QW + OV) (e4 : S + LO + BO = F + BB) : A + (Q + QW) = Z0 + (HB + BB) := by omega
theorem upd_far {j k v : Nat} (h : j ≠ k) : upd f k v j = f j := by unfold upd; rw [if_neg h]
theorem t_step (h : TInv q y o f0 f N i over b) (hN : o + i < N) (hq : q < 18446744073709551616) :
    TInv q y o f0 (upd f (o + i) (sbW (f (o + i)) ((wd y i * q + over + 0) % 18446744073709551616) b)) N (i + 1) ((wd y i * q + over + 0) / 18446744073709551616) (sbB (f (o + i)) ((wd y i * q + over + 0) % 18446744073709551616) b) := by
  obtain ⟨h1, h2, h3, h4, h5⟩ := h
  obtain ⟨s1, s2, s3⟩ := sb_eq (x := f (o + i)) (y := (wd y i * q + over + 0) % 18446744073709551616) (z := b) (h1 _ hN) (Nat.mod_lt _ (by omega)) h3
  have hd := Nat.mod_add_div (wd y i * q + over + 0) 18446744073709551616
  have hlim : wd y i * q ≤ 18446744073709551615 * 18446744073709551615 := Nat.mul_le_mul (by have := wd_lt y i; omega) (by omega)
  generalize hs : sbW (f (o + i)) ((wd y i * q + over + 0) % 18446744073709551616) b = s at *
  generalize hb : sbB (f (o + i)) ((wd y i * q + over + 0) % 18446744073709551616) b = b' at *
  generalize hh : (wd y i * q + over + 0) / 18446744073709551616 = hi at *
  generalize hl : (wd y i * q + over + 0) % 18446744073709551616 = lo at *
  refine ⟨wf_upd _ _ _ _ h1 s1, by omega, s2, ?_, fun j hj => ?_⟩
  · have e1 := val_swap f (o + i) s N hN
    have eE : 2 ^ (64 * (o + i)) = 2 ^ (64 * i) * 2 ^ (64 * o) := by rw [← Nat.pow_add, ← Nat.mul_add, Nat.add_comm]
    have e3 : hi * 18446744073709551616 * 2 ^ (64 * (o + i)) + lo * 2 ^ (64 * (o + i)) = q * wd y i * 2 ^ (64 * (o + i)) + over * 2 ^ (64 * (o + i)) := by
      rw [← Nat.add_mul, ← Nat.add_mul]; congr 1; rw [Nat.mul_comm q]; omega
    have e4 : s * 2 ^ (64 * (o + i)) + lo * 2 ^ (64 * (o + i)) + b * 2 ^ (64 * (o + i)) = f (o + i) * 2 ^ (64 * (o + i)) + b' * 18446744073709551616 * 2 ^ (64 * (o + i)) := by
      rw [← Nat.add_mul, ← Nat.add_mul, ← Nat.add_mul]; congr 1; omega
    rw [Nat.add_mul] at h4
    have := t_lin e1 h4 e3 e4
    rw [p64o o i, mod_succ, Nat.mul_add q, Nat.add_mul (q * _), ← Nat.mul_assoc q, Nat.mul_assoc (q * wd y i), ← eE, ← Nat.mul_assoc (hi + b'), Nat.add_mul hi, Nat.add_mul]
    exact this
  · rw [upd_far (by omega)]; exact h5 j (by omega)
/-- what take has done -/
def TRes (q y o m : Nat) (f0 f : Nat → Nat) (N b : Nat) : Prop :=
  Wf f N ∧ b ≤ 1 ∧ val f N + q * y * 2 ^ (64 * o) = val f0 N + b * 2 ^ (64 * (o + m + 1)) ∧ ∀ j, (j < o ∨ o + m + 1 ≤ j) → f j = f0 j
theorem t_end (h : TInv q y o f0 f N (nw y) over b) (hN : o + nw y < N) : TRes q y o (nw y) f0 (upd f (o + nw y) (sbW (f (o + nw y)) over b)) N (sbB (f (o + nw y)) over b) := by
  obtain ⟨h1, h2, h3, h4, h5⟩ := h
  obtain ⟨s1, s2, s3⟩ := sb_eq (x := f (o + nw y)) (y := over) (z := b) (h1 _ hN) h2 h3
  generalize hs : sbW (f (o + nw y)) over b = s at *
  generalize hb : sbB (f (o + nw y)) over b = b' at *
  refine ⟨wf_upd _ _ _ _ h1 s1, s2, ?_, fun j hj => ?_⟩
  · have e1 := val_swap f (o + nw y) s N hN
    have e4 : s * 2 ^ (64 * (o + nw y)) + over * 2 ^ (64 * (o + nw y)) + b * 2 ^ (64 * (o + nw y)) = f (o + nw y) * 2 ^ (64 * (o + nw y)) + b' * 18446744073709551616 * 2 ^ (64 * (o + nw y)) := by
      rw [← Nat.add_mul, ← Nat.add_mul, ← Nat.add_mul]; congr 1; omega
    rw [Nat.mod_eq_of_lt (lt_nw y), Nat.add_mul] at h4
    rw [p64, ← Nat.mul_assoc b']
    omega
  · rw [upd_far (by omega)]; exact h5 j (by omega)
/-- back has come to word i of y -/
def BkInv (y o : Nat) (f0 f : Nat → Nat) (N i c : Nat) : Prop :=
  Wf f N ∧ c ≤ 1 ∧ val f N + c * 2 ^ (64 * (o + i)) = val f0 N + y % 2 ^ (64 * i) * 2 ^ (64 * o) ∧ ∀ j, (j < o ∨ o + i ≤ j) → f j = f0 j
theorem bk_start (hw : Wf f0 N) : BkInv y o f0 f0 N 0 0 := ⟨hw, by omega, by simp [Nat.mod_one], fun _ _ => rfl⟩
theorem bk_step (h : BkInv y o f0 f N i c) (hN : o + i < N) :
    BkInv y o f0 (upd f (o + i) ((f (o + i) + wd y i + c) % 18446744073709551616)) N (i + 1) ((f (o + i) + wd y i + c) / 18446744073709551616) := by
  obtain ⟨h1, h3, h4, h5⟩ := h
  have hf := h1 _ hN
  have hy := wd_lt y i
  have hd := Nat.mod_add_div (f (o + i) + wd y i + c) 18446744073709551616
  have hm := Nat.mod_lt (f (o + i) + wd y i + c) (show 0 < 18446744073709551616 by omega)
  have hc : (f (o + i) + wd y i + c) / 18446744073709551616 ≤ 1 := by omega
  generalize (f (o + i) + wd y i + c) % 18446744073709551616 = s at *
  generalize (f (o + i) + wd y i + c) / 18446744073709551616 = c' at *
  refine ⟨wf_upd _ _ _ _ h1 hm, hc, ?_, fun j hj => ?_⟩
  · have e1 := val_swap f (o + i) s N hN
    have eE : 2 ^ (64 * (o + i)) = 2 ^ (64 * i) * 2 ^ (64 * o) := by rw [← Nat.pow_add, ← Nat.mul_add, Nat.add_comm]
    have e4 : s * 2 ^ (64 * (o + i)) + c' * 18446744073709551616 * 2 ^ (64 * (o + i)) = f (o + i) * 2 ^ (64 * (o + i)) + wd y i * 2 ^ (64 * (o + i)) + c * 2 ^ (64 * (o + i)) := by
      rw [← Nat.add_mul, ← Nat.add_mul, ← Nat.add_mul]; congr 1; omega
    rw [p64o o i, mod_succ, Nat.add_mul (y % _), Nat.mul_assoc (wd y i), ← eE, ← Nat.mul_assoc c']
    omega
  · rw [upd_far (by omega)]; exact h5 j (by omega)
def BkRes (y o m : Nat) (f0 f : Nat → Nat) (N c : Nat) : Prop :=
  Wf f N ∧ val f N + c * 2 ^ (64 * (o + m + 1)) = val f0 N + y * 2 ^ (64 * o) ∧ ∀ j, (j < o ∨ o + m + 1 ≤ j) → f j = f0 j
theorem bk_end (h : BkInv y o f0 f N (nw y) c) (hN : o + nw y < N) : ∃ c', BkRes y o (nw y) f0 (upd f (o + nw y) ((f (o + nw y) + c) % 18446744073709551616)) N c' := by
  obtain ⟨h1, h3, h4, h5⟩ := h
  refine ⟨(f (o + nw y) + c) / 18446744073709551616, ?_⟩
  have hd := Nat.mod_add_div (f (o + nw y) + c) 18446744073709551616
  have hm := Nat.mod_lt (f (o + nw y) + c) (show 0 < 18446744073709551616 by omega)
  generalize (f (o + nw y) + c) % 18446744073709551616 = s at *
  generalize (f (o + nw y) + c) / 18446744073709551616 = c' at *
  refine ⟨wf_upd _ _ _ _ h1 hm, ?_, fun j hj => ?_⟩
  · have e1 := val_swap f (o + nw y) s N hN
    have e4 : s * 2 ^ (64 * (o + nw y)) + c' * 18446744073709551616 * 2 ^ (64 * (o + nw y)) = f (o + nw y) * 2 ^ (64 * (o + nw y)) + c * 2 ^ (64 * (o + nw y)) := by
      rw [← Nat.add_mul, ← Nat.add_mul]; congr 1; omega
    rw [Nat.mod_eq_of_lt (lt_nw y)] at h4
    rw [p64, ← Nat.mul_assoc c']
    omega
  · rw [upd_far (by omega)]; exact h5 j (by omega)
end
end Go.Proofs.Ytngghjhmfpmilaa
