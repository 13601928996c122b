/- The contracts of package word: what each function answers. -/
import Derived.Test.YtlgbhpdblpekfaaGreatProg
import Derived.Test.YtlgbhpdblpekfaaGreatWd
import Derived.WalkKit
import Derived.WalkLawsBesides
import Derived.Lib.Hide
import Derived.Outline
import Derived.Deep.QuietTactic
import Derived.BigQuiet
namespace Go.Proofs.YtlgbhpdblpekfaaGreat
open Go.RowKit

def W64 (x : Int) : Prop := 0 ≤ x ∧ x < 18446744073709551616
def AddRel (x y c s d : Int) : Prop := W64 s ∧ 0 ≤ d ∧ d ≤ 1 ∧ s + 18446744073709551616 * d = x + y + c
def SubRel (x y c s d : Int) : Prop := W64 s ∧ 0 ≤ d ∧ d ≤ 1 ∧ s - 18446744073709551616 * d = x - y - c
def MulRel (x y a b hi lo : Int) : Prop := W64 hi ∧ W64 lo ∧ hi * 18446744073709551616 + lo = x * y + a + b
def DivRel (hi lo y q r : Int) : Prop := W64 q ∧ 0 ≤ r ∧ r < y ∧ q * y + r = hi * 18446744073709551616 + lo
/-- the world is as it was, but for draws -/
def Drawn (w w' : World) : Prop := ∃ n, w' = w.drewN n

theorem addRel (x y c : Int) (hx : W64 x) (hy : W64 y) (h0 : 0 ≤ c) (h1 : c ≤ 1) :
    AddRel x y c (IntKind.u64.wrap (IntKind.u64.wrap (x + y) + bits BinOp.and IntKind.u64 c 1))
      (bits BinOp.or IntKind.u64 (bits BinOp.and IntKind.u64 x y)
                (bits BinOp.andNot IntKind.u64 (bits BinOp.or IntKind.u64 x y)
                  (IntKind.u64.wrap (IntKind.u64.wrap (x + y) + bits BinOp.and IntKind.u64 c 1))) /
              9223372036854775808) := by
  obtain ⟨X, rfl⟩ := Int.eq_ofNat_of_zero_le hx.1
  obtain ⟨Y, rfl⟩ := Int.eq_ofNat_of_zero_le hy.1
  obtain ⟨C, rfl⟩ := Int.eq_ofNat_of_zero_le h0
  have hX : X < 18446744073709551616 := by have := hx.2; omega
  have hY : Y < 18446744073709551616 := by have := hy.2; omega
  have hC : C ≤ 1 := by omega
  have e1 : bits BinOp.and IntKind.u64 (C : Int) 1 = C := by
    have := u64_and_nat C 1 (by omega) (by omega)
    rw [show ((1 : Nat) : Int) = 1 from rfl] at this
    rw [this]
    have : C = 0 ∨ C = 1 := by omega
    rcases this with rfl | rfl <;> rfl
  rw [e1]
  have e2 : IntKind.u64.wrap (IntKind.u64.wrap ((X : Int) + Y) + C) = (((X + Y + C) % 18446744073709551616 : Nat) : Int) := by
    rw [IntKind.wrap_u64, IntKind.wrap_u64]; omega
  rw [e2]
  generalize hs : (X + Y + C) % 18446744073709551616 = s
  have hs' : s < 18446744073709551616 := by omega
  rw [u64_and_nat X Y hX hY, u64_or_nat X Y hX hY]
  have l1 : (X ||| Y) < 18446744073709551616 := by have := Nat.or_lt_two_pow (n := 64) hX hY; simpa using this
  rw [u64_andNot_nat _ s l1 hs']
  rw [u64_or_nat _ _ (Nat.lt_of_le_of_lt Nat.and_le_left hX) (Nat.lt_of_le_of_lt Nat.and_le_left l1)]
  have key := Wd.addCarry X Y C s _ hX hY hC hs.symm rfl
  have e3 : (((X &&& Y ||| (X ||| Y) &&& 18446744073709551615 - s : Nat) : Int) / 9223372036854775808) = (((X + Y + C) / 18446744073709551616 : Nat) : Int) := by
    rw [← key]; rfl
  rw [e3]
  refine ⟨⟨by omega, by omega⟩, by omega, by omega, by omega⟩

theorem subRel (x y c : Int) (hx : W64 x) (hy : W64 y) (h0 : 0 ≤ c) (h1 : c ≤ 1) :
    SubRel x y c (IntKind.u64.wrap (IntKind.u64.wrap (x - y) - bits BinOp.and IntKind.u64 c 1))
      (bits BinOp.or IntKind.u64
                                (bits BinOp.and IntKind.u64 (bits BinOp.xor IntKind.u64 IntKind.u64.max x) y)
                                (bits BinOp.and IntKind.u64
                                  (bits BinOp.xor IntKind.u64 IntKind.u64.max (bits BinOp.xor IntKind.u64 x y))
                                  (IntKind.u64.wrap (IntKind.u64.wrap (x - y) - bits BinOp.and IntKind.u64 c 1))) /
                              9223372036854775808) := by
  obtain ⟨X, rfl⟩ := Int.eq_ofNat_of_zero_le hx.1
  obtain ⟨Y, rfl⟩ := Int.eq_ofNat_of_zero_le hy.1
  obtain ⟨C, rfl⟩ := Int.eq_ofNat_of_zero_le h0
  have hX : X < 18446744073709551616 := by have := hx.2; omega
  have hY : Y < 18446744073709551616 := by have := hy.2; omega
  have hC : C ≤ 1 := by omega
  have e1 : bits BinOp.and IntKind.u64 (C : Int) 1 = C := by
    have := u64_and_nat C 1 (by omega) (by omega)
    rw [show ((1 : Nat) : Int) = 1 from rfl] at this
    rw [this]
    have : C = 0 ∨ C = 1 := by omega
    rcases this with rfl | rfl <;> rfl
  rw [e1]
  have e2 : IntKind.u64.wrap (IntKind.u64.wrap ((X : Int) - Y) - C) = (((18446744073709551616 * 2 + X - Y - C) % 18446744073709551616 : Nat) : Int) := by
    rw [IntKind.wrap_u64, IntKind.wrap_u64]; omega
  rw [e2]
  generalize hs : (18446744073709551616 * 2 + X - Y - C) % 18446744073709551616 = s
  have hs' : s < 18446744073709551616 := by omega
  have hn : ∀ Z : Nat, Z < 18446744073709551616 → bits BinOp.xor IntKind.u64 IntKind.u64.max (Z : Int) = ((18446744073709551615 - Z : Nat) : Int) := by
    intro Z hZ
    have e : IntKind.u64.max = ((18446744073709551615 : Nat) : Int) := rfl
    rw [e, u64_xor_nat _ _ (by omega) hZ]
    have : (18446744073709551615 : Nat) ^^^ Z = 18446744073709551615 - Z := by
      have h := BitVec.toNat_not (x := BitVec.ofNat 64 Z)
      rw [BitVec.toNat_ofNat, Nat.mod_eq_of_lt (by simpa using hZ)] at h
      have h2 : ~~~(BitVec.ofNat 64 Z) = BitVec.allOnes 64 ^^^ BitVec.ofNat 64 Z := by rw [BitVec.allOnes_xor]
      rw [h2, BitVec.toNat_xor, BitVec.toNat_ofNat, Nat.mod_eq_of_lt (by simpa using hZ), BitVec.toNat_allOnes] at h
      simpa using h
    rw [this]
  have l1 : (X ^^^ Y) < 18446744073709551616 := by have := Nat.xor_lt_two_pow (n := 64) hX hY; simpa using this
  rw [hn X hX, u64_xor_nat X Y hX hY, hn _ l1]
  rw [u64_and_nat _ Y (by omega) hY, u64_and_nat _ s (by omega) hs']
  rw [u64_or_nat _ _ (Nat.lt_of_le_of_lt Nat.and_le_right hY) (Nat.lt_of_le_of_lt Nat.and_le_right hs')]
  have key := Wd.subBorrow X Y C s _ _ hX hY hC hs.symm rfl rfl
  have e3 : (((18446744073709551615 - X &&& Y ||| 18446744073709551615 - (X ^^^ Y) &&& s : Nat) : Int) / 9223372036854775808) = ((if X < Y + C then 1 else 0 : Nat) : Int) := by
    rw [← key]; rfl
  rw [e3]
  by_cases hlt : X < Y + C
  · rw [if_pos hlt]
    refine ⟨⟨by omega, by omega⟩, by omega, by omega, by omega⟩
  · rw [if_neg hlt]
    refine ⟨⟨by omega, by omega⟩, by omega, by omega, by omega⟩

set_option maxHeartbeats 400000 in
theorem wAdd (x y c : Int) (hx : W64 x) (hy : W64 y) (h0 : 0 ≤ c) (h1 : c ≤ 1) (w : World) :
    Calls Tryz.prog 151 #[.int .u64 x, .int .u64 y, .int .u64 c] w fun e w' => ∃ s d, e = .returned (.tuple #[.int .u64 s, .int .u64 d]) ∧ AddRel x y c s d ∧ w = w' := by
  have H := Lib.hid (addRel x y c hx hy h0 h1)
  clear hx hy h0 h1
  go_enter Tryz.func151, Tryz.ntmps151
  go_wp2
  go_ret2
  exact ⟨_, _, rfl, H.out, rfl⟩

set_option maxHeartbeats 400000 in
theorem wSub (x y c : Int) (hx : W64 x) (hy : W64 y) (h0 : 0 ≤ c) (h1 : c ≤ 1) (w : World) :
    Calls Tryz.prog 152 #[.int .u64 x, .int .u64 y, .int .u64 c] w fun e w' => ∃ s d, e = .returned (.tuple #[.int .u64 s, .int .u64 d]) ∧ SubRel x y c s d ∧ w = w' := by
  have H := Lib.hid (subRel x y c hx hy h0 h1)
  clear hx hy h0 h1
  have hs : IntKind.u64.signed = false := rfl
  go_enter Tryz.func152, Tryz.ntmps152
  go_wp2
  go_ret2
  exact ⟨_, _, rfl, H.out, rfl⟩

theorem and32 (x : Int) (hx : W64 x) : bits BinOp.and IntKind.u64 x 4294967295 = x % 4294967296 := by
  obtain ⟨X, rfl⟩ := Int.eq_ofNat_of_zero_le hx.1
  have hX : X < 18446744073709551616 := by have := hx.2; omega
  have := u64_and_nat X 4294967295 hX (by omega)
  rw [show ((4294967295 : Nat) : Int) = 4294967295 from rfl] at this
  rw [this, show (4294967295 : Nat) = 2 ^ 32 - 1 from rfl, Nat.and_two_pow_sub_one_eq_mod]
  rfl
theorem wrap_in (x : Int) (hx : W64 x) : IntKind.u64.wrap x = x := by
  rw [IntKind.wrap_u64]; exact Int.emod_eq_of_lt hx.1 hx.2
theorem wrap_W (x : Int) : W64 (IntKind.u64.wrap x) := by
  rw [IntKind.wrap_u64]; exact ⟨by omega, by omega⟩

theorem mulRel (x y : Int) (hx : W64 x) (hy : W64 y) :
    MulRel x y 0 0 (IntKind.u64.wrap
              (IntKind.u64.wrap
                  (IntKind.u64.wrap (x / 4294967296 * (y / 4294967296)) +
                    IntKind.u64.wrap
                        (IntKind.u64.wrap (x / 4294967296 * bits BinOp.and IntKind.u64 y 4294967295) +
                          IntKind.u64.wrap
                              (bits BinOp.and IntKind.u64 x 4294967295 * bits BinOp.and IntKind.u64 y 4294967295) /
                            4294967296) /
                      4294967296) +
                IntKind.u64.wrap
                    (bits BinOp.and IntKind.u64
                        (IntKind.u64.wrap
                          (IntKind.u64.wrap (x / 4294967296 * bits BinOp.and IntKind.u64 y 4294967295) +
                            IntKind.u64.wrap
                                (bits BinOp.and IntKind.u64 x 4294967295 * bits BinOp.and IntKind.u64 y 4294967295) /
                              4294967296))
                        4294967295 +
                      IntKind.u64.wrap (bits BinOp.and IntKind.u64 x 4294967295 * (y / 4294967296))) /
                  4294967296)) (IntKind.u64.wrap (x * y)) := by
  rw [and32 x hx, and32 y hy, and32 _ (wrap_W _)]
  obtain ⟨X, rfl⟩ := Int.eq_ofNat_of_zero_le hx.1
  obtain ⟨Y, rfl⟩ := Int.eq_ofNat_of_zero_le hy.1
  have hX : X < 18446744073709551616 := by have := hx.2; omega
  have hY : Y < 18446744073709551616 := by have := hy.2; omega
  have key := Wd.mulHi (X % 4294967296) (X / 4294967296) (Y % 4294967296) (Y / 4294967296) _ _ (by omega) (by omega) (by omega) (by omega) rfl rfl
  rw [show X / 4294967296 * 4294967296 + X % 4294967296 = X by omega, show Y / 4294967296 * 4294967296 + Y % 4294967296 = Y by omega] at key
  have cx1 : (X : Int) / 4294967296 = ((X / 4294967296 : Nat) : Int) := rfl
  have cx0 : (X : Int) % 4294967296 = ((X % 4294967296 : Nat) : Int) := rfl
  have cy1 : (Y : Int) / 4294967296 = ((Y / 4294967296 : Nat) : Int) := rfl
  have cy0 : (Y : Int) % 4294967296 = ((Y % 4294967296 : Nat) : Int) := rfl
  have b0 : X % 4294967296 ≤ 4294967295 := by omega
  have b1 : X / 4294967296 ≤ 4294967295 := by omega
  have b2 : Y % 4294967296 ≤ 4294967295 := by omega
  have b3 : Y / 4294967296 ≤ 4294967295 := by omega
  rw [cx1, cx0, cy1, cy0]
  generalize X / 4294967296 = x1 at *; generalize X % 4294967296 = x0 at *; generalize Y / 4294967296 = y1 at *; generalize Y % 4294967296 = y0 at *
  have l1 : x1 * y0 ≤ 4294967295 * 4294967295 := Nat.mul_le_mul b1 b2
  have l2 : x0 * y0 ≤ 4294967295 * 4294967295 := Nat.mul_le_mul b0 b2
  have l3 : x0 * y1 ≤ 4294967295 * 4294967295 := Nat.mul_le_mul b0 b3
  have l4 : x1 * y1 ≤ 4294967295 * 4294967295 := Nat.mul_le_mul b1 b3
  simp only [← Int.natCast_mul]
  generalize x1*y0 = p at *; generalize x0*y0 = q at *; generalize x0*y1 = r at *; generalize x1*y1 = t at *
  obtain ⟨k1, k2, k3, k4⟩ := key
  rw [wrap_in (p : Int) ⟨by omega, by omega⟩, wrap_in (q : Int) ⟨by omega, by omega⟩, wrap_in (r : Int) ⟨by omega, by omega⟩, wrap_in (t : Int) ⟨by omega, by omega⟩]
  have cb : (p : Int) + (q : Int) / 4294967296 = ((p + q / 4294967296 : Nat) : Int) := by omega
  rw [cb]
  generalize p + q / 4294967296 = b at *
  rw [wrap_in (b : Int) ⟨by omega, by omega⟩]
  have cc : (b : Int) % 4294967296 + (r : Int) = ((b % 4294967296 + r : Nat) : Int) := by omega
  rw [cc]
  generalize b % 4294967296 + r = c at *
  rw [wrap_in (c : Int) ⟨by omega, by omega⟩, wrap_in ((t : Int) + (b : Int) / 4294967296) ⟨by omega, by omega⟩, wrap_in ((t : Int) + (b : Int) / 4294967296 + (c : Int) / 4294967296) ⟨by omega, by omega⟩]
  unfold MulRel
  simp only [← Int.natCast_mul]
  generalize X * Y = z at *
  rw [IntKind.wrap_u64]
  refine ⟨⟨by omega, by omega⟩, ⟨by omega, by omega⟩, by omega⟩

set_option maxHeartbeats 400000 in
theorem wMul (x y : Int) (hx : W64 x) (hy : W64 y) (w : World) :
    Calls Tryz.prog 159 #[.int .u64 x, .int .u64 y] w fun e w' => ∃ hi lo, e = .returned (.tuple #[.int .u64 hi, .int .u64 lo]) ∧ MulRel x y 0 0 hi lo ∧ w = w' := by
  have H := Lib.hid (mulRel x y hx hy)
  clear hx hy
  go_enter Tryz.func159, Tryz.ntmps159
  go_wp2
  go_ret2
  exact ⟨_, _, rfl, H.out, rfl⟩

theorem mulAddRel {x y a b hi lo s1 d1 s2 d2 : Int} (h : MulRel x y 0 0 hi lo) (hx : W64 x) (hy : W64 y) (ha : W64 a) (hb : W64 b) (h1 : AddRel lo a 0 s1 d1) (h2 : AddRel s1 b 0 s2 d2) :
    MulRel x y a b (hi + d1 + d2) s2 ∧ W64 (hi + d1) ∧ W64 (hi + d1 + d2) := by
  obtain ⟨c1, c2, c3⟩ := h
  obtain ⟨e1, e2, e3, e4⟩ := h1
  obtain ⟨f1, f2, f3, f4⟩ := h2
  unfold MulRel
  unfold W64 at *
  have : x * y ≤ 18446744073709551615 * 18446744073709551615 := Int.mul_le_mul (by omega) (by omega) (by omega) (by omega)
  generalize x * y = z at *
  refine ⟨⟨⟨by omega, by omega⟩, ⟨by omega, by omega⟩, by omega⟩, ⟨by omega, by omega⟩, ⟨by omega, by omega⟩⟩
theorem W64_zero : W64 0 := ⟨by omega, by omega⟩

set_option maxHeartbeats 400000 in
theorem wMulAdd (x y a b : Int) (hx : W64 x) (hy : W64 y) (ha : W64 a) (hb : W64 b) (w : World) :
    Calls Tryz.prog 149 #[.int .u64 x, .int .u64 y, .int .u64 a, .int .u64 b] w fun e w' => ∃ hi lo, e = .returned (.tuple #[.int .u64 hi, .int .u64 lo]) ∧ MulRel x y a b hi lo ∧ w = w' := by
  go_enter Tryz.func149, Tryz.ntmps149
  go_wp2_with fail
  refine (wMul x y hx hy _).mono ?_
  rintro e w' ⟨hi, lo, rfl, hm, rfl⟩
  go_wp2_with fail
  refine (wAdd lo a 0 hm.2.1 ha (by omega) (by omega) _).mono ?_
  rintro e w' ⟨s1, d1, rfl, h1, rfl⟩
  go_wp2_with fail
  refine (wAdd s1 b 0 h1.1 hb (by omega) (by omega) _).mono ?_
  rintro e w' ⟨s2, d2, rfl, h2, rfl⟩
  go_wp2_with fail
  have H := Lib.hid (mulAddRel hm hx hy ha hb h1 h2)
  go_ret2
  have e1 := wrap_in _ H.out.2.1
  have e2 := wrap_in _ H.out.2.2
  refine ⟨_, _, rfl, ?_, rfl⟩
  simp only [e1, e2]
  exact H.out.1
def LenInv (X x n k : Nat) : Prop := x < (if k = 0 then 2 else 2 ^ (2 * k)) ∧ n + Wd.blen x = Wd.blen X ∧ n + 2 * k ≤ 64
theorem len_go (X x n k : Nat) (k2 : Nat) (hk : k = 2 * k2 ∨ (k = 1 ∧ k2 = 0)) (h : LenInv X x n k) (hk0 : k ≠ 0) (hx : x / 2 ^ k ≠ 0) : LenInv X (x / 2 ^ k) (n + k) k2 := by
  obtain ⟨h1, h2, h3⟩ := h
  have hs := Wd.blen_shift x k hx
  rw [if_neg hk0] at h1
  refine ⟨?_, by omega, by omega⟩
  have : x / 2 ^ k < 2 ^ k := by
    rw [Nat.div_lt_iff_lt_mul (Nat.two_pow_pos k), ← Nat.pow_add]; rw [show k + k = 2 * k by omega]; exact h1
  rcases hk with rfl | ⟨rfl, rfl⟩
  · rw [if_neg (by omega)]; exact this
  · simpa using this
theorem len_stay (X x n k : Nat) (k2 : Nat) (hk : k = 2 * k2 ∨ (k = 1 ∧ k2 = 0)) (h : LenInv X x n k) (hk0 : k ≠ 0) (hx : x / 2 ^ k = 0) : LenInv X x n k2 := by
  obtain ⟨h1, h2, h3⟩ := h
  refine ⟨?_, h2, by omega⟩
  have : x < 2 ^ k := by
    have := (Nat.div_eq_zero_iff).1 hx
    rcases this with h | h
    · exact absurd h (Nat.ne_of_gt (Nat.two_pow_pos k))
    · exact h
  rcases hk with rfl | ⟨rfl, rfl⟩
  · rw [if_neg (by omega)]; exact this
  · simpa using this
theorem len_end (X x n : Nat) (h : LenInv X x n 0) : n + x = Wd.blen X := by
  obtain ⟨h1, h2, h3⟩ := h
  simp at h1
  have : x = 0 ∨ x = 1 := by omega
  rcases this with rfl | rfl
  · simpa [Wd.blen] using h2
  · rw [← h2]; rfl
theorem blen64 (X : Nat) (h : X < 18446744073709551616) : Wd.blen X ≤ 64 := (Wd.blen_le X 64).2 h

set_option maxHeartbeats 1000000 in
theorem wLen (X : Nat) (hX : X < 18446744073709551616) (w : World) :
    Calls Tryz.prog 143 #[.int .u64 X] w fun e w' => e = .returned (.int .i64 (Wd.blen X)) ∧ Drawn w w' := by
  have hst : LenInv X X 0 32 := ⟨hX, by simp, by omega⟩
  have hb := blen64 X hX
  go_enter Tryz.func143, Tryz.ntmps143
  go_wp2
  go_loopw [0,3,4] (fun c d i wr => ∃ x n k : Nat, c = .int .u64 x ∧ d = .int .i64 n ∧ i = .int .i64 k ∧ (k = 32 ∨ k = 16 ∨ k = 8 ∨ k = 4 ∨ k = 2 ∨ k = 1 ∨ k = 0) ∧ LenInv X x n k ∧ Drawn w wr) (fun c d i wr => (intOf i).toNat)
  case atStart => exact ⟨X, 0, 32, rfl, rfl, rfl, .inl rfl, hst, ⟨0, rfl⟩⟩
  case round =>
    obtain ⟨x, n, k, rfl, rfl, rfl, hk, hi, ⟨m, rfl⟩⟩ := hrel
    have hn : (n : Int) ≤ 64 := by have := hi.2.2; omega
    rcases hk with rfl | rfl | rfl | rfl | rfl | rfl | rfl
    · go_wp2
      · have ht : ((x : Int) / 4294967296 != 0) = true := by assumption
        have h2 : x / 2 ^ 32 ≠ 0 := by simp at ht; omega
        go_quiet (fail)
        go_wp2
        go_roundw
        case rel => exact ⟨x / 2 ^ 32, n + 32, 16, rfl, rfl, rfl, by simp, len_go X x n 32 16 (.inl rfl) hi (by omega) h2, _, rfl⟩
        case measure => simp [intOf]
      · have ht : ((x : Int) / 4294967296 != 0) = false := by assumption
        have h2 : x / 2 ^ 32 = 0 := by simp at ht; omega
        go_roundw
        case rel => exact ⟨x, n, 16, rfl, rfl, rfl, by simp, len_stay X x n 32 16 (.inl rfl) hi (by omega) h2, _, rfl⟩
        case measure => simp [intOf]
    · go_wp2
      · have ht : ((x : Int) / 65536 != 0) = true := by assumption
        have h2 : x / 2 ^ 16 ≠ 0 := by simp at ht; omega
        go_quiet (fail)
        go_wp2
        go_roundw
        case rel => exact ⟨x / 2 ^ 16, n + 16, 8, rfl, rfl, rfl, by simp, len_go X x n 16 8 (.inl rfl) hi (by omega) h2, _, rfl⟩
        case measure => simp [intOf]
      · have ht : ((x : Int) / 65536 != 0) = false := by assumption
        have h2 : x / 2 ^ 16 = 0 := by simp at ht; omega
        go_roundw
        case rel => exact ⟨x, n, 8, rfl, rfl, rfl, by simp, len_stay X x n 16 8 (.inl rfl) hi (by omega) h2, _, rfl⟩
        case measure => simp [intOf]
    · go_wp2
      · have ht : ((x : Int) / 256 != 0) = true := by assumption
        have h2 : x / 2 ^ 8 ≠ 0 := by simp at ht; omega
        go_quiet (fail)
        go_wp2
        go_roundw
        case rel => exact ⟨x / 2 ^ 8, n + 8, 4, rfl, rfl, rfl, by simp, len_go X x n 8 4 (.inl rfl) hi (by omega) h2, _, rfl⟩
        case measure => simp [intOf]
      · have ht : ((x : Int) / 256 != 0) = false := by assumption
        have h2 : x / 2 ^ 8 = 0 := by simp at ht; omega
        go_roundw
        case rel => exact ⟨x, n, 4, rfl, rfl, rfl, by simp, len_stay X x n 8 4 (.inl rfl) hi (by omega) h2, _, rfl⟩
        case measure => simp [intOf]
    · go_wp2
      · have ht : ((x : Int) / 16 != 0) = true := by assumption
        have h2 : x / 2 ^ 4 ≠ 0 := by simp at ht; omega
        go_quiet (fail)
        go_wp2
        go_roundw
        case rel => exact ⟨x / 2 ^ 4, n + 4, 2, rfl, rfl, rfl, by simp, len_go X x n 4 2 (.inl rfl) hi (by omega) h2, _, rfl⟩
        case measure => simp [intOf]
      · have ht : ((x : Int) / 16 != 0) = false := by assumption
        have h2 : x / 2 ^ 4 = 0 := by simp at ht; omega
        go_roundw
        case rel => exact ⟨x, n, 2, rfl, rfl, rfl, by simp, len_stay X x n 4 2 (.inl rfl) hi (by omega) h2, _, rfl⟩
        case measure => simp [intOf]
    · go_wp2
      · have ht : ((x : Int) / 4 != 0) = true := by assumption
        have h2 : x / 2 ^ 2 ≠ 0 := by simp at ht; omega
        go_quiet (fail)
        go_wp2
        go_roundw
        case rel => exact ⟨x / 2 ^ 2, n + 2, 1, rfl, rfl, rfl, by simp, len_go X x n 2 1 (.inl rfl) hi (by omega) h2, _, rfl⟩
        case measure => simp [intOf]
      · have ht : ((x : Int) / 4 != 0) = false := by assumption
        have h2 : x / 2 ^ 2 = 0 := by simp at ht; omega
        go_roundw
        case rel => exact ⟨x, n, 1, rfl, rfl, rfl, by simp, len_stay X x n 2 1 (.inl rfl) hi (by omega) h2, _, rfl⟩
        case measure => simp [intOf]
    · go_wp2
      · have ht : ((x : Int) / 2 != 0) = true := by assumption
        have h2 : x / 2 ^ 1 ≠ 0 := by simp at ht; omega
        go_quiet (fail)
        go_wp2
        go_roundw
        case rel => exact ⟨x / 2 ^ 1, n + 1, 0, rfl, rfl, rfl, by simp, len_go X x n 1 0 (.inr ⟨rfl, rfl⟩) hi (by omega) h2, _, rfl⟩
        case measure => simp [intOf]
      · have ht : ((x : Int) / 2 != 0) = false := by assumption
        have h2 : x / 2 ^ 1 = 0 := by simp at ht; omega
        go_roundw
        case rel => exact ⟨x, n, 0, rfl, rfl, rfl, by simp, len_stay X x n 1 0 (.inr ⟨rfl, rfl⟩) hi (by omega) h2, _, rfl⟩
        case measure => simp [intOf]
    · have he := len_end X x n hi
      have hi1 := hi.1
      simp at hi1
      have hx64 : (x : Int) ≤ 1 := by omega
      have H := Lib.hid he
      clear he hi1
      go_wp2
      go_ret
      refine ⟨?_, _, rfl⟩
      have := H.out
      rw [← this]
      simp
/-- how many bits of 64 are 0 above the highest 1 -/
def leadz (X : Nat) : Nat := 64 - Wd.blen X
theorem ret_i64 {a b : Int} (h : a = b) : Ending.returned (.int .i64 a) = .returned (.int .i64 b) := by rw [h]
set_option maxHeartbeats 400000 in
theorem wLead (X : Nat) (hX : X < 18446744073709551616) (w : World) :
    Calls Tryz.prog 162 #[.int .u64 X] w fun e w' => e = .returned (.int .i64 (leadz X)) ∧ Drawn w w' := by
  have hb := blen64 X hX
  go_enter Tryz.func162, Tryz.ntmps162
  go_wp2_with fail
  refine (wLen X hX _).mono ?_
  rintro e w' ⟨rfl, n, rfl⟩
  go_wp2_with fail
  go_ret
  exact ⟨ret_i64 (by unfold leadz; omega), _, rfl⟩

def digQ (u n y : Nat) : Nat := (u * 4294967296 + n) / y
def digR (u n y : Nat) : Nat := (u * 4294967296 + n) % y
theorem dig_res (u n y q : Nat) (hy : 0 < y) (hy2 : y < 18446744073709551616) (h : (u * 4294967296 + n) / y = q) :
    IntKind.u64.wrap (IntKind.u64.wrap (IntKind.u64.wrap ((u : Int) * 4294967296) + n) - IntKind.u64.wrap ((q : Int) * y)) = (digR u n y : Int) := by
  unfold digR
  have e := Nat.div_add_mod (u * 4294967296 + n) y
  have l := Nat.mod_lt (u * 4294967296 + n) hy
  rw [h, Nat.mul_comm] at e
  generalize (u * 4294967296 + n) % y = m at *
  rw [← Int.natCast_mul]
  generalize q * y = p at *
  simp only [IntKind.wrap_u64]
  omega
theorem dig_no (q r n y : Nat) (t : 4294967295 < q ∨ r * 4294967296 + n < q * (y % 4294967296)) (h : (q : Int) ≤ 4294967295 ∧ (q : Int) * ((y : Int) % 4294967296) ≤ r * 4294967296 + n) : False := by
  obtain ⟨h1, h2⟩ := h
  rw [show (y : Int) % 4294967296 = ((y % 4294967296 : Nat) : Int) from rfl, ← Int.natCast_mul] at h2
  generalize q * (y % 4294967296) = z at *
  rcases t with t | t
  · omega
  · exact Nat.not_lt.2 (by omega) t
theorem ret_uu {a b c d : Int} (h : a = b) (h' : c = d) : Ending.returned (.tuple #[.int .u64 a, .int .u64 c]) = Ending.returned (.tuple #[.int .u64 b, .int .u64 d]) := by rw [h, h']
set_option maxHeartbeats 1000000 in
theorem wDigit (u n y : Nat) (hu : u < y) (hn : n < 4294967296) (hy1 : 9223372036854775808 ≤ y) (hy2 : y < 18446744073709551616) (w : World) :
    Calls Tryz.prog 169 #[.int .u64 u, .int .u64 n, .int .u64 y] w fun e w' => e = .returned (.tuple #[.int .u64 (digQ u n y), .int .u64 (digR u n y)]) ∧ Drawn w w' := by
  have ey : y = y / 4294967296 * 4294967296 + y % 4294967296 := by omega
  have h1 : (((y : Int) / 4294967296) == 0) = false := by simp; omega
  have h3 : 0 ≤ (y : Int) / 4294967296 := by omega
  have h2 : 0 < (y : Int) / 4294967296 := by omega
  have ha : bits BinOp.and IntKind.u64 y 4294967295 = (y : Int) % 4294967296 := and32 y ⟨by omega, by omega⟩
  have hst := Wd.d_start u n y (y / 4294967296) (y % 4294967296) hu hn ey (by omega) (by omega) (by omega)
  have HD := Lib.hid hst.1
  have hq0 : u / (y / 4294967296) < 18446744073709551616 := by have := hst.2; omega
  have HQ := Lib.hid hst.2
  clear hst
  have hy0 : y % 4294967296 < 4294967296 := by omega
  have EY := Lib.hid ey; clear ey
  go_enter Tryz.func169, Tryz.ntmps169
  go_wp2_with fail
  go_quiet (fail)
  go_wp2_with fail
  go_loopw [10, 11] (fun c d wr => ∃ q r : Nat, c = .int .u64 q ∧ d = .int .u64 r ∧ Wd.DInv u n y (y / 4294967296) q r ∧ q ≤ 4294967297 ∧ Drawn w wr) (fun c d wr => (intOf c).toNat)
  case atStart =>
    refine ⟨u / (y / 4294967296), u % (y / 4294967296), ?_, ?_, HD.out, HQ.out, _, rfl⟩
    · rw [show ((u : Int) / ((y : Int) / 4294967296)) = ((u / (y / 4294967296) : Nat) : Int) from rfl]
      clear ha HD HQ
      generalize u / (y / 4294967296) = z at *
      rw [wrap_in _ ⟨by omega, by omega⟩]
    · rfl
  case round =>
    obtain ⟨q, r, rfl, rfl, hi, hq, ⟨m, rfl⟩⟩ := hrel
    have hr : (r : Int) ≤ 4294967295 := by have := hi.rl; omega
    have e5 : IntKind.u64.wrap ((q : Int) * ((y : Int) % 4294967296)) = ((q * (y % 4294967296) : Nat) : Int) := by
      have l : q * (y % 4294967296) ≤ 4294967297 * 4294967295 := Nat.mul_le_mul hq (by omega)
      rw [show (y : Int) % 4294967296 = ((y % 4294967296 : Nat) : Int) from rfl, ← Int.natCast_mul]
      generalize q * (y % 4294967296) = z at *
      exact wrap_in _ ⟨by omega, by omega⟩
    by_cases t : 4294967295 < q ∨ r * 4294967296 + n < q * (y % 4294967296)
    · have hd := Wd.d_dec u n y _ _ q r hu hn EY.out hi t
      obtain ⟨q', hz⟩ : ∃ q', q' = q - 1 := ⟨q - 1, rfl⟩
      have e6 : IntKind.u64.wrap ((q : Int) - 1) = (q' : Int) := by
        rw [wrap_in _ ⟨by have := hd.2.1; omega, by omega⟩]; have := hd.2.1; omega
      have hlt : (q' : Int) < q := by have := hd.2.1; omega
      have e7 : (q : Int) - 1 = q' := by have := hd.2.1; omega
      rw [← hz] at hd
      clear hz
      have hd1 := Lib.hid hd.1
      have hd3 := Lib.hid hd.2.2
      have T := Lib.hid t
      clear hd hi t
      have hq' : q' ≤ 4294967296 := by omega
      go_wp2
      all_goals first
        | (have hb : (q : Int) ≤ 4294967295 ∧ (q : Int) * ((y : Int) % 4294967296) ≤ r * 4294967296 + n := by assumption
           exfalso
           exact dig_no q r n y T.out hb)
        | (have hb : (4294967295 : Int) < r + (y : Int) / 4294967296 := by assumption
           have hres := Lib.hid (Wd.d_break u n y _ _ q' _ hu EY.out hy0 hd3.out hd1.out (by omega) (by omega))
           go_ret2
           exact ⟨ret_uu (by rw [digQ, hres.out]) (dig_res u n y q' (by omega) hy2 hres.out), _, rfl⟩)
        | (have hb : (r : Int) + (y : Int) / 4294967296 ≤ 4294967295 := by assumption
           go_roundw
           case rel => exact ⟨q', r + y / 4294967296, rfl, rfl, ⟨hd3.out, hd1.out, by omega⟩, by omega, _, rfl⟩
           case measure => simp [intOf]; omega)
    · have hd := Lib.hid (Wd.d_test u n y _ _ q r hu EY.out hi (by omega))
      have f1 : (q : Int) ≤ 4294967295 := by omega
      have f2 : (q : Int) * ((y : Int) % 4294967296) ≤ r * 4294967296 + n := by
        have t2 : q * (y % 4294967296) ≤ r * 4294967296 + n := Nat.le_of_not_lt fun h => t (.inr h)
        rw [show (y : Int) % 4294967296 = ((y % 4294967296 : Nat) : Int) from rfl, ← Int.natCast_mul]
        generalize q * (y % 4294967296) = z at *
        omega
      clear hi t
      go_wp2
      go_ret2
      exact ⟨ret_uu (by rw [digQ, hd.out]) (dig_res u n y q (by omega) hy2 hd.out), _, rfl⟩
theorem Drawn.drewN {w w' : World} (h : Drawn w w') (k : Nat) : Drawn w (w'.drewN k) := by
  obtain ⟨n, rfl⟩ := h
  exact ⟨n + k, by simp⟩
theorem Drawn.refl (w : World) : Drawn w w := ⟨0, rfl⟩
theorem Drawn.trans {a b c : World} (h : Drawn a b) (k : Drawn b c) : Drawn a c := by
  obtain ⟨n, rfl⟩ := k
  exact h.drewN n
theorem ret_uub {a b c d : Int} {z : Bool} (h : a = b) (h' : c = d) : Ending.returned (.tuple #[.int .u64 a, .int .u64 c, .bool z]) = Ending.returned (.tuple #[.int .u64 b, .int .u64 d, .bool z]) := by rw [h, h']
set_option maxHeartbeats 1000000 in
theorem wDiv_no (hi lo y : Int) (h : y ≤ hi) (w : World) :
    Calls Tryz.prog 168 #[.int .u64 hi, .int .u64 lo, .int .u64 y] w fun e w' => e = .returned (.tuple #[.int .u64 0, .int .u64 0, .bool false]) ∧ w = w' := by
  go_enter Tryz.func168, Tryz.ntmps168
  go_wp2_with fail
  go_ret3
  exact ⟨rfl, rfl⟩
def divQ (hi lo y : Nat) : Nat := (hi * 18446744073709551616 + lo) / y
def divR (hi lo y : Nat) : Nat := (hi * 18446744073709551616 + lo) % y
set_option maxHeartbeats 1000000 in
theorem wDiv_yes (hi lo y : Nat) (h : hi < y) (hl : lo < 18446744073709551616) (hy : y < 18446744073709551616) (w : World) :
    Calls Tryz.prog 168 #[.int .u64 hi, .int .u64 lo, .int .u64 y] w fun e w' => e = .returned (.tuple #[.int .u64 (divQ hi lo y), .int .u64 (divR hi lo y), .bool true]) ∧ Drawn w w' := by
  have hs : (leadz y : Int) ≤ 64 := by unfold leadz; omega
  obtain ⟨n1, n2, n3, n4, n5, n6, n7, n8⟩ := Wd.div_norm hi lo y _ h hl hy (show leadz y = _ from rfl)
  have e1 : bits BinOp.or IntKind.u64 (IntKind.u64.wrap ((hi : Int) * 2 ^ leadz y)) ((lo : Int) / 2 ^ (64 - leadz y)) = ((hi * 2 ^ leadz y + lo / 2 ^ (64 - leadz y) : Nat) : Int) := by
    rw [show (lo : Int) / 2 ^ (64 - leadz y) = ((lo / 2 ^ (64 - leadz y) : Nat) : Int) by simp, show (hi : Int) * 2 ^ leadz y = ((hi * 2 ^ leadz y : Nat) : Int) by simp]
    rw [wrap_in _ ⟨by omega, by omega⟩, u64_or_nat _ _ n3 (by omega), nat_join (leadz y) _ _ (Nat.mul_mod_left _ _) n4]
  have e2 : IntKind.u64.wrap ((lo : Int) * 2 ^ leadz y) = ((lo * 2 ^ leadz y % 18446744073709551616 : Nat) : Int) := by
    rw [IntKind.wrap_u64]; simp
  have e3 : IntKind.u64.wrap ((y : Int) * 2 ^ leadz y) = ((y * 2 ^ leadz y : Nat) : Int) := by
    rw [show (y : Int) * 2 ^ leadz y = ((y * 2 ^ leadz y : Nat) : Int) by simp, wrap_in _ ⟨by omega, by omega⟩]
  generalize hU : hi * 2 ^ leadz y + lo / 2 ^ (64 - leadz y) = U at *
  generalize hY : y * 2 ^ leadz y = Y at *
  have hL : lo * 2 ^ leadz y % 18446744073709551616 < 18446744073709551616 := Nat.mod_lt _ (by omega)
  generalize lo * 2 ^ leadz y % 18446744073709551616 = L at *
  have HE := Lib.hid (Wd.div_end (hi * 18446744073709551616 + lo) U L Y y (leadz y) (digQ U (L / 4294967296) Y) (digR U (L / 4294967296) Y)
    (digQ (digR U (L / 4294967296) Y) (L % 4294967296) Y) (digR (digR U (L / 4294967296) Y) (L % 4294967296) Y) (by omega) n8 hY.symm n6 rfl rfl rfl rfl)
  have e4 : bits BinOp.and IntKind.u64 (L : Int) 4294967295 = ((L % 4294967296 : Nat) : Int) := and32 L ⟨by omega, by omega⟩
  have hlt : digR U (L / 4294967296) Y < Y := Nat.mod_lt _ (by omega)
  have hq1 : digQ U (L / 4294967296) Y < 4294967296 := by unfold digQ; rw [Nat.div_lt_iff_lt_mul (by omega)]; omega
  have hq0 : digQ (digR U (L / 4294967296) Y) (L % 4294967296) Y < 4294967296 := by unfold digQ; rw [Nat.div_lt_iff_lt_mul (by omega)]; omega
  clear hU hY n3 n4 n6 n8
  go_enter Tryz.func168, Tryz.ntmps168
  go_wp2_with fail
  refine (wLead y hy _).mono ?_
  rintro e w' ⟨rfl, n, rfl⟩
  go_wp2_with fail
  go_quiet (fail)
  go_wp2_with fail
  refine (wDigit U (L / 4294967296) Y n5 (by omega) n1 n2 _).mono ?_
  rintro e w' ⟨rfl, n', rfl⟩
  go_wp2_with fail
  refine (wDigit _ (L % 4294967296) Y hlt (by omega) n1 n2 _).mono ?_
  rintro e w' ⟨rfl, n'', rfl⟩
  go_wp2_with fail
  go_quiet (fail)
  go_wp2_with fail
  go_ret3
  have HE := HE.out
  refine ⟨?_, Drawn.drewN ⟨_, rfl⟩ _⟩
  refine ret_uub ?_ ?_
  · rw [divQ, ← HE.1]; simp
  · rw [divR, ← HE.2]; simp
end Go.Proofs.YtlgbhpdblpekfaaGreat
