import Derived.Test.YtknflfnkdieomaaWord
import Derived.Handy
namespace Go.Proofs.Ytknflfnkdieomaa
open Go.RowKit

theorem ret_ib {a b : Int} {z : Bool} (h : a = b) : Ending.returned (.tuple #[.int .i64 a, .bool z]) = Ending.returned (.tuple #[.int .i64 b, .bool z]) := by rw [h]
/-- what bound.Det answers where it answers -/
def detV (n b : Nat) : Nat := n * b + (n * Wd.blen n + 1) / 2 + 1
def detIn (n b : Int) : Prop := 0 ≤ n ∧ n ≤ 64 ∧ 0 ≤ b ∧ b ≤ 1073741824
theorem blen_small (n : Nat) (h : n ≤ 64) : Wd.blen n ≤ 7 := (Wd.blen_le n 7).2 (by omega)
theorem det_small (n b : Nat) (hn : n ≤ 64) (hb : b ≤ 1073741824) : n * b ≤ 68719476736 ∧ n * Wd.blen n ≤ 448 :=
  ⟨Nat.mul_le_mul hn hb, Nat.mul_le_mul hn (blen_small n hn)⟩

set_option maxHeartbeats 400000 in
theorem bDet_no (n b : Int) (h : ¬ detIn n b) (w : World) :
    Calls Try.prog 16 #[.int .i64 n, .int .i64 b] w fun e w' => e = .returned (.tuple #[.int .i64 0, .bool false]) ∧ Drawn w w' := by
  by_cases h1 : n < 0
  · clear h
    go_enter Try.func16, Try.ntmps16
    go_wp2
    go_ret2
    exact ⟨rfl, Drawn.refl _⟩
  have h1' : 0 ≤ n := by omega
  by_cases h2 : 64 < n
  · clear h h1
    go_enter Try.func16, Try.ntmps16
    go_wp2
    go_ret2
    exact ⟨rfl, Drawn.refl _⟩
  have h2' : n ≤ 64 := by omega
  by_cases h3 : b < 0
  · clear h h1 h2
    go_enter Try.func16, Try.ntmps16
    go_wp2
    go_ret2
    exact ⟨rfl, Drawn.refl _⟩
  have h3' : 0 ≤ b := by omega
  have h4 : 1073741824 < b := by unfold detIn at h; omega
  clear h h1 h2 h3
  go_enter Try.func16, Try.ntmps16
  go_wp2
  go_ret2
  exact ⟨rfl, Drawn.refl _⟩

set_option maxHeartbeats 400000 in
theorem bDet_yes (n b : Nat) (hn : n ≤ 64) (hb : b ≤ 1073741824) (w : World) :
    Calls Try.prog 16 #[.int .i64 n, .int .i64 b] w fun e w' => e = .returned (.tuple #[.int .i64 (detV n b), .bool true]) ∧ Drawn w w' := by
  have hs := det_small n b hn hb
  have e1 : IntKind.u64.wrap (n : Int) = n := wrap_in _ ⟨by omega, by omega⟩
  have hs1 : (n : Int) * b ≤ 68719476736 := by have := hs.1; rw [← Int.natCast_mul]; omega
  have hs2 : (n : Int) * (Wd.blen n : Nat) ≤ 448 := by have := hs.2; rw [← Int.natCast_mul]; omega
  have hs3 : 0 ≤ (n : Int) * b := Int.mul_nonneg (by omega) (by omega)
  have hs4 : 0 ≤ (n : Int) * (Wd.blen n : Nat) := Int.mul_nonneg (by omega) (by omega)
  clear hs
  go_enter Try.func16, Try.ntmps16
  go_wp2_with fail
  refine (wLen n (by omega) _).mono ?_
  rintro e w' ⟨rfl, m, rfl⟩
  go_wp2_with fail
  go_ret2
  exact ⟨ret_ib (by unfold detV; simp), _, rfl⟩

theorem len2 (x : Nat) (h : 0 < x) : Wd.blen x = Wd.blen (x / 2) + 1 := by
  by_cases h1 : x / 2 = 0
  · have : x = 1 := by omega
    subst this; rfl
  · have := Wd.blen_shift x 1 (by simpa using h1)
    simp at this; omega
set_option maxHeartbeats 400000 in
theorem rLen (X : Nat) (hX : X < 9223372036854775808) (w : World) :
    Calls Try.prog 58 #[.int .i64 X] w fun e w' => e = .returned (.int .i64 (Wd.blen X : Nat)) ∧ Drawn w w' := by
  have hb : Wd.blen X ≤ 63 := (Wd.blen_le X 63).2 hX
  go_enter Try.func58, Try.ntmps58
  go_wp2
  go_loopw [0, 3] (fun c d wr => ∃ x k : Nat, c = .int .i64 x ∧ d = .int .i64 k ∧ Hid (k + Wd.blen x = Wd.blen X) ∧ x < 9223372036854775808 ∧ Drawn w wr) (fun c d wr => (intOf c).toNat)
  case atStart => exact ⟨X, 0, rfl, rfl, by show _ = _; omega, hX, Drawn.refl _⟩
  case round =>
    obtain ⟨x, k, rfl, rfl, hk, hx, ⟨m, rfl⟩⟩ := hrel
    have hkk : k ≤ 63 := by have := hk.out; omega
    by_cases h0 : 0 < x
    · have hh : x / 2 < 9223372036854775808 := by omega
      go_wp2
      go_roundw
      case rel => exact ⟨x / 2, k + 1, rfl, rfl, by have := len2 x h0; have := hk.out; show _ = _; omega, hh, _, rfl⟩
      case measure => simp [intOf]; omega
    · obtain rfl : x = 0 := by omega
      go_wp2
      go_ret
      exact ⟨ret_i64 (by have := hk.out; rw [Wd.blen_zero] at this; omega), _, rfl⟩

set_option maxHeartbeats 400000 in
theorem rDet_no (n b : Int) (h : ¬ detIn n b) (w : World) :
    Calls Try.prog 18 #[.int .i64 n, .int .i64 b] w fun e w' => e = .returned (.tuple #[.int .i64 0, .bool false]) ∧ Drawn w w' := by
  by_cases h1 : n < 0
  · clear h
    go_enter Try.func18, Try.ntmps18
    go_wp2
    go_ret2
    exact ⟨rfl, Drawn.refl _⟩
  have h1' : 0 ≤ n := by omega
  by_cases h2 : 64 < n
  · clear h h1
    go_enter Try.func18, Try.ntmps18
    go_wp2
    go_ret2
    exact ⟨rfl, Drawn.refl _⟩
  have h2' : n ≤ 64 := by omega
  by_cases h3 : b < 0
  · clear h h1 h2
    go_enter Try.func18, Try.ntmps18
    go_wp2
    go_ret2
    exact ⟨rfl, Drawn.refl _⟩
  have h3' : 0 ≤ b := by omega
  have h4 : 1073741824 < b := by unfold detIn at h; omega
  clear h h1 h2 h3
  go_enter Try.func18, Try.ntmps18
  go_wp2
  go_ret2
  exact ⟨rfl, Drawn.refl _⟩

theorem detV_even (n b : Nat) (h : n * Wd.blen n % 2 = 0) : (detV n b : Int) = (n : Int) * b + (n : Int) * (Wd.blen n : Nat) / 2 + 1 := by
  unfold detV
  rw [← Int.natCast_mul, ← Int.natCast_mul]
  omega
theorem detV_odd (n b : Nat) (h : n * Wd.blen n % 2 = 1) : (detV n b : Int) = (n : Int) * b + ((n : Int) * (Wd.blen n : Nat) + 1) / 2 + 1 := by
  unfold detV
  rw [← Int.natCast_mul, ← Int.natCast_mul]
  omega
set_option maxHeartbeats 400000 in
theorem rDet_yes (n b : Nat) (hn : n ≤ 64) (hb : b ≤ 1073741824) (w : World) :
    Calls Try.prog 18 #[.int .i64 n, .int .i64 b] w fun e w' => e = .returned (.tuple #[.int .i64 (detV n b), .bool true]) ∧ Drawn w w' := by
  have hs := det_small n b hn hb
  have hs1 : (n : Int) * b ≤ 68719476736 := by have := hs.1; rw [← Int.natCast_mul]; omega
  have hs2 : (n : Int) * (Wd.blen n : Nat) ≤ 448 := by have := hs.2; rw [← Int.natCast_mul]; omega
  have hs3 : 0 ≤ (n : Int) * b := Int.mul_nonneg (by omega) (by omega)
  have hs4 : 0 ≤ (n : Int) * (Wd.blen n : Nat) := Int.mul_nonneg (by omega) (by omega)
  clear hs
  by_cases hp : n * Wd.blen n % 2 = 0
  · have HV := Lib.hid (detV_even n b hp)
    have hq : ((n : Int) * (Wd.blen n : Nat) % 2 == 1) = false := by rw [← Int.natCast_mul]; simp; omega
    clear hp
    go_enter Try.func18, Try.ntmps18
    go_wp2_with fail
    refine (rLen n (by omega) _).mono ?_
    rintro e w' ⟨rfl, m, rfl⟩
    go_wp2_with fail
    go_ret2
    exact ⟨ret_ib HV.out.symm, _, rfl⟩
  · have HV := Lib.hid (detV_odd n b (by omega))
    have hq : ((n : Int) * (Wd.blen n : Nat) % 2 == 1) = true := by rw [← Int.natCast_mul]; simp; omega
    clear hp
    go_enter Try.func18, Try.ntmps18
    go_wp2_with fail
    refine (rLen n (by omega) _).mono ?_
    rintro e w' ⟨rfl, m, rfl⟩
    go_wp2_with fail
    go_ret2
    exact ⟨ret_ib HV.out.symm, _, rfl⟩

def ratIn (n b : Int) : Prop := 0 ≤ n ∧ n ≤ 64 ∧ 0 ≤ b ∧ b ≤ 1048576
set_option maxHeartbeats 400000 in
theorem bRational_no (n b : Int) (h : ¬ ratIn n b) (w : World) :
    Calls Try.prog 19 #[.int .i64 n, .int .i64 b] w fun e w' => e = .returned (.tuple #[.int .i64 0, .bool false]) ∧ Drawn w w' := by
  by_cases h1 : n < 0
  · clear h
    go_enter Try.func19, Try.ntmps19
    go_wp2
    go_ret2
    exact ⟨rfl, Drawn.refl _⟩
  have h1' : 0 ≤ n := by omega
  by_cases h2 : 64 < n
  · clear h h1
    go_enter Try.func19, Try.ntmps19
    go_wp2
    go_ret2
    exact ⟨rfl, Drawn.refl _⟩
  have h2' : n ≤ 64 := by omega
  by_cases h3 : b < 0
  · clear h h1 h2
    go_enter Try.func19, Try.ntmps19
    go_wp2
    go_ret2
    exact ⟨rfl, Drawn.refl _⟩
  have h3' : 0 ≤ b := by omega
  have h4 : 1048576 < b := by unfold ratIn at h; omega
  clear h h1 h2 h3
  go_enter Try.func19, Try.ntmps19
  go_wp2
  go_ret2
  exact ⟨rfl, Drawn.refl _⟩
set_option maxHeartbeats 400000 in
theorem bSolution_no (n b : Int) (h : ¬ ratIn n b) (w : World) :
    Calls Try.prog 17 #[.int .i64 n, .int .i64 b] w fun e w' => e = .returned (.tuple #[.int .i64 0, .bool false]) ∧ Drawn w w' := by
  by_cases h1 : n < 0
  · clear h
    go_enter Try.func17, Try.ntmps17
    go_wp2
    go_ret2
    exact ⟨rfl, Drawn.refl _⟩
  have h1' : 0 ≤ n := by omega
  by_cases h2 : 64 < n
  · clear h h1
    go_enter Try.func17, Try.ntmps17
    go_wp2
    go_ret2
    exact ⟨rfl, Drawn.refl _⟩
  have h2' : n ≤ 64 := by omega
  by_cases h3 : b < 0
  · clear h h1 h2
    go_enter Try.func17, Try.ntmps17
    go_wp2
    go_ret2
    exact ⟨rfl, Drawn.refl _⟩
  have h3' : 0 ≤ b := by omega
  have h4 : 1048576 < b := by unfold ratIn at h; omega
  clear h h1 h2 h3
  go_enter Try.func17, Try.ntmps17
  go_wp2
  go_ret2
  exact ⟨rfl, Drawn.refl _⟩
def ratV (n b : Nat) : Nat := detV n (n * b) + n * n * b + 1
def solV (n b : Nat) : Nat := 2 * detV n ((n + 1) * b)
theorem detV_le (n b : Nat) (hn : n ≤ 64) (hb : b ≤ 1073741824) : detV n b ≤ 100000000000 := by
  have := det_small n b hn hb
  unfold detV; omega
set_option maxHeartbeats 400000 in
theorem bRational_yes (n b : Nat) (hn : n ≤ 64) (hb : b ≤ 1048576) (w : World) :
    Calls Try.prog 19 #[.int .i64 n, .int .i64 b] w fun e w' => e = .returned (.tuple #[.int .i64 (ratV n b), .bool true]) ∧ Drawn w w' := by
  have l1 : n * b ≤ 64 * 1048576 := Nat.mul_le_mul hn hb
  have l2 : n * n ≤ 64 * 64 := Nat.mul_le_mul hn hn
  have l3 : n * n * b ≤ 64 * 64 * 1048576 := Nat.mul_le_mul l2 hb
  have e1 : (n : Int) * b = ((n * b : Nat) : Int) := by simp
  have l2' : (n : Int) * n ≤ 4096 := by rw [← Int.natCast_mul]; omega
  have l2'' : 0 ≤ (n : Int) * n := by rw [← Int.natCast_mul]; omega
  have l3' : (n : Int) * n * b ≤ 4294967296 := by rw [← Int.natCast_mul, ← Int.natCast_mul]; omega
  have l3'' : 0 ≤ (n : Int) * n * b := by rw [← Int.natCast_mul, ← Int.natCast_mul]; omega
  have ld := detV_le n (n * b) hn (by omega)
  have hl1 : ((n * b : Nat) : Int) ≤ 67108864 := by omega
  have hl0 : 0 ≤ ((n * b : Nat) : Int) := by omega
  have hv : (ratV n b : Int) = (detV n (n * b) : Nat) + (n : Int) * n * b + 1 := by unfold ratV; simp
  generalize hz : n * b = z at *
  have HV := Lib.hid hv
  clear hv l1 l2 l3 hz
  go_enter Try.func19, Try.ntmps19
  go_wp2_with fail
  refine (bDet_yes n z hn (by omega) _).mono ?_
  rintro e w' ⟨rfl, m, rfl⟩
  go_wp2_with fail
  go_ret2
  exact ⟨ret_ib HV.out.symm, _, rfl⟩
set_option maxHeartbeats 400000 in
theorem bSolution_yes (n b : Nat) (hn : n ≤ 64) (hb : b ≤ 1048576) (w : World) :
    Calls Try.prog 17 #[.int .i64 n, .int .i64 b] w fun e w' => e = .returned (.tuple #[.int .i64 (solV n b), .bool true]) ∧ Drawn w w' := by
  have l1 : (n + 1) * b ≤ 65 * 1048576 := Nat.mul_le_mul (by omega) hb
  have e1 : ((n : Int) + 1) * b = (((n + 1) * b : Nat) : Int) := by simp
  have ld := detV_le n ((n + 1) * b) hn (by omega)
  have hl1 : (((n + 1) * b : Nat) : Int) ≤ 68157440 := by omega
  have hl0 : 0 ≤ (((n + 1) * b : Nat) : Int) := by omega
  have hv : (solV n b : Int) = 2 * (detV n ((n + 1) * b) : Nat) := by unfold solV; simp
  generalize hz : (n + 1) * b = z at *
  have HV := Lib.hid hv
  clear hv l1 hz
  go_enter Try.func17, Try.ntmps17
  go_wp2_with fail
  refine (bDet_yes n z hn (by omega) _).mono ?_
  rintro e w' ⟨rfl, m, rfl⟩
  go_wp2_with fail
  go_ret2
  exact ⟨ret_ib HV.out.symm, _, rfl⟩
end Go.Proofs.Ytknflfnkdieomaa
