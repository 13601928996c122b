/- contracts of the older kind, by terms -/
import Derived.Test.YtngghjhmfpmilaaSyP
import Derived.Test.YtngghjhmfpmilaaRatB
namespace Go.Proofs.Ytngghjhmfpmilaa
open Go.RowKit
theorem ownsOf_nil (nx k i : Nat) : (ownsOf nx [] k).get i = none := by
  unfold ownsOf
  split <;> cases i <;> rfl
theorem CallOK.of_ret {P : Program} {f : FuncId} {As : List SV} {R : SV} {m : MR} (cal : Callable P f) (hm : ∀ η F w v, m.R w v → R.R η F w v) (h : ∀ η F w vals, ArgsR As η F w vals → Calls P f vals.toArray w (Ret m w)) : CallOK P f As R [] :=
  ⟨cal, fun η0 F w vals hF hA => (h η0 F w vals hA).mono fun e w' ⟨v, e1, g, hR⟩ => ⟨v, fun _ _ => none, e1,
    ⟨.of_grow g, (fun k i o hk => by rw [ownsOf_nil] at hk; cases hk), (fun k i o _ _ hk => by rw [ownsOf_nil] at hk; cases hk), (fun k i o _ _ _ _ _ _ hk => by rw [ownsOf_nil] at hk; cases hk), fun _ _ _ => rfl, hF⟩, hm _ _ _ _ hR⟩⟩
theorem CallOK.told {P : Program} {f : FuncId} {As : List SV} {R R' : SV} {news news' : List Hl} (ss : List (Nat × Src)) (h : CallOK P f As R news) (hc : conj (conv ss ⟨[(0, R)], newsL 0 news, news.length⟩ ⟨[(0, R')], newsL 0 news', news'.length⟩)) : CallOK P f As R' news' :=
  ⟨h.cal, fun η0 F w vals hF hA => (h.run η0 F w vals hF hA).mono fun e w' ⟨v, η, e1, hp, hR⟩ => by
    have hs : (Stt.ss ⟨[(0, R)], newsL 0 news, news.length⟩).own = ownsOf 0 news := funext fun k => newsL_lk news 0 k
    have hs' : (Stt.ss ⟨[(0, R')], newsL 0 news', news'.length⟩).own = ownsOf 0 news' := funext fun k => newsL_lk news' 0 k
    have hS2 : Sat (fun _ => False) F w 1 (Stt.ss ⟨[(0, R)], newsL 0 news, news.length⟩) η ⟨#[v], []⟩ w' := ⟨by rw [hs]; exact hp, fun t => by
      rw [hs]
      show (if t = 0 then R else SV.any).R _ _ _ _
      split
      · rename_i e; subst e; exact hR
      · trivial, rfl, rfl⟩
    have hC := hS2.conv hc
    have h1 := hC.hp
    have h2 := hC.sl 0
    rw [hs'] at h1 h2
    exact ⟨v, etaC ss η, e1, h1, h2⟩⟩
theorem CallOK.frzV {P : Program} {f : FuncId} {As : List SV} {T : TypeId} {n : Nat} {q : Nat → Rat} (h : CallOK P f As (.own 0 0) [.one (.row T 3 (fun i => .rat (q i)) n)]) : CallOK P f As (.sl 3 (fun i => .rat (q i)) n) [] :=
  h.told [] (Eq.mp (α := n = n ∧ ∀ j, j < n → q j = q j) (by kernel_rfl) ⟨rfl, fun _ _ => rfl⟩)
theorem CallOK.frzV2 {P : Program} {f : FuncId} {As : List SV} {T : TypeId} {n : Nat} {q : Nat → Rat} {b : Bool} (h : CallOK P f As (.cn (.own 0 0) (.cn (.ex (.bool b)) .nl)) [.one (.row T 3 (fun i => .rat (q i)) n)]) : CallOK P f As (.cn (.sl 3 (fun i => .rat (q i)) n) (.cn (.ex (.bool b)) .nl)) [] :=
  h.told [] (Eq.mp (α := n = n ∧ (∀ j, j < n → q j = q j) ∧ b = b) (by kernel_rfl) ⟨rfl, fun _ _ => rfl, rfl⟩)
theorem sRatAdd {p q : Rat} (hs : szq p + szq q ≤ 17179869184) : CallOK Try.prog 15 [.rat p, .rat q] (.rat (p + q)) [] := by
  refine .of_ret (m := .rat (p + q)) (callable_of Try.func15 rfl (by kernel_rfl)) (fun _ _ _ v h => h) fun η F w vals h => ?_
  match vals, h with
  | [v0, v1], h => exact cRatAdd h.1 h.2.1 hs
theorem sRatMul {p q : Rat} (hs : szq p + szq q ≤ 17179869184) : CallOK Try.prog 58 [.rat p, .rat q] (.rat (p * q)) [] := by
  refine .of_ret (m := .rat (p * q)) (callable_of Try.func58 rfl (by kernel_rfl)) (fun _ _ _ v h => h) fun η F w vals h => ?_
  match vals, h with
  | [v0, v1], h => exact cRatMul h.1 h.2.1 hs
theorem sRatCmp {p q : Rat} (hs : szq p + szq q ≤ 17179869184) : CallOK Try.prog 49 [.rat p, .rat q] (.ex (.int .i64 (cmpQ p q))) [] := by
  refine .of_ret (m := .eq (.int .i64 (cmpQ p q))) (callable_of Try.func49 rfl (by kernel_rfl)) (fun _ _ _ v h => h) fun η F w vals h => ?_
  match vals, h with
  | [v0, v1], h => exact cRatCmp h.1 h.2.1 hs
theorem sRatSame {p q : Rat} (hs : szq p + szq q ≤ 17179869184) : CallOK Try.prog 28 [.rat p, .rat q] (.ex (.bool (decide (p = q)))) [] := by
  refine .of_ret (m := .eq (.bool (decide (p = q)))) (callable_of Try.func28 rfl (by kernel_rfl)) (fun _ _ _ v h => h) fun η F w vals h => ?_
  match vals, h with
  | [v0, v1], h => exact cRatSame h.1 h.2.1 hs
theorem sRatZero {q : Rat}  : CallOK Try.prog 24 [.rat q] (.ex (.bool (decide (q = 0)))) [] := by
  refine .of_ret (m := .eq (.bool (decide (q = 0)))) (callable_of Try.func24 rfl (by kernel_rfl)) (fun _ _ _ v h => h) fun η F w vals h => ?_
  match vals, h with
  | [v0], h => exact cRatZero h.1
theorem sRatSign {q : Rat}  : CallOK Try.prog 23 [.rat q] (.ex (.int .i64 q.num.sign)) [] := by
  refine .of_ret (m := .eq (.int .i64 (q.num.sign))) (callable_of Try.func23 rfl (by kernel_rfl)) (fun _ _ _ v h => h) fun η F w vals h => ?_
  match vals, h with
  | [v0], h => exact cRatSign h.1
theorem sRatNum {q : Rat}  : CallOK Try.prog 74 [.rat q] (.int q.num) [] := by
  refine .of_ret (m := .int q.num) (callable_of Try.func74 rfl (by kernel_rfl)) (fun _ _ _ v h => h) fun η F w vals h => ?_
  match vals, h with
  | [v0], h => exact cRatNum h.1
theorem sRatDen {q : Rat}  : CallOK Try.prog 56 [.rat q] (.nat q.den) [] := by
  refine .of_ret (m := .nat q.den) (callable_of Try.func56 rfl (by kernel_rfl)) (fun _ _ _ v h => h) fun η F w vals h => ?_
  match vals, h with
  | [v0], h => exact cRatDen h.1
theorem sRatBits {q : Rat}  : CallOK Try.prog 68 [.rat q] (.ex (.int .i64 (((Wd.blen q.num.natAbs + Wd.blen q.den : Nat) : Int)))) [] := by
  refine .of_ret (m := .eq (.int .i64 (((Wd.blen q.num.natAbs + Wd.blen q.den : Nat) : Int)))) (callable_of Try.func68 rfl (by kernel_rfl)) (fun _ _ _ v h => h) fun η F w vals h => ?_
  match vals, h with
  | [v0], h => exact cRatBits h.1
theorem sRatInt {x : Int} (hl : -9223372036854775808 ≤ x) (hu : x < 9223372036854775808) : CallOK Try.prog 16 [.ex (.int .i64 x)] (.rat (((x : Int) : Rat))) [] := by
  refine .of_ret (m := .rat ((x : Int) : Rat)) (callable_of Try.func16 rfl (by kernel_rfl)) (fun _ _ _ v h => h) fun η F w vals h => ?_
  match vals, h with
  | [v0], h => exact (by obtain rfl := h.1; exact cRatInt hl hu)
theorem sRatOf {x y : Int} (hl : -9223372036854775808 ≤ x) (hu : x < 9223372036854775808) (hl2 : -9223372036854775808 ≤ y) (hu2 : y < 9223372036854775808) : CallOK Try.prog 59 [.ex (.int .i64 x), .ex (.int .i64 y)] (.cn (.rat (Rat.divInt x y)) (.cn (.ex (.bool (!decide (y = 0)))) (.nl))) [] := by
  refine .of_ret (m := .tup2 (.rat (Rat.divInt x y)) (.eq (.bool (!decide (y = 0))))) (callable_of Try.func59 rfl (by kernel_rfl)) (fun _ _ _ v h => by obtain ⟨x, y, rfl, h1, h2⟩ := h; exact ⟨x, [y], rfl, h1, y, [], rfl, h2, rfl⟩) fun η F w vals h => ?_
  match vals, h with
  | [v0, v1], h => exact (by obtain rfl := h.1; obtain rfl := h.2.1; exact cRatOf hl hu hl2 hu2)
theorem sIntCmp {y z : Int}  : CallOK Try.prog 73 [.int y, .int z] (.ex (.int .i64 (cmpV y z))) [] := by
  refine .of_ret (m := .eq (.int .i64 (cmpV y z))) (callable_of Try.func73 rfl (by kernel_rfl)) (fun _ _ _ v h => h) fun η F w vals h => ?_
  match vals, h with
  | [v0, v1], h => exact cIntCmp h.1 h.2.1
theorem sNatCmp {x y : Nat}  : CallOK Try.prog 75 [.nat x, .nat y] (.ex (.int .i64 (cmpV ((x : Nat) : Int) ((y : Nat) : Int)))) [] := by
  refine .of_ret (m := .eq (.int .i64 (cmpV x y))) (callable_of Try.func75 rfl (by kernel_rfl)) (fun _ _ _ v h => h) fun η F w vals h => ?_
  match vals, h with
  | [v0, v1], h => exact cNatCmp h.1 h.2.1
end Go.Proofs.Ytngghjhmfpmilaa
