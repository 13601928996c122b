/- The short forms with what is needed written out. -/
import Derived.Test.YtngghjhmfpmilaaFast
namespace Go.Proofs.Ytngghjhmfpmilaa
open Go.RowKit
section
variable {P : Program} {ops : Array Oper} {n : Nat} {news lz kb : List Nat} {w0 : World} {o : Oper} {nd : List (Tmp × MR)} {L : List (Tmp × MR)} {e0 : Tmp → Value} {k : Nat} {R : MR}
/-! .. with what is needed written out -/
theorem soP {d : Tmp} {os : List Oper} {Ls : List (Tmp × MR)} (nd : List (Tmp × MR)) (h : ∀ w, Grow w0 w → ContsP nd (fun e => Yld P o (evalE e) w (fun v w' => Grow w w' ∧ R.R w' v)) e0 w) (t : StepsH P ops L news lz kb e0 w0 (k + 1) os Ls)
    (hnd : (needs ops L.length k).map (fun j => (DL L j, RL L j)) = nd := by kernel_rfl) (hlz : lz.contains k = false := by kernel_rfl) (hg : o.guard = none := by rfl) (hn : news.contains k = false := by kernel_rfl) : StepsH P ops L news lz kb e0 w0 k (o :: os) ((d, R) :: Ls) :=
  .cons rfl (.of hnd hlz hg hn h) t
theorem snP {d : Tmp} {os : List Oper} {Ls : List (Tmp × MR)} (nd : List (Tmp × MR)) (h : ∀ w, Grow w0 w → ContsP nd (fun e => Yld P o (evalE e) w (fun v w' => Grow w w' ∧ R.R w' v ∧ Fresh w w' v)) e0 w) (t : StepsH P ops L news lz kb e0 w0 (k + 1) os Ls)
    (hnd : (needs ops L.length k).map (fun j => (DL L j, RL L j)) = nd := by kernel_rfl) (hlz : lz.contains k = false := by kernel_rfl) (hg : o.guard = none := by rfl) : StepsH P ops L news lz kb e0 w0 k (o :: os) ((d, R) :: Ls) :=
  .cons rfl (.new hnd hlz hg h) t
theorem sgP {g : Nat} {d : Tmp} {want c : Bool} {A : MR} {os : List Oper} {Ls : List (Tmp × MR)} (dg : Tmp) (nd : List (Tmp × MR)) (h : ∀ w, Grow w0 w → ContsP nd (fun e => (guardV (e dg) == some want) = c ∧ (c = true → Yld P o (evalE e) w (fun v w' => Grow w w' ∧ A.R w' v))) e0 w) (t : StepsH P ops L news lz kb e0 w0 (k + 1) os Ls)
    (hg : o.guard = some (g, want) := by rfl) (hd : DL L g = dg := by kernel_rfl) (hnd : (needs ops L.length k).map (fun j => (DL L j, RL L j)) = nd := by kernel_rfl) (hlz : lz.contains k = false := by kernel_rfl) (hn : news.contains k = false := by kernel_rfl) : StepsH P ops L news lz kb e0 w0 k (o :: os) ((d, .opt c A) :: Ls) :=
  .cons rfl (.opt hnd hlz hg hd hn h) t
theorem slP {d : Tmp} {os : List Oper} {Ls : List (Tmp × MR)} (nd : List (Tmp × MR)) (h : ∀ w, Grow w0 w → ContsP nd (fun e => ∃ v, (∀ w2, Kept kb w w2 → (execOp (evalE e) o).run P w2 = .ok (.value v) w2) ∧ R.R w v) e0 w) (t : StepsH P ops L news lz kb e0 w0 (k + 1) os Ls)
    (hnd : (needs ops L.length k).map (fun j => (DL L j, RL L j)) = nd := by kernel_rfl) (hlz : lz.contains k = true := by kernel_rfl) (hg : o.guard = none := by rfl) : StepsH P ops L news lz kb e0 w0 k (o :: os) ((d, R) :: Ls) :=
  .cons rfl (.lazy hnd hlz hg h) t
end
end Go.Proofs.Ytngghjhmfpmilaa
