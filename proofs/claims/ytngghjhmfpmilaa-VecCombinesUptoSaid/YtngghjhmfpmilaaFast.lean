/- A whole region by what its operations yield, one operation after the other, each met at the head of what is left of the list. -/
import Derived.Test.YtngghjhmfpmilaaStep
namespace Go.Proofs.Ytngghjhmfpmilaa
open Go.RowKit
section
variable {P : Program} {ops : Array Oper} {n : Nat} {news lz kb : List Nat} {w0 : World} {o : Oper} {nd : List (Tmp × MR)} {L : List (Tmp × MR)} {e0 : Tmp → Value} {k : Nat} {R : MR}
def ContsP : List (Tmp × MR) → ((Tmp → Value) → Prop) → (Tmp → Value) → World → Prop
  | [], K, e, _ => K e
  | (d, R) :: js, K, e, w => ∀ v, R.R w v → ContsP js K (upE e d v) w
theorem contsP_of {K : (Tmp → Value) → Prop} {w : World} : ∀ (js : List Nat) (e : Tmp → Value), ContsP (js.map fun j => (DL L j, RL L j)) K e w → ContsE L js K e w
  | [], _, h => h
  | _ :: js, _, h => fun v hv => contsP_of js _ (h v hv)
theorem ContsP.fin {K : (Tmp → Value) → Prop} {e : Tmp → Value} {w : World} (h : K e) : ContsP [] K e w := h
/-- operation k, which is o, yields what is in R -/
structure StepH (P : Program) (ops : Array Oper) (L : List (Tmp × MR)) (news lz kb : List Nat) (e0 : Tmp → Value) (w0 : World) (k : Nat) (o : Oper) (R : MR) : Prop where
  run : ops.toList[k]? = some o → RL L k = R → StepE P ops L news lz kb e0 w0 k
theorem StepH.of (hnd : (needs ops L.length k).map (fun j => (DL L j, RL L j)) = nd) (hlz : lz.contains k = false) (hg : o.guard = none) (hn : news.contains k = false)
    (h : ∀ w, Grow w0 w → ContsP nd (fun e => Yld P o (evalE e) w (fun v w' => Grow w w' ∧ R.R w' v)) e0 w) : StepH P ops L news lz kb e0 w0 k o R := ⟨fun ho hR => by
  refine StepE.of ho rfl hlz hg hn fun w hw => contsP_of _ _ ?_
  rw [hnd, hR]
  exact h w hw⟩
theorem StepH.new (hnd : (needs ops L.length k).map (fun j => (DL L j, RL L j)) = nd) (hlz : lz.contains k = false) (hg : o.guard = none)
    (h : ∀ w, Grow w0 w → ContsP nd (fun e => Yld P o (evalE e) w (fun v w' => Grow w w' ∧ R.R w' v ∧ Fresh w w' v)) e0 w) : StepH P ops L news lz kb e0 w0 k o R := ⟨fun ho hR => by
  refine StepE.new ho rfl hlz hg fun w hw => contsP_of _ _ ?_
  rw [hnd, hR]
  exact h w hw⟩
theorem StepH.opt {g : Nat} {d : Tmp} {want c : Bool} {A : MR} (hnd : (needs ops L.length k).map (fun j => (DL L j, RL L j)) = nd) (hlz : lz.contains k = false) (hg : o.guard = some (g, want)) (hd : DL L g = d) (hn : news.contains k = false)
    (h : ∀ w, Grow w0 w → ContsP nd (fun e => (guardV (e d) == some want) = c ∧ (c = true → Yld P o (evalE e) w (fun v w' => Grow w w' ∧ A.R w' v))) e0 w) : StepH P ops L news lz kb e0 w0 k o (.opt c A) := ⟨fun ho hR => by
  refine StepE.opt ho rfl hlz hg hn hR fun w hw => contsP_of _ _ ?_
  rw [hnd, hd]
  exact h w hw⟩
theorem StepH.lazy (hnd : (needs ops L.length k).map (fun j => (DL L j, RL L j)) = nd) (hlz : lz.contains k = true) (hg : o.guard = none)
    (h : ∀ w, Grow w0 w → ContsP nd (fun e => ∃ v, (∀ w2, Kept kb w w2 → (execOp (evalE e) o).run P w2 = .ok (.value v) w2) ∧ R.R w v) e0 w) : StepH P ops L news lz kb e0 w0 k o R := ⟨fun ho hR => by
  refine StepE.lazy ho rfl hlz hg fun w hw => contsP_of _ _ ?_
  rw [hnd, hR]
  exact h w hw⟩
inductive StepsH (P : Program) (ops : Array Oper) (L : List (Tmp × MR)) (news lz kb : List Nat) (e0 : Tmp → Value) (w0 : World) : Nat → List Oper → List (Tmp × MR) → Prop
  | nil (k : Nat) (os : List Oper) : StepsH P ops L news lz kb e0 w0 k os []
  | cons {k k' : Nat} {o : Oper} {os : List Oper} {d : Tmp} {R : MR} {Ls : List (Tmp × MR)} (hk : Nat.succ k = k') (h : StepH P ops L news lz kb e0 w0 k o R) (t : StepsH P ops L news lz kb e0 w0 k' os Ls) : StepsH P ops L news lz kb e0 w0 k (o :: os) ((d, R) :: Ls)
theorem StepsH.steps {k : Nat} {os : List Oper} {Ls : List (Tmp × MR)} (h : StepsH P ops L news lz kb e0 w0 k os Ls) (h1 : ops.toList.drop k = os) (h2 : L.drop k = Ls) : Steps P ops L news lz kb e0 w0 k Ls.length := by
  induction h with
  | nil => exact .nil _
  | @cons k k' o os d R Ls hk hs _ ih =>
    subst hk
    have e1 : ops.toList[k]? = some o := by
      have := congrArg (fun l => l[0]?) h1
      simpa using this
    have e2 : L[k]? = some (d, R) := by
      have := congrArg (fun l => l[0]?) h2
      simpa using this
    refine .cons (hs.run e1 ?_) (ih ?_ ?_)
    · simp [RL, List.getD, e2]
    · have := congrArg List.tail h1; rw [List.tail_drop] at this; exact this
    · have := congrArg List.tail h2; rw [List.tail_drop] at this; exact this
variable {Q : Exit → Act → World → Prop}
/-- THE REGION -/
theorem wp_region_fast {id : Nat} {draw : Bool} {l : List Value} {os : List Oper} (L : List (Tmp × MR)) (news lz kb : List Nat) (N n : Nat) (hm : P.follows .mixedOrders = true) (hops : ops = os.toArray) (hn : L.length = n) (hc : relOK .any ops n N lz = true) (hw : newsOK n news lz = true) (hd : dstOK ops L = true) (hN : l.length = N) (hQ : NoLook Q)
    (hst : StepsH P ops L news lz kb (fun t => l.getD t undef) w0 0 os L)
    (htl : ∀ w, Grow w0 w → ContsL L (fun vs l => ApartL w0 w vs news → wpListS P ops Q (Kept kb w) (os.drop n) ⟨l.toArray, []⟩ w) [] l w) : (Code.region id ops draw).wp P Q ⟨l.toArray, []⟩ w0 := by
  subst hn
  have e : ops.toList = os := by rw [hops]
  refine wp_region_go L news lz kb N hm hc hw hd hN hQ (hst.steps (by rw [e]; rfl) rfl) fun w hw => ?_
  rw [e]
  exact htl w hw
/-! short forms for the printer -/
theorem so {d : Tmp} {os : List Oper} {Ls : List (Tmp × MR)} (nd : List Nat) (h : ∀ w, Grow w0 w → ContsP (nd.map fun j => (DL L j, RL L j)) (fun e => Yld P o (evalE e) w (fun v w' => Grow w w' ∧ R.R w' v)) e0 w) (t : StepsH P ops L news lz kb e0 w0 (k + 1) os Ls)
    (hnd : needs ops L.length k = nd := by kernel_rfl) (hlz : lz.contains k = false := by kernel_rfl) (hg : o.guard = none := by rfl) (hn : news.contains k = false := by kernel_rfl) : StepsH P ops L news lz kb e0 w0 k (o :: os) ((d, R) :: Ls) :=
  .cons rfl (.of (by rw [hnd]) hlz hg hn h) t
theorem sn {d : Tmp} {os : List Oper} {Ls : List (Tmp × MR)} (nd : List Nat) (h : ∀ w, Grow w0 w → ContsP (nd.map fun j => (DL L j, RL L j)) (fun e => Yld P o (evalE e) w (fun v w' => Grow w w' ∧ R.R w' v ∧ Fresh w w' v)) e0 w) (t : StepsH P ops L news lz kb e0 w0 (k + 1) os Ls)
    (hnd : needs ops L.length k = nd := by kernel_rfl) (hlz : lz.contains k = false := by kernel_rfl) (hg : o.guard = none := by rfl) : StepsH P ops L news lz kb e0 w0 k (o :: os) ((d, R) :: Ls) :=
  .cons rfl (.new (by rw [hnd]) hlz hg h) t
theorem sg {g : Nat} {d : Tmp} {want c : Bool} {A : MR} {os : List Oper} {Ls : List (Tmp × MR)} (dg : Tmp) (nd : List Nat) (h : ∀ w, Grow w0 w → ContsP (nd.map fun j => (DL L j, RL L j)) (fun e => (guardV (e dg) == some want) = c ∧ (c = true → Yld P o (evalE e) w (fun v w' => Grow w w' ∧ A.R w' v))) e0 w) (t : StepsH P ops L news lz kb e0 w0 (k + 1) os Ls)
    (hg : o.guard = some (g, want) := by rfl) (hd : DL L g = dg := by kernel_rfl) (hnd : needs ops L.length k = nd := by kernel_rfl) (hlz : lz.contains k = false := by kernel_rfl) (hn : news.contains k = false := by kernel_rfl) : StepsH P ops L news lz kb e0 w0 k (o :: os) ((d, .opt c A) :: Ls) :=
  .cons rfl (.opt (by rw [hnd]) hlz hg hd hn h) t
theorem sl {d : Tmp} {os : List Oper} {Ls : List (Tmp × MR)} (nd : List Nat) (h : ∀ w, Grow w0 w → ContsP (nd.map fun j => (DL L j, RL L j)) (fun e => ∃ v, (∀ w2, Kept kb w w2 → (execOp (evalE e) o).run P w2 = .ok (.value v) w2) ∧ R.R w v) e0 w) (t : StepsH P ops L news lz kb e0 w0 (k + 1) os Ls)
    (hnd : needs ops L.length k = nd := by kernel_rfl) (hlz : lz.contains k = true := by kernel_rfl) (hg : o.guard = none := by rfl) : StepsH P ops L news lz kb e0 w0 k (o :: os) ((d, R) :: Ls) :=
  .cons rfl (.lazy (by rw [hnd]) hlz hg h) t
end
end Go.Proofs.Ytngghjhmfpmilaa
