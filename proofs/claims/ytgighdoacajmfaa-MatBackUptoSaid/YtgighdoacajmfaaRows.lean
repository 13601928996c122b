/-
  No cell of these rows narrows 'for every input' (looked for: loops, veiled, ifaces, maps, wideKeys, modest, calm, conditions, laid).
  DERIVED. THE GIVEN ROWS OF THIS SEAT. 3 by the template 'for every input the law returns true; each argument reads behind the call as it read before'; 0 by the template 'total and deterministic' (their statements: YtgighdoacajmfaaTotals.lean).
  GIVEN WITH THE SEED: the statements are not yours to turn. If you find one false, say at which input.
  Laid BY PROGRAM, IN A SANDBOX (cutbox-rows.mjs): the forced cells as the released guide's own fill.sh prints them over the translation 048e2f352155fe12… (all of the seat's roots in one cut). By AI agents, Wed Nov 11 2026. No macro, syntax, notation, axiom, sorry.
-/
import Derived.Test.YtgighdoacajmfaaChecked
import GoSem.Claim
import GoSem.ClaimJoined
import GoSem.ClaimMapViews
import Derived.JoinedTies
import Derived.KernelRfl
namespace Go.Proofs.Ytgighdoacajmfaa
/- THE CELL 'sum', in the pinned program and in every row, IS THE sha256 OF THE DUMP (.gsa) THAT YtgighdoacajmfaaProg.lean LOADS. Nothing in Lean hashes anything: it is a label: what it is worth is what the hold of that sum in a sandbox is worth. -/
noncomputable def Try.pinned : Pinned := { name := "ytgighdoacajmfaa", sum := "048e2f352155fe1260e6c2f3806ee4a26fe25390ab09e80df656b08060e5d2ad", checked := Try.checked }
namespace Rows
def none {H : Type} : Left H := { results := [], args := [] }

/-- 'actuarylaw15.BoundDets': WHATEVER THE INPUT: true; the input reads as it did. -/
def boundDetsSpec : ChangeSpec := { name := "boundDets", fn := fun _ => fun
  | [d] => { results := [.lit (.bool true)], args := [d] }
  | _ => none }
def boundDetsRow : OpenClaim := { program := "ytgighdoacajmfaa", sum := "048e2f352155fe1260e6c2f3806ee4a26fe25390ab09e80df656b08060e5d2ad", func := "actuary/actuarylaw15.BoundDets", spec := "boundDets", recurses := true, apart := false }
def BoundDetsSaid : Prop := boundDetsRow.holds Try.pinned (OpenSpec.ofChange boundDetsSpec)

/-- ITS FALSE NEIGHBOUR: 'it returns false'. Refute it at one input. -/
def boundDetsWrong : ChangeSpec := { name := "boundDets", fn := fun _ => fun
  | [d] => { results := [.lit (.bool false)], args := [d] }
  | _ => none }
def BoundDetsWrongFalsely : Prop := boundDetsRow.holds Try.pinned (OpenSpec.ofChange boundDetsWrong)

/-- 'actuarylaw15.BoundSolves': WHATEVER THE INPUT: true; the input reads as it did. -/
def boundSolvesSpec : ChangeSpec := { name := "boundSolves", fn := fun _ => fun
  | [d1, d2] => { results := [.lit (.bool true)], args := [d1, d2] }
  | _ => none }
def boundSolvesRow : OpenClaim := { program := "ytgighdoacajmfaa", sum := "048e2f352155fe1260e6c2f3806ee4a26fe25390ab09e80df656b08060e5d2ad", func := "actuary/actuarylaw15.BoundSolves", spec := "boundSolves", recurses := true, apart := false }
def BoundSolvesSaid : Prop := boundSolvesRow.holds Try.pinned (OpenSpec.ofChange boundSolvesSpec)

/-- ITS FALSE NEIGHBOUR: 'it returns false'. Refute it at one input. -/
def boundSolvesWrong : ChangeSpec := { name := "boundSolves", fn := fun _ => fun
  | [d1, d2] => { results := [.lit (.bool false)], args := [d1, d2] }
  | _ => none }
def BoundSolvesWrongFalsely : Prop := boundSolvesRow.holds Try.pinned (OpenSpec.ofChange boundSolvesWrong)

/-- 'actuarylaw11.MatBack': WHATEVER THE INPUT: true; the input reads as it did. -/
def matBackSpec : ChangeSpec := { name := "matBack", fn := fun _ => fun
  | [d1, d2] => { results := [.lit (.bool true)], args := [d1, d2] }
  | _ => none }
def matBackRow : OpenClaim := { program := "ytgighdoacajmfaa", sum := "048e2f352155fe1260e6c2f3806ee4a26fe25390ab09e80df656b08060e5d2ad", func := "actuary/actuarylaw11.MatBack", spec := "matBack", recurses := true, apart := false }
def MatBackSaid : Prop := matBackRow.holds Try.pinned (OpenSpec.ofChange matBackSpec)

/-- ITS FALSE NEIGHBOUR: 'it returns false'. Refute it at one input. -/
def matBackWrong : ChangeSpec := { name := "matBack", fn := fun _ => fun
  | [d1, d2] => { results := [.lit (.bool false)], args := [d1, d2] }
  | _ => none }
def MatBackWrongFalsely : Prop := matBackRow.holds Try.pinned (OpenSpec.ofChange matBackWrong)

/- THE SECOND FORM. 'bulk': how many values and letters a reading holds, each counted each time it is reached (what is shared counts as often as it is met; a slice's spare places count too). A statement '..UptoSaid' is the law's where the arguments, and the package variables that the reading takes, are together of bulk at most 1048576: NARROWER than '..Said'. Prove '..Said' where nothing that the law and all that it calls make is longer than what came in: it says more and counts as full. Else prove '..UptoSaid'. A law counts once. -/
mutual
def uptoBulk {H : Type} : DataW H → Nat
  | .lit (.string bytes) => bytes.length + 1
  | .lit _ => 1
  | .nil => 1
  | .ptr d => uptoBulk d + 1
  | .slice elems spare => uptoBulkAll elems + uptoBulkAll spare + 1
  | .agg parts => uptoBulkAll parts + 1
  | .iface _ d => uptoBulk d + 1
  | .map entries => uptoBulkEntries entries + 1
  | .held _ => 1
def uptoBulkAll {H : Type} : List (DataW H) → Nat
  | [] => 0
  | d :: r => uptoBulk d + uptoBulkAll r
def uptoBulkEntries {H : Type} : List (Lit × DataW H) → Nat
  | [] => 0
  | x :: r => uptoBulkEntry x + uptoBulkEntries r
def uptoBulkEntry {H : Type} : Lit × DataW H → Nat
  | (.string bytes, d) => bytes.length + uptoBulk d + 1
  | (_, d) => uptoBulk d + 1
 end
def uptoSmall : (H : Type) → List (DataW H) → Bool := fun _ ds => decide (uptoBulkAll ds ≤ 1048576)
def OpenSpec.upto (s : _root_.Go.ChangeSpec) : _root_.Go.OpenSpec := { _root_.Go.OpenSpec.ofChange s with cond := some uptoSmall }

/-- 'actuarylaw15.BoundDets', WHERE WHAT IT READS IS OF BULK AT MOST 1048576: true; the input reads as it did. -/
def boundDetsUptoRow : OpenClaim := { program := "ytgighdoacajmfaa", sum := "048e2f352155fe1260e6c2f3806ee4a26fe25390ab09e80df656b08060e5d2ad", func := "actuary/actuarylaw15.BoundDets", spec := "boundDets", recurses := true, apart := false, narrowed := true }
def BoundDetsUptoSaid : Prop := boundDetsUptoRow.holds Try.pinned (OpenSpec.upto boundDetsSpec)

/-- 'actuarylaw15.BoundSolves', WHERE WHAT IT READS IS OF BULK AT MOST 1048576: true; the input reads as it did. -/
def boundSolvesUptoRow : OpenClaim := { program := "ytgighdoacajmfaa", sum := "048e2f352155fe1260e6c2f3806ee4a26fe25390ab09e80df656b08060e5d2ad", func := "actuary/actuarylaw15.BoundSolves", spec := "boundSolves", recurses := true, apart := false, narrowed := true }
def BoundSolvesUptoSaid : Prop := boundSolvesUptoRow.holds Try.pinned (OpenSpec.upto boundSolvesSpec)

/-- 'actuarylaw11.MatBack', WHERE WHAT IT READS IS OF BULK AT MOST 1048576: true; the input reads as it did. -/
def matBackUptoRow : OpenClaim := { program := "ytgighdoacajmfaa", sum := "048e2f352155fe1260e6c2f3806ee4a26fe25390ab09e80df656b08060e5d2ad", func := "actuary/actuarylaw11.MatBack", spec := "matBack", recurses := true, apart := false, narrowed := true }
def MatBackUptoSaid : Prop := matBackUptoRow.holds Try.pinned (OpenSpec.upto matBackSpec)

end Rows
end Go.Proofs.Ytgighdoacajmfaa
