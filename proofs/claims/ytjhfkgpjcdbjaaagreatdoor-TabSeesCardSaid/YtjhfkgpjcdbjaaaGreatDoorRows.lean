/-
  NARROWER THAN 'FOR EVERY INPUT', by the rows' own cells (each row's printed sentence says how): TabNews: laid · TabLeaves: laid · TabSees: laid · TabLines: laid · TabPoints: laid · TabSwaps: laid.
  DERIVED. THE GIVEN ROWS OF THIS SEAT. 6 by the template 'for every input the law returns true; each argument reads behind the call as it read before'; 0 by the template 'total and deterministic' (their statements: YtjhfkgpjcdbjaaaGreatDoorTotals.lean).
  GIVEN WITH THE SEED: the statements are not yours to turn. If you find one false, say at which input.
  Laid BY PROGRAM, IN A SANDBOX (cutbox-rows.mjs): the forced cells as the released guide's own fill.sh prints them over the translation c5573b23b59e03e4… (all of the seat's roots in one cut). By AI agents, Wed Nov 11 2026. No macro, syntax, notation, axiom, sorry.
-/
import Derived.Test.YtjhfkgpjcdbjaaaGreatDoorChecked
import GoSem.Claim
import GoSem.ClaimJoined
import GoSem.ClaimMapViews
import Derived.JoinedTies
import Derived.KernelRfl
namespace Go.Proofs.YtjhfkgpjcdbjaaaGreatDoor
/- THE CELL 'sum', in the pinned program and in every row, IS THE sha256 OF THE DUMP (.gsa) THAT YtjhfkgpjcdbjaaaGreatDoorProg.lean LOADS. Nothing in Lean hashes anything: it is a label: what it is worth is what the hold of that sum in a sandbox is worth. -/
noncomputable def Tryz.pinned : Pinned := { name := "ytjhfkgpjcdbjaaagreatdoor", sum := "c5573b23b59e03e446799718e5b68cf972615f1d3e69f3c68cd09080bcbb341b", checked := Tryz.checked }
namespace Rows
def none {H : Type} : Left H := { results := [], args := [] }

/- WHAT THE LISTED PACKAGE-LEVEL VARIABLES READ AS WHEN THE CALL BEGINS. Each datum BY PROGRAM (the guide's laid-datum.mjs) off the statement by which the dump's own 'gosem.cut.vars' lays the variable. In a bare row this is a premise. The card (YtjhfkgpjcdbjaaaGreatDoorCards.lean) ties it to the program's text. -/
def laid_errors_errorType {H : Type} : DataW H := .iface "internal/reflectlite.rtype" (.agg [.ptr (.lit (.string [101, 114, 114, 111, 114]))])

/-- 'actuarylaw17.TabNews': WHATEVER THE INPUT: true; the input reads as it did. -/
def tabNewsSpec : ChangeSpec := { name := "tabNews", fn := fun _ => fun
  | [d1, d2] => { results := [.lit (.bool true)], args := [d1, d2] }
  | _ => none }
def tabNewsRow : OpenClaim := { program := "ytjhfkgpjcdbjaaagreatdoor", sum := "c5573b23b59e03e446799718e5b68cf972615f1d3e69f3c68cd09080bcbb341b", func := "actuary/actuarylaw17.TabNews", spec := "tabNews", inPlace := ["internal/reflectlite.ValueOf", "(internal/reflectlite.Value).Type", "(internal/reflectlite.Value).IsNil", "internal/reflectlite.TypeOf", "(internal/reflectlite.Value).Elem", "(internal/reflectlite.Value).Set"], unfollowed := true, recurses := true, named := ["errors.errorType"], apart := false, laid := [("errors.errorType", laid_errors_errorType)] }
def TabNewsSaid : Prop := tabNewsRow.holds Tryz.pinned (OpenSpec.ofChange tabNewsSpec)

/-- ITS FALSE NEIGHBOUR: 'it returns false'. Refute it at one input. -/
def tabNewsWrong : ChangeSpec := { name := "tabNews", fn := fun _ => fun
  | [d1, d2] => { results := [.lit (.bool false)], args := [d1, d2] }
  | _ => none }
def TabNewsWrongFalsely : Prop := tabNewsRow.holds Tryz.pinned (OpenSpec.ofChange tabNewsWrong)

/-- 'actuarylaw17.TabLeaves': WHATEVER THE INPUT: true; the input reads as it did. -/
def tabLeavesSpec : ChangeSpec := { name := "tabLeaves", fn := fun _ => fun
  | [d1, d2, d3] => { results := [.lit (.bool true)], args := [d1, d2, d3] }
  | _ => none }
def tabLeavesRow : OpenClaim := { program := "ytjhfkgpjcdbjaaagreatdoor", sum := "c5573b23b59e03e446799718e5b68cf972615f1d3e69f3c68cd09080bcbb341b", func := "actuary/actuarylaw17.TabLeaves", spec := "tabLeaves", inPlace := ["internal/reflectlite.ValueOf", "(internal/reflectlite.Value).Type", "(internal/reflectlite.Value).IsNil", "internal/reflectlite.TypeOf", "(internal/reflectlite.Value).Elem", "(internal/reflectlite.Value).Set"], unfollowed := true, recurses := true, named := ["errors.errorType"], apart := false, laid := [("errors.errorType", laid_errors_errorType)] }
def TabLeavesSaid : Prop := tabLeavesRow.holds Tryz.pinned (OpenSpec.ofChange tabLeavesSpec)

/-- ITS FALSE NEIGHBOUR: 'it returns false'. Refute it at one input. -/
def tabLeavesWrong : ChangeSpec := { name := "tabLeaves", fn := fun _ => fun
  | [d1, d2, d3] => { results := [.lit (.bool false)], args := [d1, d2, d3] }
  | _ => none }
def TabLeavesWrongFalsely : Prop := tabLeavesRow.holds Tryz.pinned (OpenSpec.ofChange tabLeavesWrong)

/-- 'actuarylaw17.TabSees': WHATEVER THE INPUT: true; the input reads as it did. -/
def tabSeesSpec : ChangeSpec := { name := "tabSees", fn := fun _ => fun
  | [d1, d2, d3] => { results := [.lit (.bool true)], args := [d1, d2, d3] }
  | _ => none }
def tabSeesRow : OpenClaim := { program := "ytjhfkgpjcdbjaaagreatdoor", sum := "c5573b23b59e03e446799718e5b68cf972615f1d3e69f3c68cd09080bcbb341b", func := "actuary/actuarylaw17.TabSees", spec := "tabSees", inPlace := ["internal/reflectlite.ValueOf", "(internal/reflectlite.Value).Type", "(internal/reflectlite.Value).IsNil", "internal/reflectlite.TypeOf", "(internal/reflectlite.Value).Elem", "(internal/reflectlite.Value).Set"], unfollowed := true, recurses := true, named := ["errors.errorType"], apart := false, laid := [("errors.errorType", laid_errors_errorType)] }
def TabSeesSaid : Prop := tabSeesRow.holds Tryz.pinned (OpenSpec.ofChange tabSeesSpec)

/-- ITS FALSE NEIGHBOUR: 'it returns false'. Refute it at one input. -/
def tabSeesWrong : ChangeSpec := { name := "tabSees", fn := fun _ => fun
  | [d1, d2, d3] => { results := [.lit (.bool false)], args := [d1, d2, d3] }
  | _ => none }
def TabSeesWrongFalsely : Prop := tabSeesRow.holds Tryz.pinned (OpenSpec.ofChange tabSeesWrong)

/-- 'actuarylaw17.TabLines': WHATEVER THE INPUT: true; the input reads as it did. -/
def tabLinesSpec : ChangeSpec := { name := "tabLines", fn := fun _ => fun
  | [d1, d2, d3, d4] => { results := [.lit (.bool true)], args := [d1, d2, d3, d4] }
  | _ => none }
def tabLinesRow : OpenClaim := { program := "ytjhfkgpjcdbjaaagreatdoor", sum := "c5573b23b59e03e446799718e5b68cf972615f1d3e69f3c68cd09080bcbb341b", func := "actuary/actuarylaw17.TabLines", spec := "tabLines", inPlace := ["internal/reflectlite.ValueOf", "(internal/reflectlite.Value).Type", "(internal/reflectlite.Value).IsNil", "internal/reflectlite.TypeOf", "(internal/reflectlite.Value).Elem", "(internal/reflectlite.Value).Set"], unfollowed := true, recurses := true, named := ["errors.errorType"], apart := false, laid := [("errors.errorType", laid_errors_errorType)] }
def TabLinesSaid : Prop := tabLinesRow.holds Tryz.pinned (OpenSpec.ofChange tabLinesSpec)

/-- ITS FALSE NEIGHBOUR: 'it returns false'. Refute it at one input. -/
def tabLinesWrong : ChangeSpec := { name := "tabLines", fn := fun _ => fun
  | [d1, d2, d3, d4] => { results := [.lit (.bool false)], args := [d1, d2, d3, d4] }
  | _ => none }
def TabLinesWrongFalsely : Prop := tabLinesRow.holds Tryz.pinned (OpenSpec.ofChange tabLinesWrong)

/-- 'actuarylaw17.TabPoints': WHATEVER THE INPUT: true; the input reads as it did. -/
def tabPointsSpec : ChangeSpec := { name := "tabPoints", fn := fun _ => fun
  | [d1, d2, d3] => { results := [.lit (.bool true)], args := [d1, d2, d3] }
  | _ => none }
def tabPointsRow : OpenClaim := { program := "ytjhfkgpjcdbjaaagreatdoor", sum := "c5573b23b59e03e446799718e5b68cf972615f1d3e69f3c68cd09080bcbb341b", func := "actuary/actuarylaw17.TabPoints", spec := "tabPoints", inPlace := ["internal/reflectlite.ValueOf", "(internal/reflectlite.Value).Type", "(internal/reflectlite.Value).IsNil", "internal/reflectlite.TypeOf", "(internal/reflectlite.Value).Elem", "(internal/reflectlite.Value).Set"], unfollowed := true, recurses := true, named := ["errors.errorType"], apart := false, laid := [("errors.errorType", laid_errors_errorType)] }
def TabPointsSaid : Prop := tabPointsRow.holds Tryz.pinned (OpenSpec.ofChange tabPointsSpec)

/-- ITS FALSE NEIGHBOUR: 'it returns false'. Refute it at one input. -/
def tabPointsWrong : ChangeSpec := { name := "tabPoints", fn := fun _ => fun
  | [d1, d2, d3] => { results := [.lit (.bool false)], args := [d1, d2, d3] }
  | _ => none }
def TabPointsWrongFalsely : Prop := tabPointsRow.holds Tryz.pinned (OpenSpec.ofChange tabPointsWrong)

/-- 'actuarylaw17.TabSwaps': WHATEVER THE INPUT: true; the input reads as it did. -/
def tabSwapsSpec : ChangeSpec := { name := "tabSwaps", fn := fun _ => fun
  | [d1, d2, d3, d4] => { results := [.lit (.bool true)], args := [d1, d2, d3, d4] }
  | _ => none }
def tabSwapsRow : OpenClaim := { program := "ytjhfkgpjcdbjaaagreatdoor", sum := "c5573b23b59e03e446799718e5b68cf972615f1d3e69f3c68cd09080bcbb341b", func := "actuary/actuarylaw17.TabSwaps", spec := "tabSwaps", inPlace := ["internal/reflectlite.ValueOf", "(internal/reflectlite.Value).Type", "(internal/reflectlite.Value).IsNil", "internal/reflectlite.TypeOf", "(internal/reflectlite.Value).Elem", "(internal/reflectlite.Value).Set"], unfollowed := true, recurses := true, named := ["errors.errorType"], apart := false, laid := [("errors.errorType", laid_errors_errorType)] }
def TabSwapsSaid : Prop := tabSwapsRow.holds Tryz.pinned (OpenSpec.ofChange tabSwapsSpec)

/-- ITS FALSE NEIGHBOUR: 'it returns false'. Refute it at one input. -/
def tabSwapsWrong : ChangeSpec := { name := "tabSwaps", fn := fun _ => fun
  | [d1, d2, d3, d4] => { results := [.lit (.bool false)], args := [d1, d2, d3, d4] }
  | _ => none }
def TabSwapsWrongFalsely : Prop := tabSwapsRow.holds Tryz.pinned (OpenSpec.ofChange tabSwapsWrong)

/- THE SECOND FORM. 'bulk': how many values and letters a reading holds, each counted each time it is reached (what is shared counts as often as it is met; a slice's spare places count too). A statement '..UptoSaid' is the law's where the arguments, and the package variables that the reading takes, are together of bulk at most 1048576: NARROWER than '..Said'. Prove '..Said' where nothing that the law and all that it calls make is longer than what came in: it says more and counts as full. Else prove '..UptoSaid'. A law counts once. -/
mutual
def uptoBulk {H : Type} : DataW H → Nat
  | .lit (.string bytes) => bytes.length + 1
  | .lit _ => 1
  | .nil => 1
  | .ptr d => uptoBulk d + 1
  | .slice elems spare => uptoBulkAll elems + uptoBulkAll spare + 1
  | .agg parts => uptoBulkAll parts + 1
  | .iface _ d => uptoBulk d + 1
  | .map entries => uptoBulkEntries entries + 1
  | .held _ => 1
def uptoBulkAll {H : Type} : List (DataW H) → Nat
  | [] => 0
  | d :: r => uptoBulk d + uptoBulkAll r
def uptoBulkEntries {H : Type} : List (Lit × DataW H) → Nat
  | [] => 0
  | x :: r => uptoBulkEntry x + uptoBulkEntries r
def uptoBulkEntry {H : Type} : Lit × DataW H → Nat
  | (.string bytes, d) => bytes.length + uptoBulk d + 1
  | (_, d) => uptoBulk d + 1
 end
def uptoSmall : (H : Type) → List (DataW H) → Bool := fun _ ds => decide (uptoBulkAll ds ≤ 1048576)
def OpenSpec.upto (s : _root_.Go.ChangeSpec) : _root_.Go.OpenSpec := { _root_.Go.OpenSpec.ofChange s with cond := some uptoSmall }

/-- 'actuarylaw17.TabNews', WHERE WHAT IT READS IS OF BULK AT MOST 1048576: true; the input reads as it did. -/
def tabNewsUptoRow : OpenClaim := { program := "ytjhfkgpjcdbjaaagreatdoor", sum := "c5573b23b59e03e446799718e5b68cf972615f1d3e69f3c68cd09080bcbb341b", func := "actuary/actuarylaw17.TabNews", spec := "tabNews", inPlace := ["internal/reflectlite.ValueOf", "(internal/reflectlite.Value).Type", "(internal/reflectlite.Value).IsNil", "internal/reflectlite.TypeOf", "(internal/reflectlite.Value).Elem", "(internal/reflectlite.Value).Set"], unfollowed := true, recurses := true, named := ["errors.errorType"], apart := false, laid := [("errors.errorType", laid_errors_errorType)], narrowed := true }
def TabNewsUptoSaid : Prop := tabNewsUptoRow.holds Tryz.pinned (OpenSpec.upto tabNewsSpec)

/-- 'actuarylaw17.TabLeaves', WHERE WHAT IT READS IS OF BULK AT MOST 1048576: true; the input reads as it did. -/
def tabLeavesUptoRow : OpenClaim := { program := "ytjhfkgpjcdbjaaagreatdoor", sum := "c5573b23b59e03e446799718e5b68cf972615f1d3e69f3c68cd09080bcbb341b", func := "actuary/actuarylaw17.TabLeaves", spec := "tabLeaves", inPlace := ["internal/reflectlite.ValueOf", "(internal/reflectlite.Value).Type", "(internal/reflectlite.Value).IsNil", "internal/reflectlite.TypeOf", "(internal/reflectlite.Value).Elem", "(internal/reflectlite.Value).Set"], unfollowed := true, recurses := true, named := ["errors.errorType"], apart := false, laid := [("errors.errorType", laid_errors_errorType)], narrowed := true }
def TabLeavesUptoSaid : Prop := tabLeavesUptoRow.holds Tryz.pinned (OpenSpec.upto tabLeavesSpec)

/-- 'actuarylaw17.TabSees', WHERE WHAT IT READS IS OF BULK AT MOST 1048576: true; the input reads as it did. -/
def tabSeesUptoRow : OpenClaim := { program := "ytjhfkgpjcdbjaaagreatdoor", sum := "c5573b23b59e03e446799718e5b68cf972615f1d3e69f3c68cd09080bcbb341b", func := "actuary/actuarylaw17.TabSees", spec := "tabSees", inPlace := ["internal/reflectlite.ValueOf", "(internal/reflectlite.Value).Type", "(internal/reflectlite.Value).IsNil", "internal/reflectlite.TypeOf", "(internal/reflectlite.Value).Elem", "(internal/reflectlite.Value).Set"], unfollowed := true, recurses := true, named := ["errors.errorType"], apart := false, laid := [("errors.errorType", laid_errors_errorType)], narrowed := true }
def TabSeesUptoSaid : Prop := tabSeesUptoRow.holds Tryz.pinned (OpenSpec.upto tabSeesSpec)

/-- 'actuarylaw17.TabLines', WHERE WHAT IT READS IS OF BULK AT MOST 1048576: true; the input reads as it did. -/
def tabLinesUptoRow : OpenClaim := { program := "ytjhfkgpjcdbjaaagreatdoor", sum := "c5573b23b59e03e446799718e5b68cf972615f1d3e69f3c68cd09080bcbb341b", func := "actuary/actuarylaw17.TabLines", spec := "tabLines", inPlace := ["internal/reflectlite.ValueOf", "(internal/reflectlite.Value).Type", "(internal/reflectlite.Value).IsNil", "internal/reflectlite.TypeOf", "(internal/reflectlite.Value).Elem", "(internal/reflectlite.Value).Set"], unfollowed := true, recurses := true, named := ["errors.errorType"], apart := false, laid := [("errors.errorType", laid_errors_errorType)], narrowed := true }
def TabLinesUptoSaid : Prop := tabLinesUptoRow.holds Tryz.pinned (OpenSpec.upto tabLinesSpec)

/-- 'actuarylaw17.TabPoints', WHERE WHAT IT READS IS OF BULK AT MOST 1048576: true; the input reads as it did. -/
def tabPointsUptoRow : OpenClaim := { program := "ytjhfkgpjcdbjaaagreatdoor", sum := "c5573b23b59e03e446799718e5b68cf972615f1d3e69f3c68cd09080bcbb341b", func := "actuary/actuarylaw17.TabPoints", spec := "tabPoints", inPlace := ["internal/reflectlite.ValueOf", "(internal/reflectlite.Value).Type", "(internal/reflectlite.Value).IsNil", "internal/reflectlite.TypeOf", "(internal/reflectlite.Value).Elem", "(internal/reflectlite.Value).Set"], unfollowed := true, recurses := true, named := ["errors.errorType"], apart := false, laid := [("errors.errorType", laid_errors_errorType)], narrowed := true }
def TabPointsUptoSaid : Prop := tabPointsUptoRow.holds Tryz.pinned (OpenSpec.upto tabPointsSpec)

/-- 'actuarylaw17.TabSwaps', WHERE WHAT IT READS IS OF BULK AT MOST 1048576: true; the input reads as it did. -/
def tabSwapsUptoRow : OpenClaim := { program := "ytjhfkgpjcdbjaaagreatdoor", sum := "c5573b23b59e03e446799718e5b68cf972615f1d3e69f3c68cd09080bcbb341b", func := "actuary/actuarylaw17.TabSwaps", spec := "tabSwaps", inPlace := ["internal/reflectlite.ValueOf", "(internal/reflectlite.Value).Type", "(internal/reflectlite.Value).IsNil", "internal/reflectlite.TypeOf", "(internal/reflectlite.Value).Elem", "(internal/reflectlite.Value).Set"], unfollowed := true, recurses := true, named := ["errors.errorType"], apart := false, laid := [("errors.errorType", laid_errors_errorType)], narrowed := true }
def TabSwapsUptoSaid : Prop := tabSwapsUptoRow.holds Tryz.pinned (OpenSpec.upto tabSwapsSpec)

end Rows
end Go.Proofs.YtjhfkgpjcdbjaaaGreatDoor
