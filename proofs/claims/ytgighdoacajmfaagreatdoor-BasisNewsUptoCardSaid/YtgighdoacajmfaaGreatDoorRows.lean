/-
  NARROWER THAN 'FOR EVERY INPUT', by the rows' own cells (each row's printed sentence says how): BasisFresh: laid · BasisRefuses: laid · BasisBack: laid · BasisNews: laid · BasisDoes: laid · BasisGrows: laid.
  DERIVED. THE GIVEN ROWS OF THIS SEAT. 6 by the template 'for every input the law returns true; each argument reads behind the call as it read before'; 0 by the template 'total and deterministic' (their statements: YtgighdoacajmfaaGreatDoorTotals.lean).
  GIVEN WITH THE SEED: the statements are not yours to turn. If you find one false, say at which input.
  Laid BY PROGRAM, IN A SANDBOX (cutbox-rows.mjs): the forced cells as the released guide's own fill.sh prints them over the translation 654781fa6af9d1ea… (all of the seat's roots in one cut). By AI agents, Wed Nov 11 2026. No macro, syntax, notation, axiom, sorry.
-/
import Derived.Test.YtgighdoacajmfaaGreatDoorChecked
import GoSem.Claim
import GoSem.ClaimJoined
import GoSem.ClaimMapViews
import Derived.JoinedTies
import Derived.KernelRfl
namespace Go.Proofs.YtgighdoacajmfaaGreatDoor
/- THE CELL 'sum', in the pinned program and in every row, IS THE sha256 OF THE DUMP (.gsa) THAT YtgighdoacajmfaaGreatDoorProg.lean LOADS. Nothing in Lean hashes anything: it is a label: what it is worth is what the hold of that sum in a sandbox is worth. -/
noncomputable def Tryz.pinned : Pinned := { name := "ytgighdoacajmfaagreatdoor", sum := "654781fa6af9d1ea3586faac30048cf1d8cfcc6632606a6cfe873174f685bb86", checked := Tryz.checked }
namespace Rows
def none {H : Type} : Left H := { results := [], args := [] }

/- WHAT THE LISTED PACKAGE-LEVEL VARIABLES READ AS WHEN THE CALL BEGINS. Each datum BY PROGRAM (the guide's laid-datum.mjs) off the statement by which the dump's own 'gosem.cut.vars' lays the variable. In a bare row this is a premise. The card (YtgighdoacajmfaaGreatDoorCards.lean) ties it to the program's text. -/
def laid_errors_errorType {H : Type} : DataW H := .iface "internal/reflectlite.rtype" (.agg [.ptr (.lit (.string [101, 114, 114, 111, 114]))])

/-- 'actuarylaw14.BasisFresh': WHATEVER THE INPUT: true; the input reads as it did. -/
def basisFreshSpec : ChangeSpec := { name := "basisFresh", fn := fun _ => fun
  | [d1, d2, d3] => { results := [.lit (.bool true)], args := [d1, d2, d3] }
  | _ => none }
def basisFreshRow : OpenClaim := { program := "ytgighdoacajmfaagreatdoor", sum := "654781fa6af9d1ea3586faac30048cf1d8cfcc6632606a6cfe873174f685bb86", func := "actuary/actuarylaw14.BasisFresh", spec := "basisFresh", inPlace := ["internal/reflectlite.ValueOf", "(internal/reflectlite.Value).Type", "(internal/reflectlite.Value).IsNil", "internal/reflectlite.TypeOf", "(internal/reflectlite.Value).Elem", "(internal/reflectlite.Value).Set"], unfollowed := true, recurses := true, named := ["errors.errorType"], apart := false, laid := [("errors.errorType", laid_errors_errorType)] }
def BasisFreshSaid : Prop := basisFreshRow.holds Tryz.pinned (OpenSpec.ofChange basisFreshSpec)

/-- ITS FALSE NEIGHBOUR: 'it returns false'. Refute it at one input. -/
def basisFreshWrong : ChangeSpec := { name := "basisFresh", fn := fun _ => fun
  | [d1, d2, d3] => { results := [.lit (.bool false)], args := [d1, d2, d3] }
  | _ => none }
def BasisFreshWrongFalsely : Prop := basisFreshRow.holds Tryz.pinned (OpenSpec.ofChange basisFreshWrong)

/-- 'actuarylaw14.BasisRefuses': WHATEVER THE INPUT: true; the input reads as it did. -/
def basisRefusesSpec : ChangeSpec := { name := "basisRefuses", fn := fun _ => fun
  | [d1, d2, d3] => { results := [.lit (.bool true)], args := [d1, d2, d3] }
  | _ => none }
def basisRefusesRow : OpenClaim := { program := "ytgighdoacajmfaagreatdoor", sum := "654781fa6af9d1ea3586faac30048cf1d8cfcc6632606a6cfe873174f685bb86", func := "actuary/actuarylaw14.BasisRefuses", spec := "basisRefuses", inPlace := ["internal/reflectlite.ValueOf", "(internal/reflectlite.Value).Type", "(internal/reflectlite.Value).IsNil", "internal/reflectlite.TypeOf", "(internal/reflectlite.Value).Elem", "(internal/reflectlite.Value).Set"], unfollowed := true, recurses := true, named := ["errors.errorType"], apart := false, laid := [("errors.errorType", laid_errors_errorType)] }
def BasisRefusesSaid : Prop := basisRefusesRow.holds Tryz.pinned (OpenSpec.ofChange basisRefusesSpec)

/-- ITS FALSE NEIGHBOUR: 'it returns false'. Refute it at one input. -/
def basisRefusesWrong : ChangeSpec := { name := "basisRefuses", fn := fun _ => fun
  | [d1, d2, d3] => { results := [.lit (.bool false)], args := [d1, d2, d3] }
  | _ => none }
def BasisRefusesWrongFalsely : Prop := basisRefusesRow.holds Tryz.pinned (OpenSpec.ofChange basisRefusesWrong)

/-- 'actuarylaw14.BasisBack': WHATEVER THE INPUT: true; the input reads as it did. -/
def basisBackSpec : ChangeSpec := { name := "basisBack", fn := fun _ => fun
  | [d1, d2, d3] => { results := [.lit (.bool true)], args := [d1, d2, d3] }
  | _ => none }
def basisBackRow : OpenClaim := { program := "ytgighdoacajmfaagreatdoor", sum := "654781fa6af9d1ea3586faac30048cf1d8cfcc6632606a6cfe873174f685bb86", func := "actuary/actuarylaw14.BasisBack", spec := "basisBack", inPlace := ["internal/reflectlite.ValueOf", "(internal/reflectlite.Value).Type", "(internal/reflectlite.Value).IsNil", "internal/reflectlite.TypeOf", "(internal/reflectlite.Value).Elem", "(internal/reflectlite.Value).Set"], unfollowed := true, recurses := true, named := ["errors.errorType"], apart := false, laid := [("errors.errorType", laid_errors_errorType)] }
def BasisBackSaid : Prop := basisBackRow.holds Tryz.pinned (OpenSpec.ofChange basisBackSpec)

/-- ITS FALSE NEIGHBOUR: 'it returns false'. Refute it at one input. -/
def basisBackWrong : ChangeSpec := { name := "basisBack", fn := fun _ => fun
  | [d1, d2, d3] => { results := [.lit (.bool false)], args := [d1, d2, d3] }
  | _ => none }
def BasisBackWrongFalsely : Prop := basisBackRow.holds Tryz.pinned (OpenSpec.ofChange basisBackWrong)

/-- 'actuarylaw14.BasisNews': WHATEVER THE INPUT: true; the input reads as it did. -/
def basisNewsSpec : ChangeSpec := { name := "basisNews", fn := fun _ => fun
  | [d] => { results := [.lit (.bool true)], args := [d] }
  | _ => none }
def basisNewsRow : OpenClaim := { program := "ytgighdoacajmfaagreatdoor", sum := "654781fa6af9d1ea3586faac30048cf1d8cfcc6632606a6cfe873174f685bb86", func := "actuary/actuarylaw14.BasisNews", spec := "basisNews", inPlace := ["internal/reflectlite.ValueOf", "(internal/reflectlite.Value).Type", "(internal/reflectlite.Value).IsNil", "internal/reflectlite.TypeOf", "(internal/reflectlite.Value).Elem", "(internal/reflectlite.Value).Set"], unfollowed := true, recurses := true, named := ["errors.errorType"], apart := false, laid := [("errors.errorType", laid_errors_errorType)] }
def BasisNewsSaid : Prop := basisNewsRow.holds Tryz.pinned (OpenSpec.ofChange basisNewsSpec)

/-- ITS FALSE NEIGHBOUR: 'it returns false'. Refute it at one input. -/
def basisNewsWrong : ChangeSpec := { name := "basisNews", fn := fun _ => fun
  | [d] => { results := [.lit (.bool false)], args := [d] }
  | _ => none }
def BasisNewsWrongFalsely : Prop := basisNewsRow.holds Tryz.pinned (OpenSpec.ofChange basisNewsWrong)

/-- 'actuarylaw14.BasisDoes': WHATEVER THE INPUT: true; the input reads as it did. -/
def basisDoesSpec : ChangeSpec := { name := "basisDoes", fn := fun _ => fun
  | [d1, d2, d3, d4] => { results := [.lit (.bool true)], args := [d1, d2, d3, d4] }
  | _ => none }
def basisDoesRow : OpenClaim := { program := "ytgighdoacajmfaagreatdoor", sum := "654781fa6af9d1ea3586faac30048cf1d8cfcc6632606a6cfe873174f685bb86", func := "actuary/actuarylaw14.BasisDoes", spec := "basisDoes", inPlace := ["internal/reflectlite.ValueOf", "(internal/reflectlite.Value).Type", "(internal/reflectlite.Value).IsNil", "internal/reflectlite.TypeOf", "(internal/reflectlite.Value).Elem", "(internal/reflectlite.Value).Set"], unfollowed := true, recurses := true, named := ["errors.errorType"], apart := false, laid := [("errors.errorType", laid_errors_errorType)] }
def BasisDoesSaid : Prop := basisDoesRow.holds Tryz.pinned (OpenSpec.ofChange basisDoesSpec)

/-- ITS FALSE NEIGHBOUR: 'it returns false'. Refute it at one input. -/
def basisDoesWrong : ChangeSpec := { name := "basisDoes", fn := fun _ => fun
  | [d1, d2, d3, d4] => { results := [.lit (.bool false)], args := [d1, d2, d3, d4] }
  | _ => none }
def BasisDoesWrongFalsely : Prop := basisDoesRow.holds Tryz.pinned (OpenSpec.ofChange basisDoesWrong)

/-- 'actuarylaw14.BasisGrows': WHATEVER THE INPUT: true; the input reads as it did. -/
def basisGrowsSpec : ChangeSpec := { name := "basisGrows", fn := fun _ => fun
  | [d1, d2, d3, d4] => { results := [.lit (.bool true)], args := [d1, d2, d3, d4] }
  | _ => none }
def basisGrowsRow : OpenClaim := { program := "ytgighdoacajmfaagreatdoor", sum := "654781fa6af9d1ea3586faac30048cf1d8cfcc6632606a6cfe873174f685bb86", func := "actuary/actuarylaw14.BasisGrows", spec := "basisGrows", inPlace := ["internal/reflectlite.ValueOf", "(internal/reflectlite.Value).Type", "(internal/reflectlite.Value).IsNil", "internal/reflectlite.TypeOf", "(internal/reflectlite.Value).Elem", "(internal/reflectlite.Value).Set"], unfollowed := true, recurses := true, named := ["errors.errorType"], apart := false, laid := [("errors.errorType", laid_errors_errorType)] }
def BasisGrowsSaid : Prop := basisGrowsRow.holds Tryz.pinned (OpenSpec.ofChange basisGrowsSpec)

/-- ITS FALSE NEIGHBOUR: 'it returns false'. Refute it at one input. -/
def basisGrowsWrong : ChangeSpec := { name := "basisGrows", fn := fun _ => fun
  | [d1, d2, d3, d4] => { results := [.lit (.bool false)], args := [d1, d2, d3, d4] }
  | _ => none }
def BasisGrowsWrongFalsely : Prop := basisGrowsRow.holds Tryz.pinned (OpenSpec.ofChange basisGrowsWrong)

/- THE SECOND FORM. 'bulk': how many values and letters a reading holds, each counted each time it is reached (what is shared counts as often as it is met; a slice's spare places count too). A statement '..UptoSaid' is the law's where the arguments, and the package variables that the reading takes, are together of bulk at most 1048576: NARROWER than '..Said'. Prove '..Said' where nothing that the law and all that it calls make is longer than what came in: it says more and counts as full. Else prove '..UptoSaid'. A law counts once. -/
mutual
def uptoBulk {H : Type} : DataW H → Nat
  | .lit (.string bytes) => bytes.length + 1
  | .lit _ => 1
  | .nil => 1
  | .ptr d => uptoBulk d + 1
  | .slice elems spare => uptoBulkAll elems + uptoBulkAll spare + 1
  | .agg parts => uptoBulkAll parts + 1
  | .iface _ d => uptoBulk d + 1
  | .map entries => uptoBulkEntries entries + 1
  | .held _ => 1
def uptoBulkAll {H : Type} : List (DataW H) → Nat
  | [] => 0
  | d :: r => uptoBulk d + uptoBulkAll r
def uptoBulkEntries {H : Type} : List (Lit × DataW H) → Nat
  | [] => 0
  | x :: r => uptoBulkEntry x + uptoBulkEntries r
def uptoBulkEntry {H : Type} : Lit × DataW H → Nat
  | (.string bytes, d) => bytes.length + uptoBulk d + 1
  | (_, d) => uptoBulk d + 1
 end
def uptoSmall : (H : Type) → List (DataW H) → Bool := fun _ ds => decide (uptoBulkAll ds ≤ 1048576)
def OpenSpec.upto (s : _root_.Go.ChangeSpec) : _root_.Go.OpenSpec := { _root_.Go.OpenSpec.ofChange s with cond := some uptoSmall }

/-- 'actuarylaw14.BasisFresh', WHERE WHAT IT READS IS OF BULK AT MOST 1048576: true; the input reads as it did. -/
def basisFreshUptoRow : OpenClaim := { program := "ytgighdoacajmfaagreatdoor", sum := "654781fa6af9d1ea3586faac30048cf1d8cfcc6632606a6cfe873174f685bb86", func := "actuary/actuarylaw14.BasisFresh", spec := "basisFresh", inPlace := ["internal/reflectlite.ValueOf", "(internal/reflectlite.Value).Type", "(internal/reflectlite.Value).IsNil", "internal/reflectlite.TypeOf", "(internal/reflectlite.Value).Elem", "(internal/reflectlite.Value).Set"], unfollowed := true, recurses := true, named := ["errors.errorType"], apart := false, laid := [("errors.errorType", laid_errors_errorType)], narrowed := true }
def BasisFreshUptoSaid : Prop := basisFreshUptoRow.holds Tryz.pinned (OpenSpec.upto basisFreshSpec)

/-- 'actuarylaw14.BasisRefuses', WHERE WHAT IT READS IS OF BULK AT MOST 1048576: true; the input reads as it did. -/
def basisRefusesUptoRow : OpenClaim := { program := "ytgighdoacajmfaagreatdoor", sum := "654781fa6af9d1ea3586faac30048cf1d8cfcc6632606a6cfe873174f685bb86", func := "actuary/actuarylaw14.BasisRefuses", spec := "basisRefuses", inPlace := ["internal/reflectlite.ValueOf", "(internal/reflectlite.Value).Type", "(internal/reflectlite.Value).IsNil", "internal/reflectlite.TypeOf", "(internal/reflectlite.Value).Elem", "(internal/reflectlite.Value).Set"], unfollowed := true, recurses := true, named := ["errors.errorType"], apart := false, laid := [("errors.errorType", laid_errors_errorType)], narrowed := true }
def BasisRefusesUptoSaid : Prop := basisRefusesUptoRow.holds Tryz.pinned (OpenSpec.upto basisRefusesSpec)

/-- 'actuarylaw14.BasisBack', WHERE WHAT IT READS IS OF BULK AT MOST 1048576: true; the input reads as it did. -/
def basisBackUptoRow : OpenClaim := { program := "ytgighdoacajmfaagreatdoor", sum := "654781fa6af9d1ea3586faac30048cf1d8cfcc6632606a6cfe873174f685bb86", func := "actuary/actuarylaw14.BasisBack", spec := "basisBack", inPlace := ["internal/reflectlite.ValueOf", "(internal/reflectlite.Value).Type", "(internal/reflectlite.Value).IsNil", "internal/reflectlite.TypeOf", "(internal/reflectlite.Value).Elem", "(internal/reflectlite.Value).Set"], unfollowed := true, recurses := true, named := ["errors.errorType"], apart := false, laid := [("errors.errorType", laid_errors_errorType)], narrowed := true }
def BasisBackUptoSaid : Prop := basisBackUptoRow.holds Tryz.pinned (OpenSpec.upto basisBackSpec)

/-- 'actuarylaw14.BasisNews', WHERE WHAT IT READS IS OF BULK AT MOST 1048576: true; the input reads as it did. -/
def basisNewsUptoRow : OpenClaim := { program := "ytgighdoacajmfaagreatdoor", sum := "654781fa6af9d1ea3586faac30048cf1d8cfcc6632606a6cfe873174f685bb86", func := "actuary/actuarylaw14.BasisNews", spec := "basisNews", inPlace := ["internal/reflectlite.ValueOf", "(internal/reflectlite.Value).Type", "(internal/reflectlite.Value).IsNil", "internal/reflectlite.TypeOf", "(internal/reflectlite.Value).Elem", "(internal/reflectlite.Value).Set"], unfollowed := true, recurses := true, named := ["errors.errorType"], apart := false, laid := [("errors.errorType", laid_errors_errorType)], narrowed := true }
def BasisNewsUptoSaid : Prop := basisNewsUptoRow.holds Tryz.pinned (OpenSpec.upto basisNewsSpec)

/-- 'actuarylaw14.BasisDoes', WHERE WHAT IT READS IS OF BULK AT MOST 1048576: true; the input reads as it did. -/
def basisDoesUptoRow : OpenClaim := { program := "ytgighdoacajmfaagreatdoor", sum := "654781fa6af9d1ea3586faac30048cf1d8cfcc6632606a6cfe873174f685bb86", func := "actuary/actuarylaw14.BasisDoes", spec := "basisDoes", inPlace := ["internal/reflectlite.ValueOf", "(internal/reflectlite.Value).Type", "(internal/reflectlite.Value).IsNil", "internal/reflectlite.TypeOf", "(internal/reflectlite.Value).Elem", "(internal/reflectlite.Value).Set"], unfollowed := true, recurses := true, named := ["errors.errorType"], apart := false, laid := [("errors.errorType", laid_errors_errorType)], narrowed := true }
def BasisDoesUptoSaid : Prop := basisDoesUptoRow.holds Tryz.pinned (OpenSpec.upto basisDoesSpec)

/-- 'actuarylaw14.BasisGrows', WHERE WHAT IT READS IS OF BULK AT MOST 1048576: true; the input reads as it did. -/
def basisGrowsUptoRow : OpenClaim := { program := "ytgighdoacajmfaagreatdoor", sum := "654781fa6af9d1ea3586faac30048cf1d8cfcc6632606a6cfe873174f685bb86", func := "actuary/actuarylaw14.BasisGrows", spec := "basisGrows", inPlace := ["internal/reflectlite.ValueOf", "(internal/reflectlite.Value).Type", "(internal/reflectlite.Value).IsNil", "internal/reflectlite.TypeOf", "(internal/reflectlite.Value).Elem", "(internal/reflectlite.Value).Set"], unfollowed := true, recurses := true, named := ["errors.errorType"], apart := false, laid := [("errors.errorType", laid_errors_errorType)], narrowed := true }
def BasisGrowsUptoSaid : Prop := basisGrowsUptoRow.holds Tryz.pinned (OpenSpec.upto basisGrowsSpec)

end Rows
end Go.Proofs.YtgighdoacajmfaaGreatDoor
