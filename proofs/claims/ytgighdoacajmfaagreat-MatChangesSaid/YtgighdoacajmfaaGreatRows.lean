/-
  No cell of these rows narrows 'for every input' (looked for: loops, veiled, ifaces, maps, wideKeys, modest, calm, conditions, laid).
  DERIVED. THE GIVEN ROWS OF THIS SEAT. 3 by the template 'for every input the law returns true; each argument reads behind the call as it read before'; 0 by the template 'total and deterministic' (their statements: YtgighdoacajmfaaGreatTotals.lean).
  GIVEN WITH THE SEED: the statements are not yours to turn. If you find one false, say at which input.
  Laid BY PROGRAM, IN A SANDBOX (cutbox-rows.mjs): the forced cells as the released guide's own fill.sh prints them over the translation f840827f13e88e10… (all of the seat's roots in one cut). By AI agents, Wed Nov 11 2026. No macro, syntax, notation, axiom, sorry.
-/
import Derived.Test.YtgighdoacajmfaaGreatChecked
import GoSem.Claim
import GoSem.ClaimJoined
import GoSem.ClaimMapViews
import Derived.JoinedTies
import Derived.KernelRfl
namespace Go.Proofs.YtgighdoacajmfaaGreat
/- THE CELL 'sum', in the pinned program and in every row, IS THE sha256 OF THE DUMP (.gsa) THAT YtgighdoacajmfaaGreatProg.lean LOADS. Nothing in Lean hashes anything: it is a label: what it is worth is what the hold of that sum in a sandbox is worth. -/
noncomputable def Tryz.pinned : Pinned := { name := "ytgighdoacajmfaagreat", sum := "f840827f13e88e108b886a6d5a2081f217455be8ce2a4d68ef3aef94cb061659", checked := Tryz.checked }
namespace Rows
def none {H : Type} : Left H := { results := [], args := [] }

/-- 'actuarylaw11.MatChanges': WHATEVER THE INPUT: true; the input reads as it did. -/
def matChangesSpec : ChangeSpec := { name := "matChanges", fn := fun _ => fun
  | [d1, d2, d3, d4, d5, d6] => { results := [.lit (.bool true)], args := [d1, d2, d3, d4, d5, d6] }
  | _ => none }
def matChangesRow : OpenClaim := { program := "ytgighdoacajmfaagreat", sum := "f840827f13e88e108b886a6d5a2081f217455be8ce2a4d68ef3aef94cb061659", func := "actuary/actuarylaw11.MatChanges", spec := "matChanges", recurses := true, apart := false }
def MatChangesSaid : Prop := matChangesRow.holds Tryz.pinned (OpenSpec.ofChange matChangesSpec)

/-- ITS FALSE NEIGHBOUR: 'it returns false'. Refute it at one input. -/
def matChangesWrong : ChangeSpec := { name := "matChanges", fn := fun _ => fun
  | [d1, d2, d3, d4, d5, d6] => { results := [.lit (.bool false)], args := [d1, d2, d3, d4, d5, d6] }
  | _ => none }
def MatChangesWrongFalsely : Prop := matChangesRow.holds Tryz.pinned (OpenSpec.ofChange matChangesWrong)

/-- 'actuarylaw12.ElimInverts': WHATEVER THE INPUT: true; the input reads as it did. -/
def elimInvertsSpec : ChangeSpec := { name := "elimInverts", fn := fun _ => fun
  | [d1, d2] => { results := [.lit (.bool true)], args := [d1, d2] }
  | _ => none }
def elimInvertsRow : OpenClaim := { program := "ytgighdoacajmfaagreat", sum := "f840827f13e88e108b886a6d5a2081f217455be8ce2a4d68ef3aef94cb061659", func := "actuary/actuarylaw12.ElimInverts", spec := "elimInverts", recurses := true, apart := false }
def ElimInvertsSaid : Prop := elimInvertsRow.holds Tryz.pinned (OpenSpec.ofChange elimInvertsSpec)

/-- ITS FALSE NEIGHBOUR: 'it returns false'. Refute it at one input. -/
def elimInvertsWrong : ChangeSpec := { name := "elimInverts", fn := fun _ => fun
  | [d1, d2] => { results := [.lit (.bool false)], args := [d1, d2] }
  | _ => none }
def ElimInvertsWrongFalsely : Prop := elimInvertsRow.holds Tryz.pinned (OpenSpec.ofChange elimInvertsWrong)

/-- 'actuarylaw13.LuMade': WHATEVER THE INPUT: true; the input reads as it did. -/
def luMadeSpec : ChangeSpec := { name := "luMade", fn := fun _ => fun
  | [d1, d2] => { results := [.lit (.bool true)], args := [d1, d2] }
  | _ => none }
def luMadeRow : OpenClaim := { program := "ytgighdoacajmfaagreat", sum := "f840827f13e88e108b886a6d5a2081f217455be8ce2a4d68ef3aef94cb061659", func := "actuary/actuarylaw13.LuMade", spec := "luMade", recurses := true, apart := false }
def LuMadeSaid : Prop := luMadeRow.holds Tryz.pinned (OpenSpec.ofChange luMadeSpec)

/-- ITS FALSE NEIGHBOUR: 'it returns false'. Refute it at one input. -/
def luMadeWrong : ChangeSpec := { name := "luMade", fn := fun _ => fun
  | [d1, d2] => { results := [.lit (.bool false)], args := [d1, d2] }
  | _ => none }
def LuMadeWrongFalsely : Prop := luMadeRow.holds Tryz.pinned (OpenSpec.ofChange luMadeWrong)

/- THE SECOND FORM. 'bulk': how many values and letters a reading holds, each counted each time it is reached (what is shared counts as often as it is met; a slice's spare places count too). A statement '..UptoSaid' is the law's where the arguments, and the package variables that the reading takes, are together of bulk at most 1048576: NARROWER than '..Said'. Prove '..Said' where nothing that the law and all that it calls make is longer than what came in: it says more and counts as full. Else prove '..UptoSaid'. A law counts once. -/
mutual
def uptoBulk {H : Type} : DataW H → Nat
  | .lit (.string bytes) => bytes.length + 1
  | .lit _ => 1
  | .nil => 1
  | .ptr d => uptoBulk d + 1
  | .slice elems spare => uptoBulkAll elems + uptoBulkAll spare + 1
  | .agg parts => uptoBulkAll parts + 1
  | .iface _ d => uptoBulk d + 1
  | .map entries => uptoBulkEntries entries + 1
  | .held _ => 1
def uptoBulkAll {H : Type} : List (DataW H) → Nat
  | [] => 0
  | d :: r => uptoBulk d + uptoBulkAll r
def uptoBulkEntries {H : Type} : List (Lit × DataW H) → Nat
  | [] => 0
  | x :: r => uptoBulkEntry x + uptoBulkEntries r
def uptoBulkEntry {H : Type} : Lit × DataW H → Nat
  | (.string bytes, d) => bytes.length + uptoBulk d + 1
  | (_, d) => uptoBulk d + 1
 end
def uptoSmall : (H : Type) → List (DataW H) → Bool := fun _ ds => decide (uptoBulkAll ds ≤ 1048576)
def OpenSpec.upto (s : _root_.Go.ChangeSpec) : _root_.Go.OpenSpec := { _root_.Go.OpenSpec.ofChange s with cond := some uptoSmall }

/-- 'actuarylaw11.MatChanges', WHERE WHAT IT READS IS OF BULK AT MOST 1048576: true; the input reads as it did. -/
def matChangesUptoRow : OpenClaim := { program := "ytgighdoacajmfaagreat", sum := "f840827f13e88e108b886a6d5a2081f217455be8ce2a4d68ef3aef94cb061659", func := "actuary/actuarylaw11.MatChanges", spec := "matChanges", recurses := true, apart := false, narrowed := true }
def MatChangesUptoSaid : Prop := matChangesUptoRow.holds Tryz.pinned (OpenSpec.upto matChangesSpec)

/-- 'actuarylaw12.ElimInverts', WHERE WHAT IT READS IS OF BULK AT MOST 1048576: true; the input reads as it did. -/
def elimInvertsUptoRow : OpenClaim := { program := "ytgighdoacajmfaagreat", sum := "f840827f13e88e108b886a6d5a2081f217455be8ce2a4d68ef3aef94cb061659", func := "actuary/actuarylaw12.ElimInverts", spec := "elimInverts", recurses := true, apart := false, narrowed := true }
def ElimInvertsUptoSaid : Prop := elimInvertsUptoRow.holds Tryz.pinned (OpenSpec.upto elimInvertsSpec)

/-- 'actuarylaw13.LuMade', WHERE WHAT IT READS IS OF BULK AT MOST 1048576: true; the input reads as it did. -/
def luMadeUptoRow : OpenClaim := { program := "ytgighdoacajmfaagreat", sum := "f840827f13e88e108b886a6d5a2081f217455be8ce2a4d68ef3aef94cb061659", func := "actuary/actuarylaw13.LuMade", spec := "luMade", recurses := true, apart := false, narrowed := true }
def LuMadeUptoSaid : Prop := luMadeUptoRow.holds Tryz.pinned (OpenSpec.upto luMadeSpec)

end Rows
end Go.Proofs.YtgighdoacajmfaaGreat
