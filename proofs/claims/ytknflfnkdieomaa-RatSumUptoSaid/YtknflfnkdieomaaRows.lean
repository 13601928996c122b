/-
  No cell of these rows narrows 'for every input' (looked for: loops, veiled, ifaces, maps, wideKeys, modest, calm, conditions, laid).
  DERIVED. THE GIVEN ROWS OF THIS SEAT. 10 by the template 'for every input the law returns true; each argument reads behind the call as it read before'; 0 by the template 'total and deterministic' (their statements: YtknflfnkdieomaaTotals.lean).
  GIVEN WITH THE SEED: the statements are not yours to turn. If you find one false, say at which input.
  Laid BY PROGRAM, IN A SANDBOX (cutbox-rows.mjs): the forced cells as the released guide's own fill.sh prints them over the translation 438a92ea8b122b9e… (all of the seat's roots in one cut). By AI agents, Wed Nov 11 2026. No macro, syntax, notation, axiom, sorry.
-/
import Derived.Test.YtknflfnkdieomaaChecked
import GoSem.Claim
import GoSem.ClaimJoined
import GoSem.ClaimMapViews
import Derived.JoinedTies
import Derived.KernelRfl
namespace Go.Proofs.Ytknflfnkdieomaa
/- THE CELL 'sum', in the pinned program and in every row, IS THE sha256 OF THE DUMP (.gsa) THAT YtknflfnkdieomaaProg.lean LOADS. Nothing in Lean hashes anything: it is a label: what it is worth is what the hold of that sum in a sandbox is worth. -/
noncomputable def Try.pinned : Pinned := { name := "ytknflfnkdieomaa", sum := "438a92ea8b122b9e51a3a665fba4924c5cebff6843ac74504cad5ec0fbbe166c", checked := Try.checked }
namespace Rows
def none {H : Type} : Left H := { results := [], args := [] }

/-- 'actuarylaw15.BoundBases': WHATEVER THE INPUT: true; the input reads as it did. -/
def boundBasesSpec : ChangeSpec := { name := "boundBases", fn := fun _ => fun
  | [d1, d2, d3] => { results := [.lit (.bool true)], args := [d1, d2, d3] }
  | _ => none }
def boundBasesRow : OpenClaim := { program := "ytknflfnkdieomaa", sum := "438a92ea8b122b9e51a3a665fba4924c5cebff6843ac74504cad5ec0fbbe166c", func := "actuary/actuarylaw15.BoundBases", spec := "boundBases", apart := false }
def BoundBasesSaid : Prop := boundBasesRow.holds Try.pinned (OpenSpec.ofChange boundBasesSpec)

/-- ITS FALSE NEIGHBOUR: 'it returns false'. Refute it at one input. -/
def boundBasesWrong : ChangeSpec := { name := "boundBases", fn := fun _ => fun
  | [d1, d2, d3] => { results := [.lit (.bool false)], args := [d1, d2, d3] }
  | _ => none }
def BoundBasesWrongFalsely : Prop := boundBasesRow.holds Try.pinned (OpenSpec.ofChange boundBasesWrong)

/-- 'actuarylaw15.BoundPascal': WHATEVER THE INPUT: true; the input reads as it did. -/
def boundPascalSpec : ChangeSpec := { name := "boundPascal", fn := fun _ => fun
  | [d1, d2] => { results := [.lit (.bool true)], args := [d1, d2] }
  | _ => none }
def boundPascalRow : OpenClaim := { program := "ytknflfnkdieomaa", sum := "438a92ea8b122b9e51a3a665fba4924c5cebff6843ac74504cad5ec0fbbe166c", func := "actuary/actuarylaw15.BoundPascal", spec := "boundPascal", apart := false }
def BoundPascalSaid : Prop := boundPascalRow.holds Try.pinned (OpenSpec.ofChange boundPascalSpec)

/-- ITS FALSE NEIGHBOUR: 'it returns false'. Refute it at one input. -/
def boundPascalWrong : ChangeSpec := { name := "boundPascal", fn := fun _ => fun
  | [d1, d2] => { results := [.lit (.bool false)], args := [d1, d2] }
  | _ => none }
def BoundPascalWrongFalsely : Prop := boundPascalRow.holds Try.pinned (OpenSpec.ofChange boundPascalWrong)

/-- 'actuarylaw15.BoundGrows': WHATEVER THE INPUT: true; the input reads as it did. -/
def boundGrowsSpec : ChangeSpec := { name := "boundGrows", fn := fun _ => fun
  | [d1, d2] => { results := [.lit (.bool true)], args := [d1, d2] }
  | _ => none }
def boundGrowsRow : OpenClaim := { program := "ytknflfnkdieomaa", sum := "438a92ea8b122b9e51a3a665fba4924c5cebff6843ac74504cad5ec0fbbe166c", func := "actuary/actuarylaw15.BoundGrows", spec := "boundGrows", apart := false }
def BoundGrowsSaid : Prop := boundGrowsRow.holds Try.pinned (OpenSpec.ofChange boundGrowsSpec)

/-- ITS FALSE NEIGHBOUR: 'it returns false'. Refute it at one input. -/
def boundGrowsWrong : ChangeSpec := { name := "boundGrows", fn := fun _ => fun
  | [d1, d2] => { results := [.lit (.bool false)], args := [d1, d2] }
  | _ => none }
def BoundGrowsWrongFalsely : Prop := boundGrowsRow.holds Try.pinned (OpenSpec.ofChange boundGrowsWrong)

/-- 'actuarylaw15.BoundTells': WHATEVER THE INPUT: true; the input reads as it did. -/
def boundTellsSpec : ChangeSpec := { name := "boundTells", fn := fun _ => fun
  | [d1, d2] => { results := [.lit (.bool true)], args := [d1, d2] }
  | _ => none }
def boundTellsRow : OpenClaim := { program := "ytknflfnkdieomaa", sum := "438a92ea8b122b9e51a3a665fba4924c5cebff6843ac74504cad5ec0fbbe166c", func := "actuary/actuarylaw15.BoundTells", spec := "boundTells", apart := false }
def BoundTellsSaid : Prop := boundTellsRow.holds Try.pinned (OpenSpec.ofChange boundTellsSpec)

/-- ITS FALSE NEIGHBOUR: 'it returns false'. Refute it at one input. -/
def boundTellsWrong : ChangeSpec := { name := "boundTells", fn := fun _ => fun
  | [d1, d2] => { results := [.lit (.bool false)], args := [d1, d2] }
  | _ => none }
def BoundTellsWrongFalsely : Prop := boundTellsRow.holds Try.pinned (OpenSpec.ofChange boundTellsWrong)

/-- 'actuarylaw08.RatNews': WHATEVER THE INPUT: true; the input reads as it did. -/
def ratNewsSpec : ChangeSpec := { name := "ratNews", fn := fun _ => fun
  | [d1, d2] => { results := [.lit (.bool true)], args := [d1, d2] }
  | _ => none }
def ratNewsRow : OpenClaim := { program := "ytknflfnkdieomaa", sum := "438a92ea8b122b9e51a3a665fba4924c5cebff6843ac74504cad5ec0fbbe166c", func := "actuary/actuarylaw08.RatNews", spec := "ratNews", recurses := true, apart := false }
def RatNewsSaid : Prop := ratNewsRow.holds Try.pinned (OpenSpec.ofChange ratNewsSpec)

/-- ITS FALSE NEIGHBOUR: 'it returns false'. Refute it at one input. -/
def ratNewsWrong : ChangeSpec := { name := "ratNews", fn := fun _ => fun
  | [d1, d2] => { results := [.lit (.bool false)], args := [d1, d2] }
  | _ => none }
def RatNewsWrongFalsely : Prop := ratNewsRow.holds Try.pinned (OpenSpec.ofChange ratNewsWrong)

/-- 'actuarylaw08.RatLine': WHATEVER THE INPUT: true; the input reads as it did. -/
def ratLineSpec : ChangeSpec := { name := "ratLine", fn := fun _ => fun
  | [d1, d2, d3] => { results := [.lit (.bool true)], args := [d1, d2, d3] }
  | _ => none }
def ratLineRow : OpenClaim := { program := "ytknflfnkdieomaa", sum := "438a92ea8b122b9e51a3a665fba4924c5cebff6843ac74504cad5ec0fbbe166c", func := "actuary/actuarylaw08.RatLine", spec := "ratLine", recurses := true, apart := false }
def RatLineSaid : Prop := ratLineRow.holds Try.pinned (OpenSpec.ofChange ratLineSpec)

/-- ITS FALSE NEIGHBOUR: 'it returns false'. Refute it at one input. -/
def ratLineWrong : ChangeSpec := { name := "ratLine", fn := fun _ => fun
  | [d1, d2, d3] => { results := [.lit (.bool false)], args := [d1, d2, d3] }
  | _ => none }
def RatLineWrongFalsely : Prop := ratLineRow.holds Try.pinned (OpenSpec.ofChange ratLineWrong)

/-- 'actuarylaw08.RatSum': WHATEVER THE INPUT: true; the input reads as it did. -/
def ratSumSpec : ChangeSpec := { name := "ratSum", fn := fun _ => fun
  | [d] => { results := [.lit (.bool true)], args := [d] }
  | _ => none }
def ratSumRow : OpenClaim := { program := "ytknflfnkdieomaa", sum := "438a92ea8b122b9e51a3a665fba4924c5cebff6843ac74504cad5ec0fbbe166c", func := "actuary/actuarylaw08.RatSum", spec := "ratSum", recurses := true, apart := false }
def RatSumSaid : Prop := ratSumRow.holds Try.pinned (OpenSpec.ofChange ratSumSpec)

/-- ITS FALSE NEIGHBOUR: 'it returns false'. Refute it at one input. -/
def ratSumWrong : ChangeSpec := { name := "ratSum", fn := fun _ => fun
  | [d] => { results := [.lit (.bool false)], args := [d] }
  | _ => none }
def RatSumWrongFalsely : Prop := ratSumRow.holds Try.pinned (OpenSpec.ofChange ratSumWrong)

/-- 'actuarylaw08.RatPlain': WHATEVER THE INPUT: true; the input reads as it did. -/
def ratPlainSpec : ChangeSpec := { name := "ratPlain", fn := fun _ => fun
  | [d1, d2] => { results := [.lit (.bool true)], args := [d1, d2] }
  | _ => none }
def ratPlainRow : OpenClaim := { program := "ytknflfnkdieomaa", sum := "438a92ea8b122b9e51a3a665fba4924c5cebff6843ac74504cad5ec0fbbe166c", func := "actuary/actuarylaw08.RatPlain", spec := "ratPlain", recurses := true, apart := false }
def RatPlainSaid : Prop := ratPlainRow.holds Try.pinned (OpenSpec.ofChange ratPlainSpec)

/-- ITS FALSE NEIGHBOUR: 'it returns false'. Refute it at one input. -/
def ratPlainWrong : ChangeSpec := { name := "ratPlain", fn := fun _ => fun
  | [d1, d2] => { results := [.lit (.bool false)], args := [d1, d2] }
  | _ => none }
def RatPlainWrongFalsely : Prop := ratPlainRow.holds Try.pinned (OpenSpec.ofChange ratPlainWrong)

/-- 'actuarylaw08.RatFloors': WHATEVER THE INPUT: true; the input reads as it did. -/
def ratFloorsSpec : ChangeSpec := { name := "ratFloors", fn := fun _ => fun
  | [d] => { results := [.lit (.bool true)], args := [d] }
  | _ => none }
def ratFloorsRow : OpenClaim := { program := "ytknflfnkdieomaa", sum := "438a92ea8b122b9e51a3a665fba4924c5cebff6843ac74504cad5ec0fbbe166c", func := "actuary/actuarylaw08.RatFloors", spec := "ratFloors", recurses := true, apart := false }
def RatFloorsSaid : Prop := ratFloorsRow.holds Try.pinned (OpenSpec.ofChange ratFloorsSpec)

/-- ITS FALSE NEIGHBOUR: 'it returns false'. Refute it at one input. -/
def ratFloorsWrong : ChangeSpec := { name := "ratFloors", fn := fun _ => fun
  | [d] => { results := [.lit (.bool false)], args := [d] }
  | _ => none }
def RatFloorsWrongFalsely : Prop := ratFloorsRow.holds Try.pinned (OpenSpec.ofChange ratFloorsWrong)

/-- 'actuarylaw08.RatField': WHATEVER THE INPUT: true; the input reads as it did. -/
def ratFieldSpec : ChangeSpec := { name := "ratField", fn := fun _ => fun
  | [d1, d2, d3] => { results := [.lit (.bool true)], args := [d1, d2, d3] }
  | _ => none }
def ratFieldRow : OpenClaim := { program := "ytknflfnkdieomaa", sum := "438a92ea8b122b9e51a3a665fba4924c5cebff6843ac74504cad5ec0fbbe166c", func := "actuary/actuarylaw08.RatField", spec := "ratField", recurses := true, apart := false }
def RatFieldSaid : Prop := ratFieldRow.holds Try.pinned (OpenSpec.ofChange ratFieldSpec)

/-- ITS FALSE NEIGHBOUR: 'it returns false'. Refute it at one input. -/
def ratFieldWrong : ChangeSpec := { name := "ratField", fn := fun _ => fun
  | [d1, d2, d3] => { results := [.lit (.bool false)], args := [d1, d2, d3] }
  | _ => none }
def RatFieldWrongFalsely : Prop := ratFieldRow.holds Try.pinned (OpenSpec.ofChange ratFieldWrong)

/- THE SECOND FORM. 'bulk': how many values and letters a reading holds, each counted each time it is reached (what is shared counts as often as it is met; a slice's spare places count too). A statement '..UptoSaid' is the law's where the arguments, and the package variables that the reading takes, are together of bulk at most 1048576: NARROWER than '..Said'. Prove '..Said' where nothing that the law and all that it calls make is longer than what came in: it says more and counts as full. Else prove '..UptoSaid'. A law counts once. -/
mutual
def uptoBulk {H : Type} : DataW H → Nat
  | .lit (.string bytes) => bytes.length + 1
  | .lit _ => 1
  | .nil => 1
  | .ptr d => uptoBulk d + 1
  | .slice elems spare => uptoBulkAll elems + uptoBulkAll spare + 1
  | .agg parts => uptoBulkAll parts + 1
  | .iface _ d => uptoBulk d + 1
  | .map entries => uptoBulkEntries entries + 1
  | .held _ => 1
def uptoBulkAll {H : Type} : List (DataW H) → Nat
  | [] => 0
  | d :: r => uptoBulk d + uptoBulkAll r
def uptoBulkEntries {H : Type} : List (Lit × DataW H) → Nat
  | [] => 0
  | x :: r => uptoBulkEntry x + uptoBulkEntries r
def uptoBulkEntry {H : Type} : Lit × DataW H → Nat
  | (.string bytes, d) => bytes.length + uptoBulk d + 1
  | (_, d) => uptoBulk d + 1
 end
def uptoSmall : (H : Type) → List (DataW H) → Bool := fun _ ds => decide (uptoBulkAll ds ≤ 1048576)
def OpenSpec.upto (s : _root_.Go.ChangeSpec) : _root_.Go.OpenSpec := { _root_.Go.OpenSpec.ofChange s with cond := some uptoSmall }

/-- 'actuarylaw15.BoundBases', WHERE WHAT IT READS IS OF BULK AT MOST 1048576: true; the input reads as it did. -/
def boundBasesUptoRow : OpenClaim := { program := "ytknflfnkdieomaa", sum := "438a92ea8b122b9e51a3a665fba4924c5cebff6843ac74504cad5ec0fbbe166c", func := "actuary/actuarylaw15.BoundBases", spec := "boundBases", apart := false, narrowed := true }
def BoundBasesUptoSaid : Prop := boundBasesUptoRow.holds Try.pinned (OpenSpec.upto boundBasesSpec)

/-- 'actuarylaw15.BoundPascal', WHERE WHAT IT READS IS OF BULK AT MOST 1048576: true; the input reads as it did. -/
def boundPascalUptoRow : OpenClaim := { program := "ytknflfnkdieomaa", sum := "438a92ea8b122b9e51a3a665fba4924c5cebff6843ac74504cad5ec0fbbe166c", func := "actuary/actuarylaw15.BoundPascal", spec := "boundPascal", apart := false, narrowed := true }
def BoundPascalUptoSaid : Prop := boundPascalUptoRow.holds Try.pinned (OpenSpec.upto boundPascalSpec)

/-- 'actuarylaw15.BoundGrows', WHERE WHAT IT READS IS OF BULK AT MOST 1048576: true; the input reads as it did. -/
def boundGrowsUptoRow : OpenClaim := { program := "ytknflfnkdieomaa", sum := "438a92ea8b122b9e51a3a665fba4924c5cebff6843ac74504cad5ec0fbbe166c", func := "actuary/actuarylaw15.BoundGrows", spec := "boundGrows", apart := false, narrowed := true }
def BoundGrowsUptoSaid : Prop := boundGrowsUptoRow.holds Try.pinned (OpenSpec.upto boundGrowsSpec)

/-- 'actuarylaw15.BoundTells', WHERE WHAT IT READS IS OF BULK AT MOST 1048576: true; the input reads as it did. -/
def boundTellsUptoRow : OpenClaim := { program := "ytknflfnkdieomaa", sum := "438a92ea8b122b9e51a3a665fba4924c5cebff6843ac74504cad5ec0fbbe166c", func := "actuary/actuarylaw15.BoundTells", spec := "boundTells", apart := false, narrowed := true }
def BoundTellsUptoSaid : Prop := boundTellsUptoRow.holds Try.pinned (OpenSpec.upto boundTellsSpec)

/-- 'actuarylaw08.RatNews', WHERE WHAT IT READS IS OF BULK AT MOST 1048576: true; the input reads as it did. -/
def ratNewsUptoRow : OpenClaim := { program := "ytknflfnkdieomaa", sum := "438a92ea8b122b9e51a3a665fba4924c5cebff6843ac74504cad5ec0fbbe166c", func := "actuary/actuarylaw08.RatNews", spec := "ratNews", recurses := true, apart := false, narrowed := true }
def RatNewsUptoSaid : Prop := ratNewsUptoRow.holds Try.pinned (OpenSpec.upto ratNewsSpec)

/-- 'actuarylaw08.RatLine', WHERE WHAT IT READS IS OF BULK AT MOST 1048576: true; the input reads as it did. -/
def ratLineUptoRow : OpenClaim := { program := "ytknflfnkdieomaa", sum := "438a92ea8b122b9e51a3a665fba4924c5cebff6843ac74504cad5ec0fbbe166c", func := "actuary/actuarylaw08.RatLine", spec := "ratLine", recurses := true, apart := false, narrowed := true }
def RatLineUptoSaid : Prop := ratLineUptoRow.holds Try.pinned (OpenSpec.upto ratLineSpec)

/-- 'actuarylaw08.RatSum', WHERE WHAT IT READS IS OF BULK AT MOST 1048576: true; the input reads as it did. -/
def ratSumUptoRow : OpenClaim := { program := "ytknflfnkdieomaa", sum := "438a92ea8b122b9e51a3a665fba4924c5cebff6843ac74504cad5ec0fbbe166c", func := "actuary/actuarylaw08.RatSum", spec := "ratSum", recurses := true, apart := false, narrowed := true }
def RatSumUptoSaid : Prop := ratSumUptoRow.holds Try.pinned (OpenSpec.upto ratSumSpec)

/-- 'actuarylaw08.RatPlain', WHERE WHAT IT READS IS OF BULK AT MOST 1048576: true; the input reads as it did. -/
def ratPlainUptoRow : OpenClaim := { program := "ytknflfnkdieomaa", sum := "438a92ea8b122b9e51a3a665fba4924c5cebff6843ac74504cad5ec0fbbe166c", func := "actuary/actuarylaw08.RatPlain", spec := "ratPlain", recurses := true, apart := false, narrowed := true }
def RatPlainUptoSaid : Prop := ratPlainUptoRow.holds Try.pinned (OpenSpec.upto ratPlainSpec)

/-- 'actuarylaw08.RatFloors', WHERE WHAT IT READS IS OF BULK AT MOST 1048576: true; the input reads as it did. -/
def ratFloorsUptoRow : OpenClaim := { program := "ytknflfnkdieomaa", sum := "438a92ea8b122b9e51a3a665fba4924c5cebff6843ac74504cad5ec0fbbe166c", func := "actuary/actuarylaw08.RatFloors", spec := "ratFloors", recurses := true, apart := false, narrowed := true }
def RatFloorsUptoSaid : Prop := ratFloorsUptoRow.holds Try.pinned (OpenSpec.upto ratFloorsSpec)

/-- 'actuarylaw08.RatField', WHERE WHAT IT READS IS OF BULK AT MOST 1048576: true; the input reads as it did. -/
def ratFieldUptoRow : OpenClaim := { program := "ytknflfnkdieomaa", sum := "438a92ea8b122b9e51a3a665fba4924c5cebff6843ac74504cad5ec0fbbe166c", func := "actuary/actuarylaw08.RatField", spec := "ratField", recurses := true, apart := false, narrowed := true }
def RatFieldUptoSaid : Prop := ratFieldUptoRow.holds Try.pinned (OpenSpec.upto ratFieldSpec)

end Rows
end Go.Proofs.Ytknflfnkdieomaa
