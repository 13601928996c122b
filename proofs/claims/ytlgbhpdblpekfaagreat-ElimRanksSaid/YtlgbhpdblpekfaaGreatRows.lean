/-
  No cell of these rows narrows 'for every input' (looked for: loops, veiled, ifaces, maps, wideKeys, modest, calm, conditions, laid).
  DERIVED. THE GIVEN ROWS OF THIS SEAT. 4 by the template 'for every input the law returns true; each argument reads behind the call as it read before'; 0 by the template 'total and deterministic' (their statements: YtlgbhpdblpekfaaGreatTotals.lean).
  GIVEN WITH THE SEED: the statements are not yours to turn. If you find one false, say at which input.
  Laid BY PROGRAM, IN A SANDBOX (cutbox-rows.mjs): the forced cells as the released guide's own fill.sh prints them over the translation b6569c1e564f9c96… (all of the seat's roots in one cut). By AI agents, Wed Nov 11 2026. No macro, syntax, notation, axiom, sorry.
-/
import Derived.Test.YtlgbhpdblpekfaaGreatChecked
import GoSem.Claim
import GoSem.ClaimJoined
import GoSem.ClaimMapViews
import Derived.JoinedTies
import Derived.KernelRfl
namespace Go.Proofs.YtlgbhpdblpekfaaGreat
/- THE CELL 'sum', in the pinned program and in every row, IS THE sha256 OF THE DUMP (.gsa) THAT YtlgbhpdblpekfaaGreatProg.lean LOADS. Nothing in Lean hashes anything: it is a label: what it is worth is what the hold of that sum in a sandbox is worth. -/
noncomputable def Tryz.pinned : Pinned := { name := "ytlgbhpdblpekfaagreat", sum := "b6569c1e564f9c96d46ce3c580b6ac437415b9ac1c569dc1f71899e2837baabf", checked := Tryz.checked }
namespace Rows
def none {H : Type} : Left H := { results := [], args := [] }

/-- 'actuarylaw13.LuSolves': WHATEVER THE INPUT: true; the input reads as it did. -/
def luSolvesSpec : ChangeSpec := { name := "luSolves", fn := fun _ => fun
  | [d1, d2] => { results := [.lit (.bool true)], args := [d1, d2] }
  | _ => none }
def luSolvesRow : OpenClaim := { program := "ytlgbhpdblpekfaagreat", sum := "b6569c1e564f9c96d46ce3c580b6ac437415b9ac1c569dc1f71899e2837baabf", func := "actuary/actuarylaw13.LuSolves", spec := "luSolves", recurses := true, apart := false }
def LuSolvesSaid : Prop := luSolvesRow.holds Tryz.pinned (OpenSpec.ofChange luSolvesSpec)

/-- ITS FALSE NEIGHBOUR: 'it returns false'. Refute it at one input. -/
def luSolvesWrong : ChangeSpec := { name := "luSolves", fn := fun _ => fun
  | [d1, d2] => { results := [.lit (.bool false)], args := [d1, d2] }
  | _ => none }
def LuSolvesWrongFalsely : Prop := luSolvesRow.holds Tryz.pinned (OpenSpec.ofChange luSolvesWrong)

/-- 'actuarylaw13.LuParts': WHATEVER THE INPUT: true; the input reads as it did. -/
def luPartsSpec : ChangeSpec := { name := "luParts", fn := fun _ => fun
  | [d] => { results := [.lit (.bool true)], args := [d] }
  | _ => none }
def luPartsRow : OpenClaim := { program := "ytlgbhpdblpekfaagreat", sum := "b6569c1e564f9c96d46ce3c580b6ac437415b9ac1c569dc1f71899e2837baabf", func := "actuary/actuarylaw13.LuParts", spec := "luParts", recurses := true, apart := false }
def LuPartsSaid : Prop := luPartsRow.holds Tryz.pinned (OpenSpec.ofChange luPartsSpec)

/-- ITS FALSE NEIGHBOUR: 'it returns false'. Refute it at one input. -/
def luPartsWrong : ChangeSpec := { name := "luParts", fn := fun _ => fun
  | [d] => { results := [.lit (.bool false)], args := [d] }
  | _ => none }
def LuPartsWrongFalsely : Prop := luPartsRow.holds Tryz.pinned (OpenSpec.ofChange luPartsWrong)

/-- 'actuarylaw12.ElimRanks': WHATEVER THE INPUT: true; the input reads as it did. -/
def elimRanksSpec : ChangeSpec := { name := "elimRanks", fn := fun _ => fun
  | [d1, d2] => { results := [.lit (.bool true)], args := [d1, d2] }
  | _ => none }
def elimRanksRow : OpenClaim := { program := "ytlgbhpdblpekfaagreat", sum := "b6569c1e564f9c96d46ce3c580b6ac437415b9ac1c569dc1f71899e2837baabf", func := "actuary/actuarylaw12.ElimRanks", spec := "elimRanks", recurses := true, apart := false }
def ElimRanksSaid : Prop := elimRanksRow.holds Tryz.pinned (OpenSpec.ofChange elimRanksSpec)

/-- ITS FALSE NEIGHBOUR: 'it returns false'. Refute it at one input. -/
def elimRanksWrong : ChangeSpec := { name := "elimRanks", fn := fun _ => fun
  | [d1, d2] => { results := [.lit (.bool false)], args := [d1, d2] }
  | _ => none }
def ElimRanksWrongFalsely : Prop := elimRanksRow.holds Tryz.pinned (OpenSpec.ofChange elimRanksWrong)

/-- 'actuarylaw12.ElimDets': WHATEVER THE INPUT: true; the input reads as it did. -/
def elimDetsSpec : ChangeSpec := { name := "elimDets", fn := fun _ => fun
  | [d] => { results := [.lit (.bool true)], args := [d] }
  | _ => none }
def elimDetsRow : OpenClaim := { program := "ytlgbhpdblpekfaagreat", sum := "b6569c1e564f9c96d46ce3c580b6ac437415b9ac1c569dc1f71899e2837baabf", func := "actuary/actuarylaw12.ElimDets", spec := "elimDets", recurses := true, apart := false }
def ElimDetsSaid : Prop := elimDetsRow.holds Tryz.pinned (OpenSpec.ofChange elimDetsSpec)

/-- ITS FALSE NEIGHBOUR: 'it returns false'. Refute it at one input. -/
def elimDetsWrong : ChangeSpec := { name := "elimDets", fn := fun _ => fun
  | [d] => { results := [.lit (.bool false)], args := [d] }
  | _ => none }
def ElimDetsWrongFalsely : Prop := elimDetsRow.holds Tryz.pinned (OpenSpec.ofChange elimDetsWrong)

/- THE SECOND FORM. 'bulk': how many values and letters a reading holds, each counted each time it is reached (what is shared counts as often as it is met; a slice's spare places count too). A statement '..UptoSaid' is the law's where the arguments, and the package variables that the reading takes, are together of bulk at most 1048576: NARROWER than '..Said'. Prove '..Said' where nothing that the law and all that it calls make is longer than what came in: it says more and counts as full. Else prove '..UptoSaid'. A law counts once. -/
mutual
def uptoBulk {H : Type} : DataW H → Nat
  | .lit (.string bytes) => bytes.length + 1
  | .lit _ => 1
  | .nil => 1
  | .ptr d => uptoBulk d + 1
  | .slice elems spare => uptoBulkAll elems + uptoBulkAll spare + 1
  | .agg parts => uptoBulkAll parts + 1
  | .iface _ d => uptoBulk d + 1
  | .map entries => uptoBulkEntries entries + 1
  | .held _ => 1
def uptoBulkAll {H : Type} : List (DataW H) → Nat
  | [] => 0
  | d :: r => uptoBulk d + uptoBulkAll r
def uptoBulkEntries {H : Type} : List (Lit × DataW H) → Nat
  | [] => 0
  | x :: r => uptoBulkEntry x + uptoBulkEntries r
def uptoBulkEntry {H : Type} : Lit × DataW H → Nat
  | (.string bytes, d) => bytes.length + uptoBulk d + 1
  | (_, d) => uptoBulk d + 1
 end
def uptoSmall : (H : Type) → List (DataW H) → Bool := fun _ ds => decide (uptoBulkAll ds ≤ 1048576)
def OpenSpec.upto (s : _root_.Go.ChangeSpec) : _root_.Go.OpenSpec := { _root_.Go.OpenSpec.ofChange s with cond := some uptoSmall }

/-- 'actuarylaw13.LuSolves', WHERE WHAT IT READS IS OF BULK AT MOST 1048576: true; the input reads as it did. -/
def luSolvesUptoRow : OpenClaim := { program := "ytlgbhpdblpekfaagreat", sum := "b6569c1e564f9c96d46ce3c580b6ac437415b9ac1c569dc1f71899e2837baabf", func := "actuary/actuarylaw13.LuSolves", spec := "luSolves", recurses := true, apart := false, narrowed := true }
def LuSolvesUptoSaid : Prop := luSolvesUptoRow.holds Tryz.pinned (OpenSpec.upto luSolvesSpec)

/-- 'actuarylaw13.LuParts', WHERE WHAT IT READS IS OF BULK AT MOST 1048576: true; the input reads as it did. -/
def luPartsUptoRow : OpenClaim := { program := "ytlgbhpdblpekfaagreat", sum := "b6569c1e564f9c96d46ce3c580b6ac437415b9ac1c569dc1f71899e2837baabf", func := "actuary/actuarylaw13.LuParts", spec := "luParts", recurses := true, apart := false, narrowed := true }
def LuPartsUptoSaid : Prop := luPartsUptoRow.holds Tryz.pinned (OpenSpec.upto luPartsSpec)

/-- 'actuarylaw12.ElimRanks', WHERE WHAT IT READS IS OF BULK AT MOST 1048576: true; the input reads as it did. -/
def elimRanksUptoRow : OpenClaim := { program := "ytlgbhpdblpekfaagreat", sum := "b6569c1e564f9c96d46ce3c580b6ac437415b9ac1c569dc1f71899e2837baabf", func := "actuary/actuarylaw12.ElimRanks", spec := "elimRanks", recurses := true, apart := false, narrowed := true }
def ElimRanksUptoSaid : Prop := elimRanksUptoRow.holds Tryz.pinned (OpenSpec.upto elimRanksSpec)

/-- 'actuarylaw12.ElimDets', WHERE WHAT IT READS IS OF BULK AT MOST 1048576: true; the input reads as it did. -/
def elimDetsUptoRow : OpenClaim := { program := "ytlgbhpdblpekfaagreat", sum := "b6569c1e564f9c96d46ce3c580b6ac437415b9ac1c569dc1f71899e2837baabf", func := "actuary/actuarylaw12.ElimDets", spec := "elimDets", recurses := true, apart := false, narrowed := true }
def ElimDetsUptoSaid : Prop := elimDetsUptoRow.holds Tryz.pinned (OpenSpec.upto elimDetsSpec)

end Rows
end Go.Proofs.YtlgbhpdblpekfaaGreat
