/-
  No cell of these rows narrows 'for every input' (looked for: loops, veiled, ifaces, maps, wideKeys, modest, calm, conditions, laid).
  DERIVED. THE GIVEN ROWS OF THIS SEAT. 8 by the template 'for every input the law returns true; each argument reads behind the call as it read before'; 0 by the template 'total and deterministic' (their statements: YtlgbhpdblpekfaaTotals.lean).
  GIVEN WITH THE SEED: the statements are not yours to turn. If you find one false, say at which input.
  Laid BY PROGRAM, IN A SANDBOX (cutbox-rows.mjs): the forced cells as the released guide's own fill.sh prints them over the translation 25815bf251b377eb… (all of the seat's roots in one cut). By AI agents, Wed Nov 11 2026. No macro, syntax, notation, axiom, sorry.
-/
import Derived.Test.YtlgbhpdblpekfaaChecked
import GoSem.Claim
import GoSem.ClaimJoined
import GoSem.ClaimMapViews
import Derived.JoinedTies
import Derived.KernelRfl
namespace Go.Proofs.Ytlgbhpdblpekfaa
/- THE CELL 'sum', in the pinned program and in every row, IS THE sha256 OF THE DUMP (.gsa) THAT YtlgbhpdblpekfaaProg.lean LOADS. Nothing in Lean hashes anything: it is a label: what it is worth is what the hold of that sum in a sandbox is worth. -/
noncomputable def Try.pinned : Pinned := { name := "ytlgbhpdblpekfaa", sum := "25815bf251b377eb4d2b229a0f61e59cc440058c805d6626368d9a10742390a5", checked := Try.checked }
namespace Rows
def none {H : Type} : Left H := { results := [], args := [] }

/-- 'actuarylaw15.BoundDets': WHATEVER THE INPUT: true; the input reads as it did. -/
def boundDetsSpec : ChangeSpec := { name := "boundDets", fn := fun _ => fun
  | [d] => { results := [.lit (.bool true)], args := [d] }
  | _ => none }
def boundDetsRow : OpenClaim := { program := "ytlgbhpdblpekfaa", sum := "25815bf251b377eb4d2b229a0f61e59cc440058c805d6626368d9a10742390a5", func := "actuary/actuarylaw15.BoundDets", spec := "boundDets", recurses := true, apart := false }
def BoundDetsSaid : Prop := boundDetsRow.holds Try.pinned (OpenSpec.ofChange boundDetsSpec)

/-- ITS FALSE NEIGHBOUR: 'it returns false'. Refute it at one input. -/
def boundDetsWrong : ChangeSpec := { name := "boundDets", fn := fun _ => fun
  | [d] => { results := [.lit (.bool false)], args := [d] }
  | _ => none }
def BoundDetsWrongFalsely : Prop := boundDetsRow.holds Try.pinned (OpenSpec.ofChange boundDetsWrong)

/-- 'actuarylaw15.BoundSolves': WHATEVER THE INPUT: true; the input reads as it did. -/
def boundSolvesSpec : ChangeSpec := { name := "boundSolves", fn := fun _ => fun
  | [d1, d2] => { results := [.lit (.bool true)], args := [d1, d2] }
  | _ => none }
def boundSolvesRow : OpenClaim := { program := "ytlgbhpdblpekfaa", sum := "25815bf251b377eb4d2b229a0f61e59cc440058c805d6626368d9a10742390a5", func := "actuary/actuarylaw15.BoundSolves", spec := "boundSolves", recurses := true, apart := false }
def BoundSolvesSaid : Prop := boundSolvesRow.holds Try.pinned (OpenSpec.ofChange boundSolvesSpec)

/-- ITS FALSE NEIGHBOUR: 'it returns false'. Refute it at one input. -/
def boundSolvesWrong : ChangeSpec := { name := "boundSolves", fn := fun _ => fun
  | [d1, d2] => { results := [.lit (.bool false)], args := [d1, d2] }
  | _ => none }
def BoundSolvesWrongFalsely : Prop := boundSolvesRow.holds Try.pinned (OpenSpec.ofChange boundSolvesWrong)

/-- 'actuarylaw13.LuPivots': WHATEVER THE INPUT: true; the input reads as it did. -/
def luPivotsSpec : ChangeSpec := { name := "luPivots", fn := fun _ => fun
  | [d] => { results := [.lit (.bool true)], args := [d] }
  | _ => none }
def luPivotsRow : OpenClaim := { program := "ytlgbhpdblpekfaa", sum := "25815bf251b377eb4d2b229a0f61e59cc440058c805d6626368d9a10742390a5", func := "actuary/actuarylaw13.LuPivots", spec := "luPivots", recurses := true, apart := false }
def LuPivotsSaid : Prop := luPivotsRow.holds Try.pinned (OpenSpec.ofChange luPivotsSpec)

/-- ITS FALSE NEIGHBOUR: 'it returns false'. Refute it at one input. -/
def luPivotsWrong : ChangeSpec := { name := "luPivots", fn := fun _ => fun
  | [d] => { results := [.lit (.bool false)], args := [d] }
  | _ => none }
def LuPivotsWrongFalsely : Prop := luPivotsRow.holds Try.pinned (OpenSpec.ofChange luPivotsWrong)

/-- 'actuarylaw13.LuProduct': WHATEVER THE INPUT: true; the input reads as it did. -/
def luProductSpec : ChangeSpec := { name := "luProduct", fn := fun _ => fun
  | [d] => { results := [.lit (.bool true)], args := [d] }
  | _ => none }
def luProductRow : OpenClaim := { program := "ytlgbhpdblpekfaa", sum := "25815bf251b377eb4d2b229a0f61e59cc440058c805d6626368d9a10742390a5", func := "actuary/actuarylaw13.LuProduct", spec := "luProduct", recurses := true, apart := false }
def LuProductSaid : Prop := luProductRow.holds Try.pinned (OpenSpec.ofChange luProductSpec)

/-- ITS FALSE NEIGHBOUR: 'it returns false'. Refute it at one input. -/
def luProductWrong : ChangeSpec := { name := "luProduct", fn := fun _ => fun
  | [d] => { results := [.lit (.bool false)], args := [d] }
  | _ => none }
def LuProductWrongFalsely : Prop := luProductRow.holds Try.pinned (OpenSpec.ofChange luProductWrong)

/-- 'actuarylaw13.LuBack': WHATEVER THE INPUT: true; the input reads as it did. -/
def luBackSpec : ChangeSpec := { name := "luBack", fn := fun _ => fun
  | [d1, d2] => { results := [.lit (.bool true)], args := [d1, d2] }
  | _ => none }
def luBackRow : OpenClaim := { program := "ytlgbhpdblpekfaa", sum := "25815bf251b377eb4d2b229a0f61e59cc440058c805d6626368d9a10742390a5", func := "actuary/actuarylaw13.LuBack", spec := "luBack", recurses := true, apart := false }
def LuBackSaid : Prop := luBackRow.holds Try.pinned (OpenSpec.ofChange luBackSpec)

/-- ITS FALSE NEIGHBOUR: 'it returns false'. Refute it at one input. -/
def luBackWrong : ChangeSpec := { name := "luBack", fn := fun _ => fun
  | [d1, d2] => { results := [.lit (.bool false)], args := [d1, d2] }
  | _ => none }
def LuBackWrongFalsely : Prop := luBackRow.holds Try.pinned (OpenSpec.ofChange luBackWrong)

/-- 'actuarylaw12.ElimReduces': WHATEVER THE INPUT: true; the input reads as it did. -/
def elimReducesSpec : ChangeSpec := { name := "elimReduces", fn := fun _ => fun
  | [d] => { results := [.lit (.bool true)], args := [d] }
  | _ => none }
def elimReducesRow : OpenClaim := { program := "ytlgbhpdblpekfaa", sum := "25815bf251b377eb4d2b229a0f61e59cc440058c805d6626368d9a10742390a5", func := "actuary/actuarylaw12.ElimReduces", spec := "elimReduces", recurses := true, apart := false }
def ElimReducesSaid : Prop := elimReducesRow.holds Try.pinned (OpenSpec.ofChange elimReducesSpec)

/-- ITS FALSE NEIGHBOUR: 'it returns false'. Refute it at one input. -/
def elimReducesWrong : ChangeSpec := { name := "elimReduces", fn := fun _ => fun
  | [d] => { results := [.lit (.bool false)], args := [d] }
  | _ => none }
def ElimReducesWrongFalsely : Prop := elimReducesRow.holds Try.pinned (OpenSpec.ofChange elimReducesWrong)

/-- 'actuarylaw12.ElimSolves': WHATEVER THE INPUT: true; the input reads as it did. -/
def elimSolvesSpec : ChangeSpec := { name := "elimSolves", fn := fun _ => fun
  | [d1, d2, d3, d4] => { results := [.lit (.bool true)], args := [d1, d2, d3, d4] }
  | _ => none }
def elimSolvesRow : OpenClaim := { program := "ytlgbhpdblpekfaa", sum := "25815bf251b377eb4d2b229a0f61e59cc440058c805d6626368d9a10742390a5", func := "actuary/actuarylaw12.ElimSolves", spec := "elimSolves", recurses := true, apart := false }
def ElimSolvesSaid : Prop := elimSolvesRow.holds Try.pinned (OpenSpec.ofChange elimSolvesSpec)

/-- ITS FALSE NEIGHBOUR: 'it returns false'. Refute it at one input. -/
def elimSolvesWrong : ChangeSpec := { name := "elimSolves", fn := fun _ => fun
  | [d1, d2, d3, d4] => { results := [.lit (.bool false)], args := [d1, d2, d3, d4] }
  | _ => none }
def ElimSolvesWrongFalsely : Prop := elimSolvesRow.holds Try.pinned (OpenSpec.ofChange elimSolvesWrong)

/-- 'actuarylaw12.ElimKernel': WHATEVER THE INPUT: true; the input reads as it did. -/
def elimKernelSpec : ChangeSpec := { name := "elimKernel", fn := fun _ => fun
  | [d] => { results := [.lit (.bool true)], args := [d] }
  | _ => none }
def elimKernelRow : OpenClaim := { program := "ytlgbhpdblpekfaa", sum := "25815bf251b377eb4d2b229a0f61e59cc440058c805d6626368d9a10742390a5", func := "actuary/actuarylaw12.ElimKernel", spec := "elimKernel", recurses := true, apart := false }
def ElimKernelSaid : Prop := elimKernelRow.holds Try.pinned (OpenSpec.ofChange elimKernelSpec)

/-- ITS FALSE NEIGHBOUR: 'it returns false'. Refute it at one input. -/
def elimKernelWrong : ChangeSpec := { name := "elimKernel", fn := fun _ => fun
  | [d] => { results := [.lit (.bool false)], args := [d] }
  | _ => none }
def ElimKernelWrongFalsely : Prop := elimKernelRow.holds Try.pinned (OpenSpec.ofChange elimKernelWrong)

/- THE SECOND FORM. 'bulk': how many values and letters a reading holds, each counted each time it is reached (what is shared counts as often as it is met; a slice's spare places count too). A statement '..UptoSaid' is the law's where the arguments, and the package variables that the reading takes, are together of bulk at most 1048576: NARROWER than '..Said'. Prove '..Said' where nothing that the law and all that it calls make is longer than what came in: it says more and counts as full. Else prove '..UptoSaid'. A law counts once. -/
mutual
def uptoBulk {H : Type} : DataW H → Nat
  | .lit (.string bytes) => bytes.length + 1
  | .lit _ => 1
  | .nil => 1
  | .ptr d => uptoBulk d + 1
  | .slice elems spare => uptoBulkAll elems + uptoBulkAll spare + 1
  | .agg parts => uptoBulkAll parts + 1
  | .iface _ d => uptoBulk d + 1
  | .map entries => uptoBulkEntries entries + 1
  | .held _ => 1
def uptoBulkAll {H : Type} : List (DataW H) → Nat
  | [] => 0
  | d :: r => uptoBulk d + uptoBulkAll r
def uptoBulkEntries {H : Type} : List (Lit × DataW H) → Nat
  | [] => 0
  | x :: r => uptoBulkEntry x + uptoBulkEntries r
def uptoBulkEntry {H : Type} : Lit × DataW H → Nat
  | (.string bytes, d) => bytes.length + uptoBulk d + 1
  | (_, d) => uptoBulk d + 1
 end
def uptoSmall : (H : Type) → List (DataW H) → Bool := fun _ ds => decide (uptoBulkAll ds ≤ 1048576)
def OpenSpec.upto (s : _root_.Go.ChangeSpec) : _root_.Go.OpenSpec := { _root_.Go.OpenSpec.ofChange s with cond := some uptoSmall }

/-- 'actuarylaw15.BoundDets', WHERE WHAT IT READS IS OF BULK AT MOST 1048576: true; the input reads as it did. -/
def boundDetsUptoRow : OpenClaim := { program := "ytlgbhpdblpekfaa", sum := "25815bf251b377eb4d2b229a0f61e59cc440058c805d6626368d9a10742390a5", func := "actuary/actuarylaw15.BoundDets", spec := "boundDets", recurses := true, apart := false, narrowed := true }
def BoundDetsUptoSaid : Prop := boundDetsUptoRow.holds Try.pinned (OpenSpec.upto boundDetsSpec)

/-- 'actuarylaw15.BoundSolves', WHERE WHAT IT READS IS OF BULK AT MOST 1048576: true; the input reads as it did. -/
def boundSolvesUptoRow : OpenClaim := { program := "ytlgbhpdblpekfaa", sum := "25815bf251b377eb4d2b229a0f61e59cc440058c805d6626368d9a10742390a5", func := "actuary/actuarylaw15.BoundSolves", spec := "boundSolves", recurses := true, apart := false, narrowed := true }
def BoundSolvesUptoSaid : Prop := boundSolvesUptoRow.holds Try.pinned (OpenSpec.upto boundSolvesSpec)

/-- 'actuarylaw13.LuPivots', WHERE WHAT IT READS IS OF BULK AT MOST 1048576: true; the input reads as it did. -/
def luPivotsUptoRow : OpenClaim := { program := "ytlgbhpdblpekfaa", sum := "25815bf251b377eb4d2b229a0f61e59cc440058c805d6626368d9a10742390a5", func := "actuary/actuarylaw13.LuPivots", spec := "luPivots", recurses := true, apart := false, narrowed := true }
def LuPivotsUptoSaid : Prop := luPivotsUptoRow.holds Try.pinned (OpenSpec.upto luPivotsSpec)

/-- 'actuarylaw13.LuProduct', WHERE WHAT IT READS IS OF BULK AT MOST 1048576: true; the input reads as it did. -/
def luProductUptoRow : OpenClaim := { program := "ytlgbhpdblpekfaa", sum := "25815bf251b377eb4d2b229a0f61e59cc440058c805d6626368d9a10742390a5", func := "actuary/actuarylaw13.LuProduct", spec := "luProduct", recurses := true, apart := false, narrowed := true }
def LuProductUptoSaid : Prop := luProductUptoRow.holds Try.pinned (OpenSpec.upto luProductSpec)

/-- 'actuarylaw13.LuBack', WHERE WHAT IT READS IS OF BULK AT MOST 1048576: true; the input reads as it did. -/
def luBackUptoRow : OpenClaim := { program := "ytlgbhpdblpekfaa", sum := "25815bf251b377eb4d2b229a0f61e59cc440058c805d6626368d9a10742390a5", func := "actuary/actuarylaw13.LuBack", spec := "luBack", recurses := true, apart := false, narrowed := true }
def LuBackUptoSaid : Prop := luBackUptoRow.holds Try.pinned (OpenSpec.upto luBackSpec)

/-- 'actuarylaw12.ElimReduces', WHERE WHAT IT READS IS OF BULK AT MOST 1048576: true; the input reads as it did. -/
def elimReducesUptoRow : OpenClaim := { program := "ytlgbhpdblpekfaa", sum := "25815bf251b377eb4d2b229a0f61e59cc440058c805d6626368d9a10742390a5", func := "actuary/actuarylaw12.ElimReduces", spec := "elimReduces", recurses := true, apart := false, narrowed := true }
def ElimReducesUptoSaid : Prop := elimReducesUptoRow.holds Try.pinned (OpenSpec.upto elimReducesSpec)

/-- 'actuarylaw12.ElimSolves', WHERE WHAT IT READS IS OF BULK AT MOST 1048576: true; the input reads as it did. -/
def elimSolvesUptoRow : OpenClaim := { program := "ytlgbhpdblpekfaa", sum := "25815bf251b377eb4d2b229a0f61e59cc440058c805d6626368d9a10742390a5", func := "actuary/actuarylaw12.ElimSolves", spec := "elimSolves", recurses := true, apart := false, narrowed := true }
def ElimSolvesUptoSaid : Prop := elimSolvesUptoRow.holds Try.pinned (OpenSpec.upto elimSolvesSpec)

/-- 'actuarylaw12.ElimKernel', WHERE WHAT IT READS IS OF BULK AT MOST 1048576: true; the input reads as it did. -/
def elimKernelUptoRow : OpenClaim := { program := "ytlgbhpdblpekfaa", sum := "25815bf251b377eb4d2b229a0f61e59cc440058c805d6626368d9a10742390a5", func := "actuary/actuarylaw12.ElimKernel", spec := "elimKernel", recurses := true, apart := false, narrowed := true }
def ElimKernelUptoSaid : Prop := elimKernelUptoRow.holds Try.pinned (OpenSpec.upto elimKernelSpec)

end Rows
end Go.Proofs.Ytlgbhpdblpekfaa
