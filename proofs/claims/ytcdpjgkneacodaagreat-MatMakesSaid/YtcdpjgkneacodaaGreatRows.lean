/-
  No cell of these rows narrows 'for every input' (looked for: loops, veiled, ifaces, maps, wideKeys, modest, calm, conditions, laid).
  DERIVED. THE GIVEN ROWS OF THIS SEAT. 7 by the template 'for every input the law returns true; each argument reads behind the call as it read before'; 0 by the template 'total and deterministic' (their statements: YtcdpjgkneacodaaGreatTotals.lean).
  GIVEN WITH THE SEED: the statements are not yours to turn. If you find one false, say at which input.
  Laid BY PROGRAM, IN A SANDBOX (cutbox-rows.mjs): the forced cells as the released guide's own fill.sh prints them over the translation 9c59c9772d1e35df… (all of the seat's roots in one cut). By AI agents, Wed Nov 11 2026. No macro, syntax, notation, axiom, sorry.
-/
import Derived.Test.YtcdpjgkneacodaaGreatChecked
import GoSem.Claim
import GoSem.ClaimJoined
import GoSem.ClaimMapViews
import Derived.JoinedTies
import Derived.KernelRfl
namespace Go.Proofs.YtcdpjgkneacodaaGreat
/- THE CELL 'sum', in the pinned program and in every row, IS THE sha256 OF THE DUMP (.gsa) THAT YtcdpjgkneacodaaGreatProg.lean LOADS. Nothing in Lean hashes anything: it is a label: what it is worth is what the hold of that sum in a sandbox is worth. -/
noncomputable def Tryz.pinned : Pinned := { name := "ytcdpjgkneacodaagreat", sum := "9c59c9772d1e35df23e71eb6bab56d487857f0f304e95dbf5e2fe6b7b772e4de", checked := Tryz.checked }
namespace Rows
def none {H : Type} : Left H := { results := [], args := [] }

/-- 'actuarylaw08.RatSums': WHATEVER THE INPUT: true; the input reads as it did. -/
def ratSumsSpec : ChangeSpec := { name := "ratSums", fn := fun _ => fun
  | [d1, d2] => { results := [.lit (.bool true)], args := [d1, d2] }
  | _ => none }
def ratSumsRow : OpenClaim := { program := "ytcdpjgkneacodaagreat", sum := "9c59c9772d1e35df23e71eb6bab56d487857f0f304e95dbf5e2fe6b7b772e4de", func := "actuary/actuarylaw08.RatSums", spec := "ratSums", recurses := true, apart := false }
def RatSumsSaid : Prop := ratSumsRow.holds Tryz.pinned (OpenSpec.ofChange ratSumsSpec)

/-- ITS FALSE NEIGHBOUR: 'it returns false'. Refute it at one input. -/
def ratSumsWrong : ChangeSpec := { name := "ratSums", fn := fun _ => fun
  | [d1, d2] => { results := [.lit (.bool false)], args := [d1, d2] }
  | _ => none }
def RatSumsWrongFalsely : Prop := ratSumsRow.holds Tryz.pinned (OpenSpec.ofChange ratSumsWrong)

/-- 'actuarylaw08.RatOrders': WHATEVER THE INPUT: true; the input reads as it did. -/
def ratOrdersSpec : ChangeSpec := { name := "ratOrders", fn := fun _ => fun
  | [d1, d2] => { results := [.lit (.bool true)], args := [d1, d2] }
  | _ => none }
def ratOrdersRow : OpenClaim := { program := "ytcdpjgkneacodaagreat", sum := "9c59c9772d1e35df23e71eb6bab56d487857f0f304e95dbf5e2fe6b7b772e4de", func := "actuary/actuarylaw08.RatOrders", spec := "ratOrders", recurses := true, apart := false }
def RatOrdersSaid : Prop := ratOrdersRow.holds Tryz.pinned (OpenSpec.ofChange ratOrdersSpec)

/-- ITS FALSE NEIGHBOUR: 'it returns false'. Refute it at one input. -/
def ratOrdersWrong : ChangeSpec := { name := "ratOrders", fn := fun _ => fun
  | [d1, d2] => { results := [.lit (.bool false)], args := [d1, d2] }
  | _ => none }
def RatOrdersWrongFalsely : Prop := ratOrdersRow.holds Tryz.pinned (OpenSpec.ofChange ratOrdersWrong)

/-- 'actuarylaw10.VecReckons': WHATEVER THE INPUT: true; the input reads as it did. -/
def vecReckonsSpec : ChangeSpec := { name := "vecReckons", fn := fun _ => fun
  | [d1, d2, d3] => { results := [.lit (.bool true)], args := [d1, d2, d3] }
  | _ => none }
def vecReckonsRow : OpenClaim := { program := "ytcdpjgkneacodaagreat", sum := "9c59c9772d1e35df23e71eb6bab56d487857f0f304e95dbf5e2fe6b7b772e4de", func := "actuary/actuarylaw10.VecReckons", spec := "vecReckons", recurses := true, apart := false }
def VecReckonsSaid : Prop := vecReckonsRow.holds Tryz.pinned (OpenSpec.ofChange vecReckonsSpec)

/-- ITS FALSE NEIGHBOUR: 'it returns false'. Refute it at one input. -/
def vecReckonsWrong : ChangeSpec := { name := "vecReckons", fn := fun _ => fun
  | [d1, d2, d3] => { results := [.lit (.bool false)], args := [d1, d2, d3] }
  | _ => none }
def VecReckonsWrongFalsely : Prop := vecReckonsRow.holds Tryz.pinned (OpenSpec.ofChange vecReckonsWrong)

/-- 'actuarylaw10.VecTells': WHATEVER THE INPUT: true; the input reads as it did. -/
def vecTellsSpec : ChangeSpec := { name := "vecTells", fn := fun _ => fun
  | [d1, d2, d3, d4] => { results := [.lit (.bool true)], args := [d1, d2, d3, d4] }
  | _ => none }
def vecTellsRow : OpenClaim := { program := "ytcdpjgkneacodaagreat", sum := "9c59c9772d1e35df23e71eb6bab56d487857f0f304e95dbf5e2fe6b7b772e4de", func := "actuary/actuarylaw10.VecTells", spec := "vecTells", recurses := true, apart := false }
def VecTellsSaid : Prop := vecTellsRow.holds Tryz.pinned (OpenSpec.ofChange vecTellsSpec)

/-- ITS FALSE NEIGHBOUR: 'it returns false'. Refute it at one input. -/
def vecTellsWrong : ChangeSpec := { name := "vecTells", fn := fun _ => fun
  | [d1, d2, d3, d4] => { results := [.lit (.bool false)], args := [d1, d2, d3, d4] }
  | _ => none }
def VecTellsWrongFalsely : Prop := vecTellsRow.holds Tryz.pinned (OpenSpec.ofChange vecTellsWrong)

/-- 'actuarylaw11.MatMuls': WHATEVER THE INPUT: true; the input reads as it did. -/
def matMulsSpec : ChangeSpec := { name := "matMuls", fn := fun _ => fun
  | [d1, d2, d3] => { results := [.lit (.bool true)], args := [d1, d2, d3] }
  | _ => none }
def matMulsRow : OpenClaim := { program := "ytcdpjgkneacodaagreat", sum := "9c59c9772d1e35df23e71eb6bab56d487857f0f304e95dbf5e2fe6b7b772e4de", func := "actuary/actuarylaw11.MatMuls", spec := "matMuls", recurses := true, apart := false }
def MatMulsSaid : Prop := matMulsRow.holds Tryz.pinned (OpenSpec.ofChange matMulsSpec)

/-- ITS FALSE NEIGHBOUR: 'it returns false'. Refute it at one input. -/
def matMulsWrong : ChangeSpec := { name := "matMuls", fn := fun _ => fun
  | [d1, d2, d3] => { results := [.lit (.bool false)], args := [d1, d2, d3] }
  | _ => none }
def MatMulsWrongFalsely : Prop := matMulsRow.holds Tryz.pinned (OpenSpec.ofChange matMulsWrong)

/-- 'actuarylaw11.MatMakes': WHATEVER THE INPUT: true; the input reads as it did. -/
def matMakesSpec : ChangeSpec := { name := "matMakes", fn := fun _ => fun
  | [d1, d2, d3, d4, d5] => { results := [.lit (.bool true)], args := [d1, d2, d3, d4, d5] }
  | _ => none }
def matMakesRow : OpenClaim := { program := "ytcdpjgkneacodaagreat", sum := "9c59c9772d1e35df23e71eb6bab56d487857f0f304e95dbf5e2fe6b7b772e4de", func := "actuary/actuarylaw11.MatMakes", spec := "matMakes", recurses := true, apart := false }
def MatMakesSaid : Prop := matMakesRow.holds Tryz.pinned (OpenSpec.ofChange matMakesSpec)

/-- ITS FALSE NEIGHBOUR: 'it returns false'. Refute it at one input. -/
def matMakesWrong : ChangeSpec := { name := "matMakes", fn := fun _ => fun
  | [d1, d2, d3, d4, d5] => { results := [.lit (.bool false)], args := [d1, d2, d3, d4, d5] }
  | _ => none }
def MatMakesWrongFalsely : Prop := matMakesRow.holds Tryz.pinned (OpenSpec.ofChange matMakesWrong)

/-- 'actuarylaw11.MatChanges': WHATEVER THE INPUT: true; the input reads as it did. -/
def matChangesSpec : ChangeSpec := { name := "matChanges", fn := fun _ => fun
  | [d1, d2, d3, d4, d5, d6] => { results := [.lit (.bool true)], args := [d1, d2, d3, d4, d5, d6] }
  | _ => none }
def matChangesRow : OpenClaim := { program := "ytcdpjgkneacodaagreat", sum := "9c59c9772d1e35df23e71eb6bab56d487857f0f304e95dbf5e2fe6b7b772e4de", func := "actuary/actuarylaw11.MatChanges", spec := "matChanges", recurses := true, apart := false }
def MatChangesSaid : Prop := matChangesRow.holds Tryz.pinned (OpenSpec.ofChange matChangesSpec)

/-- ITS FALSE NEIGHBOUR: 'it returns false'. Refute it at one input. -/
def matChangesWrong : ChangeSpec := { name := "matChanges", fn := fun _ => fun
  | [d1, d2, d3, d4, d5, d6] => { results := [.lit (.bool false)], args := [d1, d2, d3, d4, d5, d6] }
  | _ => none }
def MatChangesWrongFalsely : Prop := matChangesRow.holds Tryz.pinned (OpenSpec.ofChange matChangesWrong)

/- THE SECOND FORM. 'bulk': how many values and letters a reading holds, each counted each time it is reached (what is shared counts as often as it is met; a slice's spare places count too). A statement '..UptoSaid' is the law's where the arguments, and the package variables that the reading takes, are together of bulk at most 1048576: NARROWER than '..Said'. Prove '..Said' where nothing that the law and all that it calls make is longer than what came in: it says more and counts as full. Else prove '..UptoSaid'. A law counts once. -/
mutual
def uptoBulk {H : Type} : DataW H → Nat
  | .lit (.string bytes) => bytes.length + 1
  | .lit _ => 1
  | .nil => 1
  | .ptr d => uptoBulk d + 1
  | .slice elems spare => uptoBulkAll elems + uptoBulkAll spare + 1
  | .agg parts => uptoBulkAll parts + 1
  | .iface _ d => uptoBulk d + 1
  | .map entries => uptoBulkEntries entries + 1
  | .held _ => 1
def uptoBulkAll {H : Type} : List (DataW H) → Nat
  | [] => 0
  | d :: r => uptoBulk d + uptoBulkAll r
def uptoBulkEntries {H : Type} : List (Lit × DataW H) → Nat
  | [] => 0
  | x :: r => uptoBulkEntry x + uptoBulkEntries r
def uptoBulkEntry {H : Type} : Lit × DataW H → Nat
  | (.string bytes, d) => bytes.length + uptoBulk d + 1
  | (_, d) => uptoBulk d + 1
 end
def uptoSmall : (H : Type) → List (DataW H) → Bool := fun _ ds => decide (uptoBulkAll ds ≤ 1048576)
def OpenSpec.upto (s : _root_.Go.ChangeSpec) : _root_.Go.OpenSpec := { _root_.Go.OpenSpec.ofChange s with cond := some uptoSmall }

/-- 'actuarylaw08.RatSums', WHERE WHAT IT READS IS OF BULK AT MOST 1048576: true; the input reads as it did. -/
def ratSumsUptoRow : OpenClaim := { program := "ytcdpjgkneacodaagreat", sum := "9c59c9772d1e35df23e71eb6bab56d487857f0f304e95dbf5e2fe6b7b772e4de", func := "actuary/actuarylaw08.RatSums", spec := "ratSums", recurses := true, apart := false, narrowed := true }
def RatSumsUptoSaid : Prop := ratSumsUptoRow.holds Tryz.pinned (OpenSpec.upto ratSumsSpec)

/-- 'actuarylaw08.RatOrders', WHERE WHAT IT READS IS OF BULK AT MOST 1048576: true; the input reads as it did. -/
def ratOrdersUptoRow : OpenClaim := { program := "ytcdpjgkneacodaagreat", sum := "9c59c9772d1e35df23e71eb6bab56d487857f0f304e95dbf5e2fe6b7b772e4de", func := "actuary/actuarylaw08.RatOrders", spec := "ratOrders", recurses := true, apart := false, narrowed := true }
def RatOrdersUptoSaid : Prop := ratOrdersUptoRow.holds Tryz.pinned (OpenSpec.upto ratOrdersSpec)

/-- 'actuarylaw10.VecReckons', WHERE WHAT IT READS IS OF BULK AT MOST 1048576: true; the input reads as it did. -/
def vecReckonsUptoRow : OpenClaim := { program := "ytcdpjgkneacodaagreat", sum := "9c59c9772d1e35df23e71eb6bab56d487857f0f304e95dbf5e2fe6b7b772e4de", func := "actuary/actuarylaw10.VecReckons", spec := "vecReckons", recurses := true, apart := false, narrowed := true }
def VecReckonsUptoSaid : Prop := vecReckonsUptoRow.holds Tryz.pinned (OpenSpec.upto vecReckonsSpec)

/-- 'actuarylaw10.VecTells', WHERE WHAT IT READS IS OF BULK AT MOST 1048576: true; the input reads as it did. -/
def vecTellsUptoRow : OpenClaim := { program := "ytcdpjgkneacodaagreat", sum := "9c59c9772d1e35df23e71eb6bab56d487857f0f304e95dbf5e2fe6b7b772e4de", func := "actuary/actuarylaw10.VecTells", spec := "vecTells", recurses := true, apart := false, narrowed := true }
def VecTellsUptoSaid : Prop := vecTellsUptoRow.holds Tryz.pinned (OpenSpec.upto vecTellsSpec)

/-- 'actuarylaw11.MatMuls', WHERE WHAT IT READS IS OF BULK AT MOST 1048576: true; the input reads as it did. -/
def matMulsUptoRow : OpenClaim := { program := "ytcdpjgkneacodaagreat", sum := "9c59c9772d1e35df23e71eb6bab56d487857f0f304e95dbf5e2fe6b7b772e4de", func := "actuary/actuarylaw11.MatMuls", spec := "matMuls", recurses := true, apart := false, narrowed := true }
def MatMulsUptoSaid : Prop := matMulsUptoRow.holds Tryz.pinned (OpenSpec.upto matMulsSpec)

/-- 'actuarylaw11.MatMakes', WHERE WHAT IT READS IS OF BULK AT MOST 1048576: true; the input reads as it did. -/
def matMakesUptoRow : OpenClaim := { program := "ytcdpjgkneacodaagreat", sum := "9c59c9772d1e35df23e71eb6bab56d487857f0f304e95dbf5e2fe6b7b772e4de", func := "actuary/actuarylaw11.MatMakes", spec := "matMakes", recurses := true, apart := false, narrowed := true }
def MatMakesUptoSaid : Prop := matMakesUptoRow.holds Tryz.pinned (OpenSpec.upto matMakesSpec)

/-- 'actuarylaw11.MatChanges', WHERE WHAT IT READS IS OF BULK AT MOST 1048576: true; the input reads as it did. -/
def matChangesUptoRow : OpenClaim := { program := "ytcdpjgkneacodaagreat", sum := "9c59c9772d1e35df23e71eb6bab56d487857f0f304e95dbf5e2fe6b7b772e4de", func := "actuary/actuarylaw11.MatChanges", spec := "matChanges", recurses := true, apart := false, narrowed := true }
def MatChangesUptoSaid : Prop := matChangesUptoRow.holds Tryz.pinned (OpenSpec.upto matChangesSpec)

end Rows
end Go.Proofs.YtcdpjgkneacodaaGreat
