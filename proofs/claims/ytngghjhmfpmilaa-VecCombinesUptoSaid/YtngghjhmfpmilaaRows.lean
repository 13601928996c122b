/-
  No cell of these rows narrows 'for every input' (looked for: loops, veiled, ifaces, maps, wideKeys, modest, calm, conditions, laid).
  DERIVED. THE GIVEN ROWS OF THIS SEAT. 8 by the template 'for every input the law returns true; each argument reads behind the call as it read before'; 0 by the template 'total and deterministic' (their statements: YtngghjhmfpmilaaTotals.lean).
  GIVEN WITH THE SEED: the statements are not yours to turn. If you find one false, say at which input.
  Laid BY PROGRAM, IN A SANDBOX (cutbox-rows.mjs): the forced cells as the released guide's own fill.sh prints them over the translation 7b159670dd7f9df6… (all of the seat's roots in one cut). By AI agents, Wed Nov 11 2026. No macro, syntax, notation, axiom, sorry.
-/
import Derived.Test.YtngghjhmfpmilaaChecked
import GoSem.Claim
import GoSem.ClaimJoined
import GoSem.ClaimMapViews
import Derived.JoinedTies
import Derived.KernelRfl
namespace Go.Proofs.Ytngghjhmfpmilaa
/- THE CELL 'sum', in the pinned program and in every row, IS THE sha256 OF THE DUMP (.gsa) THAT YtngghjhmfpmilaaProg.lean LOADS. Nothing in Lean hashes anything: it is a label: what it is worth is what the hold of that sum in a sandbox is worth. -/
noncomputable def Try.pinned : Pinned := { name := "ytngghjhmfpmilaa", sum := "7b159670dd7f9df61cf1cd9e6fa98899849336c7f277d566963f5810a2fc53c4", checked := Try.checked }
namespace Rows
def none {H : Type} : Left H := { results := [], args := [] }

/-- 'actuarylaw10.VecOrder': WHATEVER THE INPUT: true; the input reads as it did. -/
def vecOrderSpec : ChangeSpec := { name := "vecOrder", fn := fun _ => fun
  | [d1, d2, d3] => { results := [.lit (.bool true)], args := [d1, d2, d3] }
  | _ => none }
def vecOrderRow : OpenClaim := { program := "ytngghjhmfpmilaa", sum := "7b159670dd7f9df61cf1cd9e6fa98899849336c7f277d566963f5810a2fc53c4", func := "actuary/actuarylaw10.VecOrder", spec := "vecOrder", recurses := true, apart := false }
def VecOrderSaid : Prop := vecOrderRow.holds Try.pinned (OpenSpec.ofChange vecOrderSpec)

/-- ITS FALSE NEIGHBOUR: 'it returns false'. Refute it at one input. -/
def vecOrderWrong : ChangeSpec := { name := "vecOrder", fn := fun _ => fun
  | [d1, d2, d3] => { results := [.lit (.bool false)], args := [d1, d2, d3] }
  | _ => none }
def VecOrderWrongFalsely : Prop := vecOrderRow.holds Try.pinned (OpenSpec.ofChange vecOrderWrong)

/-- 'actuarylaw10.VecCombines': WHATEVER THE INPUT: true; the input reads as it did. -/
def vecCombinesSpec : ChangeSpec := { name := "vecCombines", fn := fun _ => fun
  | [d1, d2] => { results := [.lit (.bool true)], args := [d1, d2] }
  | _ => none }
def vecCombinesRow : OpenClaim := { program := "ytngghjhmfpmilaa", sum := "7b159670dd7f9df61cf1cd9e6fa98899849336c7f277d566963f5810a2fc53c4", func := "actuary/actuarylaw10.VecCombines", spec := "vecCombines", recurses := true, apart := false }
def VecCombinesSaid : Prop := vecCombinesRow.holds Try.pinned (OpenSpec.ofChange vecCombinesSpec)

/-- ITS FALSE NEIGHBOUR: 'it returns false'. Refute it at one input. -/
def vecCombinesWrong : ChangeSpec := { name := "vecCombines", fn := fun _ => fun
  | [d1, d2] => { results := [.lit (.bool false)], args := [d1, d2] }
  | _ => none }
def VecCombinesWrongFalsely : Prop := vecCombinesRow.holds Try.pinned (OpenSpec.ofChange vecCombinesWrong)

/-- 'actuarylaw10.VecSquares': WHATEVER THE INPUT: true; the input reads as it did. -/
def vecSquaresSpec : ChangeSpec := { name := "vecSquares", fn := fun _ => fun
  | [d] => { results := [.lit (.bool true)], args := [d] }
  | _ => none }
def vecSquaresRow : OpenClaim := { program := "ytngghjhmfpmilaa", sum := "7b159670dd7f9df61cf1cd9e6fa98899849336c7f277d566963f5810a2fc53c4", func := "actuary/actuarylaw10.VecSquares", spec := "vecSquares", recurses := true, apart := false }
def VecSquaresSaid : Prop := vecSquaresRow.holds Try.pinned (OpenSpec.ofChange vecSquaresSpec)

/-- ITS FALSE NEIGHBOUR: 'it returns false'. Refute it at one input. -/
def vecSquaresWrong : ChangeSpec := { name := "vecSquares", fn := fun _ => fun
  | [d] => { results := [.lit (.bool false)], args := [d] }
  | _ => none }
def VecSquaresWrongFalsely : Prop := vecSquaresRow.holds Try.pinned (OpenSpec.ofChange vecSquaresWrong)

/-- 'actuarylaw10.VecRoom': WHATEVER THE INPUT: true; the input reads as it did. -/
def vecRoomSpec : ChangeSpec := { name := "vecRoom", fn := fun _ => fun
  | [d1, d2, d3, d4] => { results := [.lit (.bool true)], args := [d1, d2, d3, d4] }
  | _ => none }
def vecRoomRow : OpenClaim := { program := "ytngghjhmfpmilaa", sum := "7b159670dd7f9df61cf1cd9e6fa98899849336c7f277d566963f5810a2fc53c4", func := "actuary/actuarylaw10.VecRoom", spec := "vecRoom", recurses := true, apart := false }
def VecRoomSaid : Prop := vecRoomRow.holds Try.pinned (OpenSpec.ofChange vecRoomSpec)

/-- ITS FALSE NEIGHBOUR: 'it returns false'. Refute it at one input. -/
def vecRoomWrong : ChangeSpec := { name := "vecRoom", fn := fun _ => fun
  | [d1, d2, d3, d4] => { results := [.lit (.bool false)], args := [d1, d2, d3, d4] }
  | _ => none }
def VecRoomWrongFalsely : Prop := vecRoomRow.holds Try.pinned (OpenSpec.ofChange vecRoomWrong)

/-- 'actuarylaw11.MatTurns': WHATEVER THE INPUT: true; the input reads as it did. -/
def matTurnsSpec : ChangeSpec := { name := "matTurns", fn := fun _ => fun
  | [d1, d2] => { results := [.lit (.bool true)], args := [d1, d2] }
  | _ => none }
def matTurnsRow : OpenClaim := { program := "ytngghjhmfpmilaa", sum := "7b159670dd7f9df61cf1cd9e6fa98899849336c7f277d566963f5810a2fc53c4", func := "actuary/actuarylaw11.MatTurns", spec := "matTurns", recurses := true, apart := false }
def MatTurnsSaid : Prop := matTurnsRow.holds Try.pinned (OpenSpec.ofChange matTurnsSpec)

/-- ITS FALSE NEIGHBOUR: 'it returns false'. Refute it at one input. -/
def matTurnsWrong : ChangeSpec := { name := "matTurns", fn := fun _ => fun
  | [d1, d2] => { results := [.lit (.bool false)], args := [d1, d2] }
  | _ => none }
def MatTurnsWrongFalsely : Prop := matTurnsRow.holds Try.pinned (OpenSpec.ofChange matTurnsWrong)

/-- 'actuarylaw11.MatGroups': WHATEVER THE INPUT: true; the input reads as it did. -/
def matGroupsSpec : ChangeSpec := { name := "matGroups", fn := fun _ => fun
  | [d1, d2, d3] => { results := [.lit (.bool true)], args := [d1, d2, d3] }
  | _ => none }
def matGroupsRow : OpenClaim := { program := "ytngghjhmfpmilaa", sum := "7b159670dd7f9df61cf1cd9e6fa98899849336c7f277d566963f5810a2fc53c4", func := "actuary/actuarylaw11.MatGroups", spec := "matGroups", recurses := true, apart := false }
def MatGroupsSaid : Prop := matGroupsRow.holds Try.pinned (OpenSpec.ofChange matGroupsSpec)

/-- ITS FALSE NEIGHBOUR: 'it returns false'. Refute it at one input. -/
def matGroupsWrong : ChangeSpec := { name := "matGroups", fn := fun _ => fun
  | [d1, d2, d3] => { results := [.lit (.bool false)], args := [d1, d2, d3] }
  | _ => none }
def MatGroupsWrongFalsely : Prop := matGroupsRow.holds Try.pinned (OpenSpec.ofChange matGroupsWrong)

/-- 'actuarylaw11.MatSame': WHATEVER THE INPUT: true; the input reads as it did. -/
def matSameSpec : ChangeSpec := { name := "matSame", fn := fun _ => fun
  | [d1, d2] => { results := [.lit (.bool true)], args := [d1, d2] }
  | _ => none }
def matSameRow : OpenClaim := { program := "ytngghjhmfpmilaa", sum := "7b159670dd7f9df61cf1cd9e6fa98899849336c7f277d566963f5810a2fc53c4", func := "actuary/actuarylaw11.MatSame", spec := "matSame", recurses := true, apart := false }
def MatSameSaid : Prop := matSameRow.holds Try.pinned (OpenSpec.ofChange matSameSpec)

/-- ITS FALSE NEIGHBOUR: 'it returns false'. Refute it at one input. -/
def matSameWrong : ChangeSpec := { name := "matSame", fn := fun _ => fun
  | [d1, d2] => { results := [.lit (.bool false)], args := [d1, d2] }
  | _ => none }
def MatSameWrongFalsely : Prop := matSameRow.holds Try.pinned (OpenSpec.ofChange matSameWrong)

/-- 'actuarylaw11.MatBack': WHATEVER THE INPUT: true; the input reads as it did. -/
def matBackSpec : ChangeSpec := { name := "matBack", fn := fun _ => fun
  | [d1, d2] => { results := [.lit (.bool true)], args := [d1, d2] }
  | _ => none }
def matBackRow : OpenClaim := { program := "ytngghjhmfpmilaa", sum := "7b159670dd7f9df61cf1cd9e6fa98899849336c7f277d566963f5810a2fc53c4", func := "actuary/actuarylaw11.MatBack", spec := "matBack", recurses := true, apart := false }
def MatBackSaid : Prop := matBackRow.holds Try.pinned (OpenSpec.ofChange matBackSpec)

/-- ITS FALSE NEIGHBOUR: 'it returns false'. Refute it at one input. -/
def matBackWrong : ChangeSpec := { name := "matBack", fn := fun _ => fun
  | [d1, d2] => { results := [.lit (.bool false)], args := [d1, d2] }
  | _ => none }
def MatBackWrongFalsely : Prop := matBackRow.holds Try.pinned (OpenSpec.ofChange matBackWrong)

/- THE SECOND FORM. 'bulk': how many values and letters a reading holds, each counted each time it is reached (what is shared counts as often as it is met; a slice's spare places count too). A statement '..UptoSaid' is the law's where the arguments, and the package variables that the reading takes, are together of bulk at most 1048576: NARROWER than '..Said'. Prove '..Said' where nothing that the law and all that it calls make is longer than what came in: it says more and counts as full. Else prove '..UptoSaid'. A law counts once. -/
mutual
def uptoBulk {H : Type} : DataW H → Nat
  | .lit (.string bytes) => bytes.length + 1
  | .lit _ => 1
  | .nil => 1
  | .ptr d => uptoBulk d + 1
  | .slice elems spare => uptoBulkAll elems + uptoBulkAll spare + 1
  | .agg parts => uptoBulkAll parts + 1
  | .iface _ d => uptoBulk d + 1
  | .map entries => uptoBulkEntries entries + 1
  | .held _ => 1
def uptoBulkAll {H : Type} : List (DataW H) → Nat
  | [] => 0
  | d :: r => uptoBulk d + uptoBulkAll r
def uptoBulkEntries {H : Type} : List (Lit × DataW H) → Nat
  | [] => 0
  | x :: r => uptoBulkEntry x + uptoBulkEntries r
def uptoBulkEntry {H : Type} : Lit × DataW H → Nat
  | (.string bytes, d) => bytes.length + uptoBulk d + 1
  | (_, d) => uptoBulk d + 1
 end
def uptoSmall : (H : Type) → List (DataW H) → Bool := fun _ ds => decide (uptoBulkAll ds ≤ 1048576)
def OpenSpec.upto (s : _root_.Go.ChangeSpec) : _root_.Go.OpenSpec := { _root_.Go.OpenSpec.ofChange s with cond := some uptoSmall }

/-- 'actuarylaw10.VecOrder', WHERE WHAT IT READS IS OF BULK AT MOST 1048576: true; the input reads as it did. -/
def vecOrderUptoRow : OpenClaim := { program := "ytngghjhmfpmilaa", sum := "7b159670dd7f9df61cf1cd9e6fa98899849336c7f277d566963f5810a2fc53c4", func := "actuary/actuarylaw10.VecOrder", spec := "vecOrder", recurses := true, apart := false, narrowed := true }
def VecOrderUptoSaid : Prop := vecOrderUptoRow.holds Try.pinned (OpenSpec.upto vecOrderSpec)

/-- 'actuarylaw10.VecCombines', WHERE WHAT IT READS IS OF BULK AT MOST 1048576: true; the input reads as it did. -/
def vecCombinesUptoRow : OpenClaim := { program := "ytngghjhmfpmilaa", sum := "7b159670dd7f9df61cf1cd9e6fa98899849336c7f277d566963f5810a2fc53c4", func := "actuary/actuarylaw10.VecCombines", spec := "vecCombines", recurses := true, apart := false, narrowed := true }
def VecCombinesUptoSaid : Prop := vecCombinesUptoRow.holds Try.pinned (OpenSpec.upto vecCombinesSpec)

/-- 'actuarylaw10.VecSquares', WHERE WHAT IT READS IS OF BULK AT MOST 1048576: true; the input reads as it did. -/
def vecSquaresUptoRow : OpenClaim := { program := "ytngghjhmfpmilaa", sum := "7b159670dd7f9df61cf1cd9e6fa98899849336c7f277d566963f5810a2fc53c4", func := "actuary/actuarylaw10.VecSquares", spec := "vecSquares", recurses := true, apart := false, narrowed := true }
def VecSquaresUptoSaid : Prop := vecSquaresUptoRow.holds Try.pinned (OpenSpec.upto vecSquaresSpec)

/-- 'actuarylaw10.VecRoom', WHERE WHAT IT READS IS OF BULK AT MOST 1048576: true; the input reads as it did. -/
def vecRoomUptoRow : OpenClaim := { program := "ytngghjhmfpmilaa", sum := "7b159670dd7f9df61cf1cd9e6fa98899849336c7f277d566963f5810a2fc53c4", func := "actuary/actuarylaw10.VecRoom", spec := "vecRoom", recurses := true, apart := false, narrowed := true }
def VecRoomUptoSaid : Prop := vecRoomUptoRow.holds Try.pinned (OpenSpec.upto vecRoomSpec)

/-- 'actuarylaw11.MatTurns', WHERE WHAT IT READS IS OF BULK AT MOST 1048576: true; the input reads as it did. -/
def matTurnsUptoRow : OpenClaim := { program := "ytngghjhmfpmilaa", sum := "7b159670dd7f9df61cf1cd9e6fa98899849336c7f277d566963f5810a2fc53c4", func := "actuary/actuarylaw11.MatTurns", spec := "matTurns", recurses := true, apart := false, narrowed := true }
def MatTurnsUptoSaid : Prop := matTurnsUptoRow.holds Try.pinned (OpenSpec.upto matTurnsSpec)

/-- 'actuarylaw11.MatGroups', WHERE WHAT IT READS IS OF BULK AT MOST 1048576: true; the input reads as it did. -/
def matGroupsUptoRow : OpenClaim := { program := "ytngghjhmfpmilaa", sum := "7b159670dd7f9df61cf1cd9e6fa98899849336c7f277d566963f5810a2fc53c4", func := "actuary/actuarylaw11.MatGroups", spec := "matGroups", recurses := true, apart := false, narrowed := true }
def MatGroupsUptoSaid : Prop := matGroupsUptoRow.holds Try.pinned (OpenSpec.upto matGroupsSpec)

/-- 'actuarylaw11.MatSame', WHERE WHAT IT READS IS OF BULK AT MOST 1048576: true; the input reads as it did. -/
def matSameUptoRow : OpenClaim := { program := "ytngghjhmfpmilaa", sum := "7b159670dd7f9df61cf1cd9e6fa98899849336c7f277d566963f5810a2fc53c4", func := "actuary/actuarylaw11.MatSame", spec := "matSame", recurses := true, apart := false, narrowed := true }
def MatSameUptoSaid : Prop := matSameUptoRow.holds Try.pinned (OpenSpec.upto matSameSpec)

/-- 'actuarylaw11.MatBack', WHERE WHAT IT READS IS OF BULK AT MOST 1048576: true; the input reads as it did. -/
def matBackUptoRow : OpenClaim := { program := "ytngghjhmfpmilaa", sum := "7b159670dd7f9df61cf1cd9e6fa98899849336c7f277d566963f5810a2fc53c4", func := "actuary/actuarylaw11.MatBack", spec := "matBack", recurses := true, apart := false, narrowed := true }
def MatBackUptoSaid : Prop := matBackUptoRow.holds Try.pinned (OpenSpec.upto matBackSpec)

end Rows
end Go.Proofs.Ytngghjhmfpmilaa
