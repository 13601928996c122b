/-
  No cell of these rows narrows 'for every input' (looked for: loops, veiled, ifaces, maps, wideKeys, modest, calm, conditions, laid).
  DERIVED. THE GIVEN ROWS OF THIS SEAT. 5 by the template 'for every input the law returns true; each argument reads behind the call as it read before'; 0 by the template 'total and deterministic' (their statements: YtcdpjgkneacodaaTotals.lean).
  GIVEN WITH THE SEED: the statements are not yours to turn. If you find one false, say at which input.
  Laid BY PROGRAM, IN A SANDBOX (cutbox-rows.mjs): the forced cells as the released guide's own fill.sh prints them over the translation f7955d89b1290475… (all of the seat's roots in one cut). By AI agents, Wed Nov 11 2026. No macro, syntax, notation, axiom, sorry.
-/
import Derived.Test.YtcdpjgkneacodaaChecked
import GoSem.Claim
import GoSem.ClaimJoined
import GoSem.ClaimMapViews
import Derived.JoinedTies
import Derived.KernelRfl
namespace Go.Proofs.Ytcdpjgkneacodaa
/- THE CELL 'sum', in the pinned program and in every row, IS THE sha256 OF THE DUMP (.gsa) THAT YtcdpjgkneacodaaProg.lean LOADS. Nothing in Lean hashes anything: it is a label: what it is worth is what the hold of that sum in a sandbox is worth. -/
noncomputable def Try.pinned : Pinned := { name := "ytcdpjgkneacodaa", sum := "f7955d89b12904755dcdd00d6921239d481b1bfd5a963565195e6c351ef1bef6", checked := Try.checked }
namespace Rows
def none {H : Type} : Left H := { results := [], args := [] }

/-- 'actuarylaw08.RatNews': WHATEVER THE INPUT: true; the input reads as it did. -/
def ratNewsSpec : ChangeSpec := { name := "ratNews", fn := fun _ => fun
  | [d1, d2] => { results := [.lit (.bool true)], args := [d1, d2] }
  | _ => none }
def ratNewsRow : OpenClaim := { program := "ytcdpjgkneacodaa", sum := "f7955d89b12904755dcdd00d6921239d481b1bfd5a963565195e6c351ef1bef6", func := "actuary/actuarylaw08.RatNews", spec := "ratNews", recurses := true, apart := false }
def RatNewsSaid : Prop := ratNewsRow.holds Try.pinned (OpenSpec.ofChange ratNewsSpec)

/-- ITS FALSE NEIGHBOUR: 'it returns false'. Refute it at one input. -/
def ratNewsWrong : ChangeSpec := { name := "ratNews", fn := fun _ => fun
  | [d1, d2] => { results := [.lit (.bool false)], args := [d1, d2] }
  | _ => none }
def RatNewsWrongFalsely : Prop := ratNewsRow.holds Try.pinned (OpenSpec.ofChange ratNewsWrong)

/-- 'actuarylaw11.MatTurns': WHATEVER THE INPUT: true; the input reads as it did. -/
def matTurnsSpec : ChangeSpec := { name := "matTurns", fn := fun _ => fun
  | [d1, d2] => { results := [.lit (.bool true)], args := [d1, d2] }
  | _ => none }
def matTurnsRow : OpenClaim := { program := "ytcdpjgkneacodaa", sum := "f7955d89b12904755dcdd00d6921239d481b1bfd5a963565195e6c351ef1bef6", func := "actuary/actuarylaw11.MatTurns", spec := "matTurns", recurses := true, apart := false }
def MatTurnsSaid : Prop := matTurnsRow.holds Try.pinned (OpenSpec.ofChange matTurnsSpec)

/-- ITS FALSE NEIGHBOUR: 'it returns false'. Refute it at one input. -/
def matTurnsWrong : ChangeSpec := { name := "matTurns", fn := fun _ => fun
  | [d1, d2] => { results := [.lit (.bool false)], args := [d1, d2] }
  | _ => none }
def MatTurnsWrongFalsely : Prop := matTurnsRow.holds Try.pinned (OpenSpec.ofChange matTurnsWrong)

/-- 'actuarylaw11.MatGroups': WHATEVER THE INPUT: true; the input reads as it did. -/
def matGroupsSpec : ChangeSpec := { name := "matGroups", fn := fun _ => fun
  | [d1, d2, d3] => { results := [.lit (.bool true)], args := [d1, d2, d3] }
  | _ => none }
def matGroupsRow : OpenClaim := { program := "ytcdpjgkneacodaa", sum := "f7955d89b12904755dcdd00d6921239d481b1bfd5a963565195e6c351ef1bef6", func := "actuary/actuarylaw11.MatGroups", spec := "matGroups", recurses := true, apart := false }
def MatGroupsSaid : Prop := matGroupsRow.holds Try.pinned (OpenSpec.ofChange matGroupsSpec)

/-- ITS FALSE NEIGHBOUR: 'it returns false'. Refute it at one input. -/
def matGroupsWrong : ChangeSpec := { name := "matGroups", fn := fun _ => fun
  | [d1, d2, d3] => { results := [.lit (.bool false)], args := [d1, d2, d3] }
  | _ => none }
def MatGroupsWrongFalsely : Prop := matGroupsRow.holds Try.pinned (OpenSpec.ofChange matGroupsWrong)

/-- 'actuarylaw11.MatSame': WHATEVER THE INPUT: true; the input reads as it did. -/
def matSameSpec : ChangeSpec := { name := "matSame", fn := fun _ => fun
  | [d1, d2] => { results := [.lit (.bool true)], args := [d1, d2] }
  | _ => none }
def matSameRow : OpenClaim := { program := "ytcdpjgkneacodaa", sum := "f7955d89b12904755dcdd00d6921239d481b1bfd5a963565195e6c351ef1bef6", func := "actuary/actuarylaw11.MatSame", spec := "matSame", recurses := true, apart := false }
def MatSameSaid : Prop := matSameRow.holds Try.pinned (OpenSpec.ofChange matSameSpec)

/-- ITS FALSE NEIGHBOUR: 'it returns false'. Refute it at one input. -/
def matSameWrong : ChangeSpec := { name := "matSame", fn := fun _ => fun
  | [d1, d2] => { results := [.lit (.bool false)], args := [d1, d2] }
  | _ => none }
def MatSameWrongFalsely : Prop := matSameRow.holds Try.pinned (OpenSpec.ofChange matSameWrong)

/-- 'actuarylaw11.MatBack': WHATEVER THE INPUT: true; the input reads as it did. -/
def matBackSpec : ChangeSpec := { name := "matBack", fn := fun _ => fun
  | [d1, d2] => { results := [.lit (.bool true)], args := [d1, d2] }
  | _ => none }
def matBackRow : OpenClaim := { program := "ytcdpjgkneacodaa", sum := "f7955d89b12904755dcdd00d6921239d481b1bfd5a963565195e6c351ef1bef6", func := "actuary/actuarylaw11.MatBack", spec := "matBack", recurses := true, apart := false }
def MatBackSaid : Prop := matBackRow.holds Try.pinned (OpenSpec.ofChange matBackSpec)

/-- ITS FALSE NEIGHBOUR: 'it returns false'. Refute it at one input. -/
def matBackWrong : ChangeSpec := { name := "matBack", fn := fun _ => fun
  | [d1, d2] => { results := [.lit (.bool false)], args := [d1, d2] }
  | _ => none }
def MatBackWrongFalsely : Prop := matBackRow.holds Try.pinned (OpenSpec.ofChange matBackWrong)

/- THE SECOND FORM. 'bulk': how many values and letters a reading holds, each counted each time it is reached (what is shared counts as often as it is met; a slice's spare places count too). A statement '..UptoSaid' is the law's where the arguments, and the package variables that the reading takes, are together of bulk at most 1048576: NARROWER than '..Said'. Prove '..Said' where nothing that the law and all that it calls make is longer than what came in: it says more and counts as full. Else prove '..UptoSaid'. A law counts once. -/
mutual
def uptoBulk {H : Type} : DataW H → Nat
  | .lit (.string bytes) => bytes.length + 1
  | .lit _ => 1
  | .nil => 1
  | .ptr d => uptoBulk d + 1
  | .slice elems spare => uptoBulkAll elems + uptoBulkAll spare + 1
  | .agg parts => uptoBulkAll parts + 1
  | .iface _ d => uptoBulk d + 1
  | .map entries => uptoBulkEntries entries + 1
  | .held _ => 1
def uptoBulkAll {H : Type} : List (DataW H) → Nat
  | [] => 0
  | d :: r => uptoBulk d + uptoBulkAll r
def uptoBulkEntries {H : Type} : List (Lit × DataW H) → Nat
  | [] => 0
  | x :: r => uptoBulkEntry x + uptoBulkEntries r
def uptoBulkEntry {H : Type} : Lit × DataW H → Nat
  | (.string bytes, d) => bytes.length + uptoBulk d + 1
  | (_, d) => uptoBulk d + 1
 end
def uptoSmall : (H : Type) → List (DataW H) → Bool := fun _ ds => decide (uptoBulkAll ds ≤ 1048576)
def OpenSpec.upto (s : _root_.Go.ChangeSpec) : _root_.Go.OpenSpec := { _root_.Go.OpenSpec.ofChange s with cond := some uptoSmall }

/-- 'actuarylaw08.RatNews', WHERE WHAT IT READS IS OF BULK AT MOST 1048576: true; the input reads as it did. -/
def ratNewsUptoRow : OpenClaim := { program := "ytcdpjgkneacodaa", sum := "f7955d89b12904755dcdd00d6921239d481b1bfd5a963565195e6c351ef1bef6", func := "actuary/actuarylaw08.RatNews", spec := "ratNews", recurses := true, apart := false, narrowed := true }
def RatNewsUptoSaid : Prop := ratNewsUptoRow.holds Try.pinned (OpenSpec.upto ratNewsSpec)

/-- 'actuarylaw11.MatTurns', WHERE WHAT IT READS IS OF BULK AT MOST 1048576: true; the input reads as it did. -/
def matTurnsUptoRow : OpenClaim := { program := "ytcdpjgkneacodaa", sum := "f7955d89b12904755dcdd00d6921239d481b1bfd5a963565195e6c351ef1bef6", func := "actuary/actuarylaw11.MatTurns", spec := "matTurns", recurses := true, apart := false, narrowed := true }
def MatTurnsUptoSaid : Prop := matTurnsUptoRow.holds Try.pinned (OpenSpec.upto matTurnsSpec)

/-- 'actuarylaw11.MatGroups', WHERE WHAT IT READS IS OF BULK AT MOST 1048576: true; the input reads as it did. -/
def matGroupsUptoRow : OpenClaim := { program := "ytcdpjgkneacodaa", sum := "f7955d89b12904755dcdd00d6921239d481b1bfd5a963565195e6c351ef1bef6", func := "actuary/actuarylaw11.MatGroups", spec := "matGroups", recurses := true, apart := false, narrowed := true }
def MatGroupsUptoSaid : Prop := matGroupsUptoRow.holds Try.pinned (OpenSpec.upto matGroupsSpec)

/-- 'actuarylaw11.MatSame', WHERE WHAT IT READS IS OF BULK AT MOST 1048576: true; the input reads as it did. -/
def matSameUptoRow : OpenClaim := { program := "ytcdpjgkneacodaa", sum := "f7955d89b12904755dcdd00d6921239d481b1bfd5a963565195e6c351ef1bef6", func := "actuary/actuarylaw11.MatSame", spec := "matSame", recurses := true, apart := false, narrowed := true }
def MatSameUptoSaid : Prop := matSameUptoRow.holds Try.pinned (OpenSpec.upto matSameSpec)

/-- 'actuarylaw11.MatBack', WHERE WHAT IT READS IS OF BULK AT MOST 1048576: true; the input reads as it did. -/
def matBackUptoRow : OpenClaim := { program := "ytcdpjgkneacodaa", sum := "f7955d89b12904755dcdd00d6921239d481b1bfd5a963565195e6c351ef1bef6", func := "actuary/actuarylaw11.MatBack", spec := "matBack", recurses := true, apart := false, narrowed := true }
def MatBackUptoSaid : Prop := matBackUptoRow.holds Try.pinned (OpenSpec.upto matBackSpec)

end Rows
end Go.Proofs.Ytcdpjgkneacodaa
