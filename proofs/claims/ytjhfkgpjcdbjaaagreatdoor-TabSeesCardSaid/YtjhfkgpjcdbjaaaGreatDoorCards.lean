/-
  DERIVED. GIVEN WITH THE SEED: THE CARDS: each row of YtjhfkgpjcdbjaaaGreatDoorRows.lean that lists a variable, with what it lists TIED to the program's text (the seventh form; the later family's looks); each row that meets fmt, with fmt's text TOLD by the authors' own Lean function (tested against real Go, not proved from fmt's source: count such statements apart). THE CARD IS WHAT COUNTS. Prove the row's statement (the work); the ties are given (YtjhfkgpjcdbjaaaGreatDoorTie.lean); close each card by the builder's one call (the guide's Derived/Test/ToyasCard.lean, 'card_holds'). Laid BY PROGRAM, IN A SANDBOX (cutbox-door.mjs). By AI agents, Wed Nov 11 2026. No macro, syntax, notation, axiom, sorry.
-/
import Derived.Test.YtjhfkgpjcdbjaaaGreatDoorRows
import GoSem.ClaimSeven
namespace Go.Proofs.YtjhfkgpjcdbjaaaGreatDoor
namespace Rows

/-- THE TIED CARD OF 'actuarylaw17.TabNews'. -/
def tabNewsCard : Claim7 := { stood := { row := tabNewsRow, standIns := [], harness := (true, "22c7d22c86f41f9fe783617c1e7c94fcb1782b144cb5089cb19163acf345400a"), looks := true }, kinds := [], alts := [], laidByText := true, laidKinds := [.handle], laidTests := true, laidLooks := .later }
def TabNewsCardSaid : Prop := Claim7.holds Tryz.pinned (.plain (OpenSpec.ofChange tabNewsSpec)) tabNewsCard

/-- THE TIED CARD OF 'actuarylaw17.TabLeaves'. -/
def tabLeavesCard : Claim7 := { stood := { row := tabLeavesRow, standIns := [], harness := (true, "22c7d22c86f41f9fe783617c1e7c94fcb1782b144cb5089cb19163acf345400a"), looks := true }, kinds := [], alts := [], laidByText := true, laidKinds := [.handle], laidTests := true, laidLooks := .later }
def TabLeavesCardSaid : Prop := Claim7.holds Tryz.pinned (.plain (OpenSpec.ofChange tabLeavesSpec)) tabLeavesCard

/-- THE TIED CARD OF 'actuarylaw17.TabSees'. -/
def tabSeesCard : Claim7 := { stood := { row := tabSeesRow, standIns := [], harness := (true, "22c7d22c86f41f9fe783617c1e7c94fcb1782b144cb5089cb19163acf345400a"), looks := true }, kinds := [], alts := [], laidByText := true, laidKinds := [.handle], laidTests := true, laidLooks := .later }
def TabSeesCardSaid : Prop := Claim7.holds Tryz.pinned (.plain (OpenSpec.ofChange tabSeesSpec)) tabSeesCard

/-- THE TIED CARD OF 'actuarylaw17.TabLines'. -/
def tabLinesCard : Claim7 := { stood := { row := tabLinesRow, standIns := [], harness := (true, "22c7d22c86f41f9fe783617c1e7c94fcb1782b144cb5089cb19163acf345400a"), looks := true }, kinds := [], alts := [], laidByText := true, laidKinds := [.handle], laidTests := true, laidLooks := .later }
def TabLinesCardSaid : Prop := Claim7.holds Tryz.pinned (.plain (OpenSpec.ofChange tabLinesSpec)) tabLinesCard

/-- THE TIED CARD OF 'actuarylaw17.TabPoints'. -/
def tabPointsCard : Claim7 := { stood := { row := tabPointsRow, standIns := [], harness := (true, "22c7d22c86f41f9fe783617c1e7c94fcb1782b144cb5089cb19163acf345400a"), looks := true }, kinds := [], alts := [], laidByText := true, laidKinds := [.handle], laidTests := true, laidLooks := .later }
def TabPointsCardSaid : Prop := Claim7.holds Tryz.pinned (.plain (OpenSpec.ofChange tabPointsSpec)) tabPointsCard

/-- THE TIED CARD OF 'actuarylaw17.TabSwaps'. -/
def tabSwapsCard : Claim7 := { stood := { row := tabSwapsRow, standIns := [], harness := (true, "22c7d22c86f41f9fe783617c1e7c94fcb1782b144cb5089cb19163acf345400a"), looks := true }, kinds := [], alts := [], laidByText := true, laidKinds := [.handle], laidTests := true, laidLooks := .later }
def TabSwapsCardSaid : Prop := Claim7.holds Tryz.pinned (.plain (OpenSpec.ofChange tabSwapsSpec)) tabSwapsCard

/-- THE SECOND FORM's CARD OF 'actuarylaw17.TabNews'. -/
def tabNewsUptoCard : Claim7 := { stood := { row := tabNewsUptoRow, standIns := [], harness := (true, "22c7d22c86f41f9fe783617c1e7c94fcb1782b144cb5089cb19163acf345400a"), looks := true }, kinds := [], alts := [], laidByText := true, laidKinds := [.handle], laidTests := true, laidLooks := .later }
def TabNewsUptoCardSaid : Prop := Claim7.holds Tryz.pinned (.plain (OpenSpec.upto tabNewsSpec)) tabNewsUptoCard

/-- THE SECOND FORM's CARD OF 'actuarylaw17.TabLeaves'. -/
def tabLeavesUptoCard : Claim7 := { stood := { row := tabLeavesUptoRow, standIns := [], harness := (true, "22c7d22c86f41f9fe783617c1e7c94fcb1782b144cb5089cb19163acf345400a"), looks := true }, kinds := [], alts := [], laidByText := true, laidKinds := [.handle], laidTests := true, laidLooks := .later }
def TabLeavesUptoCardSaid : Prop := Claim7.holds Tryz.pinned (.plain (OpenSpec.upto tabLeavesSpec)) tabLeavesUptoCard

/-- THE SECOND FORM's CARD OF 'actuarylaw17.TabSees'. -/
def tabSeesUptoCard : Claim7 := { stood := { row := tabSeesUptoRow, standIns := [], harness := (true, "22c7d22c86f41f9fe783617c1e7c94fcb1782b144cb5089cb19163acf345400a"), looks := true }, kinds := [], alts := [], laidByText := true, laidKinds := [.handle], laidTests := true, laidLooks := .later }
def TabSeesUptoCardSaid : Prop := Claim7.holds Tryz.pinned (.plain (OpenSpec.upto tabSeesSpec)) tabSeesUptoCard

/-- THE SECOND FORM's CARD OF 'actuarylaw17.TabLines'. -/
def tabLinesUptoCard : Claim7 := { stood := { row := tabLinesUptoRow, standIns := [], harness := (true, "22c7d22c86f41f9fe783617c1e7c94fcb1782b144cb5089cb19163acf345400a"), looks := true }, kinds := [], alts := [], laidByText := true, laidKinds := [.handle], laidTests := true, laidLooks := .later }
def TabLinesUptoCardSaid : Prop := Claim7.holds Tryz.pinned (.plain (OpenSpec.upto tabLinesSpec)) tabLinesUptoCard

/-- THE SECOND FORM's CARD OF 'actuarylaw17.TabPoints'. -/
def tabPointsUptoCard : Claim7 := { stood := { row := tabPointsUptoRow, standIns := [], harness := (true, "22c7d22c86f41f9fe783617c1e7c94fcb1782b144cb5089cb19163acf345400a"), looks := true }, kinds := [], alts := [], laidByText := true, laidKinds := [.handle], laidTests := true, laidLooks := .later }
def TabPointsUptoCardSaid : Prop := Claim7.holds Tryz.pinned (.plain (OpenSpec.upto tabPointsSpec)) tabPointsUptoCard

/-- THE SECOND FORM's CARD OF 'actuarylaw17.TabSwaps'. -/
def tabSwapsUptoCard : Claim7 := { stood := { row := tabSwapsUptoRow, standIns := [], harness := (true, "22c7d22c86f41f9fe783617c1e7c94fcb1782b144cb5089cb19163acf345400a"), looks := true }, kinds := [], alts := [], laidByText := true, laidKinds := [.handle], laidTests := true, laidLooks := .later }
def TabSwapsUptoCardSaid : Prop := Claim7.holds Tryz.pinned (.plain (OpenSpec.upto tabSwapsSpec)) tabSwapsUptoCard
end Rows
end Go.Proofs.YtjhfkgpjcdbjaaaGreatDoor
