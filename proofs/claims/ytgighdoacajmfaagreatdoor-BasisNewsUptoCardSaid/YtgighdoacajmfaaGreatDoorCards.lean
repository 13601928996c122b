/-
  DERIVED. GIVEN WITH THE SEED: THE CARDS: each row of YtgighdoacajmfaaGreatDoorRows.lean that lists a variable, with what it lists TIED to the program's text (the seventh form; the later family's looks); each row that meets fmt, with fmt's text TOLD by the authors' own Lean function (tested against real Go, not proved from fmt's source: count such statements apart). THE CARD IS WHAT COUNTS. Prove the row's statement (the work); the ties are given (YtgighdoacajmfaaGreatDoorTie.lean); close each card by the builder's one call (the guide's Derived/Test/ToyasCard.lean, 'card_holds'). Laid BY PROGRAM, IN A SANDBOX (cutbox-door.mjs). By AI agents, Wed Nov 11 2026. No macro, syntax, notation, axiom, sorry.
-/
import Derived.Test.YtgighdoacajmfaaGreatDoorRows
import GoSem.ClaimSeven
namespace Go.Proofs.YtgighdoacajmfaaGreatDoor
namespace Rows

/-- THE TIED CARD OF 'actuarylaw14.BasisFresh'. -/
def basisFreshCard : Claim7 := { stood := { row := basisFreshRow, standIns := [], harness := (true, "c2078c75c924ad4d9d939883e516c45a13bedfcd929d81024186176269a63826"), looks := true }, kinds := [], alts := [], laidByText := true, laidKinds := [.handle], laidTests := true, laidLooks := .later }
def BasisFreshCardSaid : Prop := Claim7.holds Tryz.pinned (.plain (OpenSpec.ofChange basisFreshSpec)) basisFreshCard

/-- THE TIED CARD OF 'actuarylaw14.BasisRefuses'. -/
def basisRefusesCard : Claim7 := { stood := { row := basisRefusesRow, standIns := [], harness := (true, "c2078c75c924ad4d9d939883e516c45a13bedfcd929d81024186176269a63826"), looks := true }, kinds := [], alts := [], laidByText := true, laidKinds := [.handle], laidTests := true, laidLooks := .later }
def BasisRefusesCardSaid : Prop := Claim7.holds Tryz.pinned (.plain (OpenSpec.ofChange basisRefusesSpec)) basisRefusesCard

/-- THE TIED CARD OF 'actuarylaw14.BasisBack'. -/
def basisBackCard : Claim7 := { stood := { row := basisBackRow, standIns := [], harness := (true, "c2078c75c924ad4d9d939883e516c45a13bedfcd929d81024186176269a63826"), looks := true }, kinds := [], alts := [], laidByText := true, laidKinds := [.handle], laidTests := true, laidLooks := .later }
def BasisBackCardSaid : Prop := Claim7.holds Tryz.pinned (.plain (OpenSpec.ofChange basisBackSpec)) basisBackCard

/-- THE TIED CARD OF 'actuarylaw14.BasisNews'. -/
def basisNewsCard : Claim7 := { stood := { row := basisNewsRow, standIns := [], harness := (true, "c2078c75c924ad4d9d939883e516c45a13bedfcd929d81024186176269a63826"), looks := true }, kinds := [], alts := [], laidByText := true, laidKinds := [.handle], laidTests := true, laidLooks := .later }
def BasisNewsCardSaid : Prop := Claim7.holds Tryz.pinned (.plain (OpenSpec.ofChange basisNewsSpec)) basisNewsCard

/-- THE TIED CARD OF 'actuarylaw14.BasisDoes'. -/
def basisDoesCard : Claim7 := { stood := { row := basisDoesRow, standIns := [], harness := (true, "c2078c75c924ad4d9d939883e516c45a13bedfcd929d81024186176269a63826"), looks := true }, kinds := [], alts := [], laidByText := true, laidKinds := [.handle], laidTests := true, laidLooks := .later }
def BasisDoesCardSaid : Prop := Claim7.holds Tryz.pinned (.plain (OpenSpec.ofChange basisDoesSpec)) basisDoesCard

/-- THE TIED CARD OF 'actuarylaw14.BasisGrows'. -/
def basisGrowsCard : Claim7 := { stood := { row := basisGrowsRow, standIns := [], harness := (true, "c2078c75c924ad4d9d939883e516c45a13bedfcd929d81024186176269a63826"), looks := true }, kinds := [], alts := [], laidByText := true, laidKinds := [.handle], laidTests := true, laidLooks := .later }
def BasisGrowsCardSaid : Prop := Claim7.holds Tryz.pinned (.plain (OpenSpec.ofChange basisGrowsSpec)) basisGrowsCard

/-- THE SECOND FORM's CARD OF 'actuarylaw14.BasisFresh'. -/
def basisFreshUptoCard : Claim7 := { stood := { row := basisFreshUptoRow, standIns := [], harness := (true, "c2078c75c924ad4d9d939883e516c45a13bedfcd929d81024186176269a63826"), looks := true }, kinds := [], alts := [], laidByText := true, laidKinds := [.handle], laidTests := true, laidLooks := .later }
def BasisFreshUptoCardSaid : Prop := Claim7.holds Tryz.pinned (.plain (OpenSpec.upto basisFreshSpec)) basisFreshUptoCard

/-- THE SECOND FORM's CARD OF 'actuarylaw14.BasisRefuses'. -/
def basisRefusesUptoCard : Claim7 := { stood := { row := basisRefusesUptoRow, standIns := [], harness := (true, "c2078c75c924ad4d9d939883e516c45a13bedfcd929d81024186176269a63826"), looks := true }, kinds := [], alts := [], laidByText := true, laidKinds := [.handle], laidTests := true, laidLooks := .later }
def BasisRefusesUptoCardSaid : Prop := Claim7.holds Tryz.pinned (.plain (OpenSpec.upto basisRefusesSpec)) basisRefusesUptoCard

/-- THE SECOND FORM's CARD OF 'actuarylaw14.BasisBack'. -/
def basisBackUptoCard : Claim7 := { stood := { row := basisBackUptoRow, standIns := [], harness := (true, "c2078c75c924ad4d9d939883e516c45a13bedfcd929d81024186176269a63826"), looks := true }, kinds := [], alts := [], laidByText := true, laidKinds := [.handle], laidTests := true, laidLooks := .later }
def BasisBackUptoCardSaid : Prop := Claim7.holds Tryz.pinned (.plain (OpenSpec.upto basisBackSpec)) basisBackUptoCard

/-- THE SECOND FORM's CARD OF 'actuarylaw14.BasisNews'. -/
def basisNewsUptoCard : Claim7 := { stood := { row := basisNewsUptoRow, standIns := [], harness := (true, "c2078c75c924ad4d9d939883e516c45a13bedfcd929d81024186176269a63826"), looks := true }, kinds := [], alts := [], laidByText := true, laidKinds := [.handle], laidTests := true, laidLooks := .later }
def BasisNewsUptoCardSaid : Prop := Claim7.holds Tryz.pinned (.plain (OpenSpec.upto basisNewsSpec)) basisNewsUptoCard

/-- THE SECOND FORM's CARD OF 'actuarylaw14.BasisDoes'. -/
def basisDoesUptoCard : Claim7 := { stood := { row := basisDoesUptoRow, standIns := [], harness := (true, "c2078c75c924ad4d9d939883e516c45a13bedfcd929d81024186176269a63826"), looks := true }, kinds := [], alts := [], laidByText := true, laidKinds := [.handle], laidTests := true, laidLooks := .later }
def BasisDoesUptoCardSaid : Prop := Claim7.holds Tryz.pinned (.plain (OpenSpec.upto basisDoesSpec)) basisDoesUptoCard

/-- THE SECOND FORM's CARD OF 'actuarylaw14.BasisGrows'. -/
def basisGrowsUptoCard : Claim7 := { stood := { row := basisGrowsUptoRow, standIns := [], harness := (true, "c2078c75c924ad4d9d939883e516c45a13bedfcd929d81024186176269a63826"), looks := true }, kinds := [], alts := [], laidByText := true, laidKinds := [.handle], laidTests := true, laidLooks := .later }
def BasisGrowsUptoCardSaid : Prop := Claim7.holds Tryz.pinned (.plain (OpenSpec.upto basisGrowsSpec)) basisGrowsUptoCard
end Rows
end Go.Proofs.YtgighdoacajmfaaGreatDoor
