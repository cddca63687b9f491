/-
  DERIVED. GIVEN WITH THE SEED: THE CARDS: each row of YthkdkmaacjpneaaGreatDoorRows.lean that lists a variable, with what it lists TIED to the program's text (the seventh form; the later family's looks); each row that meets fmt, with fmt's text TOLD by the authors' own Lean function (tested against real Go, not proved from fmt's source: count such statements apart). THE CARD IS WHAT COUNTS. Prove the row's statement (the work); the ties are given (YthkdkmaacjpneaaGreatDoorTie.lean); close each card by the builder's one call (the guide's Derived/Test/ToyasCard.lean, 'card_holds'). Laid BY PROGRAM, IN A SANDBOX (cutbox-door.mjs). By AI agents, Wed Nov 11 2026. No macro, syntax, notation, axiom, sorry.
-/
import Derived.Test.YthkdkmaacjpneaaGreatDoorRows
import GoSem.ClaimSeven
namespace Go.Proofs.YthkdkmaacjpneaaGreatDoor
namespace Rows

/-- THE TIED CARD OF 'latticelaw10.TreeOrder'. -/
def treeOrderCard : Claim7 := { stood := { row := treeOrderRow, standIns := [], harness := (true, "88111db080cb66de3e71c1f7dd529c12f694bbcd477bcaf675efcb4a7a7c8deb"), looks := false }, kinds := [], alts := [], laidByText := true, laidKinds := [.data, .pinned], laidTests := true, laidLooks := .later }
def TreeOrderCardSaid : Prop := Claim7.holds Tryz.pinned (.plain (OpenSpec.ofChange treeOrderSpec)) treeOrderCard

/-- THE TIED CARD OF 'latticelaw10.TreeSizes'. -/
def treeSizesCard : Claim7 := { stood := { row := treeSizesRow, standIns := [], harness := (true, "88111db080cb66de3e71c1f7dd529c12f694bbcd477bcaf675efcb4a7a7c8deb"), looks := false }, kinds := [], alts := [], laidByText := true, laidKinds := [.data, .pinned], laidTests := true, laidLooks := .later }
def TreeSizesCardSaid : Prop := Claim7.holds Tryz.pinned (.plain (OpenSpec.ofChange treeSizesSpec)) treeSizesCard

/-- THE TIED CARD OF 'latticelaw10.TreeRefuses'. -/
def treeRefusesCard : Claim7 := { stood := { row := treeRefusesRow, standIns := [], harness := (true, "88111db080cb66de3e71c1f7dd529c12f694bbcd477bcaf675efcb4a7a7c8deb"), looks := false }, kinds := [], alts := [], laidByText := true, laidKinds := [.data, .pinned], laidTests := true, laidLooks := .later }
def TreeRefusesCardSaid : Prop := Claim7.holds Tryz.pinned (.plain (OpenSpec.ofChange treeRefusesSpec)) treeRefusesCard

/-- THE TIED CARD OF 'latticelaw10.TreeBuilds'. -/
def treeBuildsCard : Claim7 := { stood := { row := treeBuildsRow, standIns := [], harness := (true, "88111db080cb66de3e71c1f7dd529c12f694bbcd477bcaf675efcb4a7a7c8deb"), looks := false }, kinds := [], alts := [], laidByText := true, laidKinds := [.data, .pinned], laidTests := true, laidLooks := .later }
def TreeBuildsCardSaid : Prop := Claim7.holds Tryz.pinned (.plain (OpenSpec.ofChange treeBuildsSpec)) treeBuildsCard

/-- THE TIED CARD OF 'latticelaw10.TreeDiffs'. -/
def treeDiffsCard : Claim7 := { stood := { row := treeDiffsRow, standIns := [], harness := (true, "88111db080cb66de3e71c1f7dd529c12f694bbcd477bcaf675efcb4a7a7c8deb"), looks := false }, kinds := [], alts := [], laidByText := true, laidKinds := [.data, .pinned], laidTests := true, laidLooks := .later }
def TreeDiffsCardSaid : Prop := Claim7.holds Tryz.pinned (.plain (OpenSpec.ofChange treeDiffsSpec)) treeDiffsCard

/-- THE TIED CARD OF 'latticelaw10.TreeAsks'. -/
def treeAsksCard : Claim7 := { stood := { row := treeAsksRow, standIns := [], harness := (true, "88111db080cb66de3e71c1f7dd529c12f694bbcd477bcaf675efcb4a7a7c8deb"), looks := false }, kinds := [], alts := [], laidByText := true, laidKinds := [.data, .pinned], laidTests := true, laidLooks := .later }
def TreeAsksCardSaid : Prop := Claim7.holds Tryz.pinned (.plain (OpenSpec.ofChange treeAsksSpec)) treeAsksCard

/-- THE TIED CARD OF 'latticelaw10.TreeParts'. -/
def treePartsCard : Claim7 := { stood := { row := treePartsRow, standIns := [], harness := (true, "88111db080cb66de3e71c1f7dd529c12f694bbcd477bcaf675efcb4a7a7c8deb"), looks := false }, kinds := [], alts := [], laidByText := true, laidKinds := [.data, .pinned], laidTests := true, laidLooks := .later }
def TreePartsCardSaid : Prop := Claim7.holds Tryz.pinned (.plain (OpenSpec.ofChange treePartsSpec)) treePartsCard

/-- THE TIED CARD OF 'latticelaw10.TreeSound'. -/
def treeSoundCard : Claim7 := { stood := { row := treeSoundRow, standIns := [], harness := (true, "88111db080cb66de3e71c1f7dd529c12f694bbcd477bcaf675efcb4a7a7c8deb"), looks := false }, kinds := [], alts := [], laidByText := true, laidKinds := [.data, .pinned], laidTests := true, laidLooks := .later }
def TreeSoundCardSaid : Prop := Claim7.holds Tryz.pinned (.plain (OpenSpec.ofChange treeSoundSpec)) treeSoundCard

/-- THE TIED CARD OF 'latticelaw10.TreeShares'. -/
def treeSharesCard : Claim7 := { stood := { row := treeSharesRow, standIns := [], harness := (true, "88111db080cb66de3e71c1f7dd529c12f694bbcd477bcaf675efcb4a7a7c8deb"), looks := false }, kinds := [], alts := [], laidByText := true, laidKinds := [.data, .pinned], laidTests := true, laidLooks := .later }
def TreeSharesCardSaid : Prop := Claim7.holds Tryz.pinned (.plain (OpenSpec.ofChange treeSharesSpec)) treeSharesCard

/-- THE TIED CARD OF 'latticelaw10.TreeBack'. -/
def treeBackCard : Claim7 := { stood := { row := treeBackRow, standIns := [], harness := (true, "88111db080cb66de3e71c1f7dd529c12f694bbcd477bcaf675efcb4a7a7c8deb"), looks := false }, kinds := [], alts := [], laidByText := true, laidKinds := [.data, .pinned], laidTests := true, laidLooks := .later }
def TreeBackCardSaid : Prop := Claim7.holds Tryz.pinned (.plain (OpenSpec.ofChange treeBackSpec)) treeBackCard

/-- THE SECOND FORM's CARD OF 'latticelaw10.TreeOrder'. -/
def treeOrderUptoCard : Claim7 := { stood := { row := treeOrderUptoRow, standIns := [], harness := (true, "88111db080cb66de3e71c1f7dd529c12f694bbcd477bcaf675efcb4a7a7c8deb"), looks := false }, kinds := [], alts := [], laidByText := true, laidKinds := [.data, .pinned], laidTests := true, laidLooks := .later }
def TreeOrderUptoCardSaid : Prop := Claim7.holds Tryz.pinned (.plain (OpenSpec.upto treeOrderSpec)) treeOrderUptoCard

/-- THE SECOND FORM's CARD OF 'latticelaw10.TreeSizes'. -/
def treeSizesUptoCard : Claim7 := { stood := { row := treeSizesUptoRow, standIns := [], harness := (true, "88111db080cb66de3e71c1f7dd529c12f694bbcd477bcaf675efcb4a7a7c8deb"), looks := false }, kinds := [], alts := [], laidByText := true, laidKinds := [.data, .pinned], laidTests := true, laidLooks := .later }
def TreeSizesUptoCardSaid : Prop := Claim7.holds Tryz.pinned (.plain (OpenSpec.upto treeSizesSpec)) treeSizesUptoCard

/-- THE SECOND FORM's CARD OF 'latticelaw10.TreeRefuses'. -/
def treeRefusesUptoCard : Claim7 := { stood := { row := treeRefusesUptoRow, standIns := [], harness := (true, "88111db080cb66de3e71c1f7dd529c12f694bbcd477bcaf675efcb4a7a7c8deb"), looks := false }, kinds := [], alts := [], laidByText := true, laidKinds := [.data, .pinned], laidTests := true, laidLooks := .later }
def TreeRefusesUptoCardSaid : Prop := Claim7.holds Tryz.pinned (.plain (OpenSpec.upto treeRefusesSpec)) treeRefusesUptoCard

/-- THE SECOND FORM's CARD OF 'latticelaw10.TreeBuilds'. -/
def treeBuildsUptoCard : Claim7 := { stood := { row := treeBuildsUptoRow, standIns := [], harness := (true, "88111db080cb66de3e71c1f7dd529c12f694bbcd477bcaf675efcb4a7a7c8deb"), looks := false }, kinds := [], alts := [], laidByText := true, laidKinds := [.data, .pinned], laidTests := true, laidLooks := .later }
def TreeBuildsUptoCardSaid : Prop := Claim7.holds Tryz.pinned (.plain (OpenSpec.upto treeBuildsSpec)) treeBuildsUptoCard

/-- THE SECOND FORM's CARD OF 'latticelaw10.TreeDiffs'. -/
def treeDiffsUptoCard : Claim7 := { stood := { row := treeDiffsUptoRow, standIns := [], harness := (true, "88111db080cb66de3e71c1f7dd529c12f694bbcd477bcaf675efcb4a7a7c8deb"), looks := false }, kinds := [], alts := [], laidByText := true, laidKinds := [.data, .pinned], laidTests := true, laidLooks := .later }
def TreeDiffsUptoCardSaid : Prop := Claim7.holds Tryz.pinned (.plain (OpenSpec.upto treeDiffsSpec)) treeDiffsUptoCard

/-- THE SECOND FORM's CARD OF 'latticelaw10.TreeAsks'. -/
def treeAsksUptoCard : Claim7 := { stood := { row := treeAsksUptoRow, standIns := [], harness := (true, "88111db080cb66de3e71c1f7dd529c12f694bbcd477bcaf675efcb4a7a7c8deb"), looks := false }, kinds := [], alts := [], laidByText := true, laidKinds := [.data, .pinned], laidTests := true, laidLooks := .later }
def TreeAsksUptoCardSaid : Prop := Claim7.holds Tryz.pinned (.plain (OpenSpec.upto treeAsksSpec)) treeAsksUptoCard

/-- THE SECOND FORM's CARD OF 'latticelaw10.TreeParts'. -/
def treePartsUptoCard : Claim7 := { stood := { row := treePartsUptoRow, standIns := [], harness := (true, "88111db080cb66de3e71c1f7dd529c12f694bbcd477bcaf675efcb4a7a7c8deb"), looks := false }, kinds := [], alts := [], laidByText := true, laidKinds := [.data, .pinned], laidTests := true, laidLooks := .later }
def TreePartsUptoCardSaid : Prop := Claim7.holds Tryz.pinned (.plain (OpenSpec.upto treePartsSpec)) treePartsUptoCard

/-- THE SECOND FORM's CARD OF 'latticelaw10.TreeSound'. -/
def treeSoundUptoCard : Claim7 := { stood := { row := treeSoundUptoRow, standIns := [], harness := (true, "88111db080cb66de3e71c1f7dd529c12f694bbcd477bcaf675efcb4a7a7c8deb"), looks := false }, kinds := [], alts := [], laidByText := true, laidKinds := [.data, .pinned], laidTests := true, laidLooks := .later }
def TreeSoundUptoCardSaid : Prop := Claim7.holds Tryz.pinned (.plain (OpenSpec.upto treeSoundSpec)) treeSoundUptoCard

/-- THE SECOND FORM's CARD OF 'latticelaw10.TreeShares'. -/
def treeSharesUptoCard : Claim7 := { stood := { row := treeSharesUptoRow, standIns := [], harness := (true, "88111db080cb66de3e71c1f7dd529c12f694bbcd477bcaf675efcb4a7a7c8deb"), looks := false }, kinds := [], alts := [], laidByText := true, laidKinds := [.data, .pinned], laidTests := true, laidLooks := .later }
def TreeSharesUptoCardSaid : Prop := Claim7.holds Tryz.pinned (.plain (OpenSpec.upto treeSharesSpec)) treeSharesUptoCard

/-- THE SECOND FORM's CARD OF 'latticelaw10.TreeBack'. -/
def treeBackUptoCard : Claim7 := { stood := { row := treeBackUptoRow, standIns := [], harness := (true, "88111db080cb66de3e71c1f7dd529c12f694bbcd477bcaf675efcb4a7a7c8deb"), looks := false }, kinds := [], alts := [], laidByText := true, laidKinds := [.data, .pinned], laidTests := true, laidLooks := .later }
def TreeBackUptoCardSaid : Prop := Claim7.holds Tryz.pinned (.plain (OpenSpec.upto treeBackSpec)) treeBackUptoCard
end Rows
end Go.Proofs.YthkdkmaacjpneaaGreatDoor
