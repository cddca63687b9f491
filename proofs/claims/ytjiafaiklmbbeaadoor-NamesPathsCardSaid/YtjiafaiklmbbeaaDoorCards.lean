/-
  DERIVED. GIVEN WITH THE SEED: THE CARDS: each row of YtjiafaiklmbbeaaDoorRows.lean that lists a variable, with what it lists TIED to the program's text (the seventh form; the later family's looks); each row that meets fmt, with fmt's text TOLD by the authors' own Lean function (tested against real Go, not proved from fmt's source: count such statements apart). THE CARD IS WHAT COUNTS. Prove the row's statement (the work); the ties are given (YtjiafaiklmbbeaaDoorTie.lean); close each card by the builder's one call (the guide's Derived/Test/ToyasCard.lean, 'card_holds'). Laid BY PROGRAM, IN A SANDBOX (cutbox-door.mjs). By AI agents, Wed Nov 11 2026. No macro, syntax, notation, axiom, sorry.
-/
import Derived.Test.YtjiafaiklmbbeaaDoorRows
import GoSem.ClaimSeven
namespace Go.Proofs.YtjiafaiklmbbeaaDoor
namespace Rows

/-- THE TIED CARD OF 'latticelaw3.NamesChecks'. -/
def namesChecksCard : Claim7 := { stood := { row := namesChecksRow, standIns := [], harness := (true, "4519fa5221c2eafe1f8563025094685f1e0739ffc2df639fa8bfd8e1d186043d"), looks := false }, kinds := [], alts := [], laidByText := true, laidKinds := [.data, .pinned], laidTests := true, laidLooks := .later }
def NamesChecksCardSaid : Prop := Claim7.holds Tryd.pinned (.plain (OpenSpec.ofChange namesChecksSpec)) namesChecksCard

/-- THE TIED CARD OF 'latticelaw3.NamesBounds'. -/
def namesBoundsCard : Claim7 := { stood := { row := namesBoundsRow, standIns := [], harness := (true, "4519fa5221c2eafe1f8563025094685f1e0739ffc2df639fa8bfd8e1d186043d"), looks := false }, kinds := [], alts := [], laidByText := true, laidKinds := [.data, .pinned], laidTests := true, laidLooks := .later }
def NamesBoundsCardSaid : Prop := Claim7.holds Tryd.pinned (.plain (OpenSpec.ofChange namesBoundsSpec)) namesBoundsCard

/-- THE TIED CARD OF 'latticelaw3.NamesRunes'. -/
def namesRunesCard : Claim7 := { stood := { row := namesRunesRow, standIns := [], harness := (true, "4519fa5221c2eafe1f8563025094685f1e0739ffc2df639fa8bfd8e1d186043d"), looks := false }, kinds := [], alts := [], laidByText := true, laidKinds := [.data, .pinned], laidTests := true, laidLooks := .later }
def NamesRunesCardSaid : Prop := Claim7.holds Tryd.pinned (.plain (OpenSpec.ofChange namesRunesSpec)) namesRunesCard

/-- THE TIED CARD OF 'latticelaw3.NamesPaths'. -/
def namesPathsCard : Claim7 := { stood := { row := namesPathsRow, standIns := [], harness := (true, "4519fa5221c2eafe1f8563025094685f1e0739ffc2df639fa8bfd8e1d186043d"), looks := false }, kinds := [], alts := [], laidByText := true, laidKinds := [.data, .pinned], laidTests := true, laidLooks := .later }
def NamesPathsCardSaid : Prop := Claim7.holds Tryd.pinned (.plain (OpenSpec.ofChange namesPathsSpec)) namesPathsCard

/-- THE TIED CARD OF 'latticelaw3.NamesParts'. -/
def namesPartsCard : Claim7 := { stood := { row := namesPartsRow, standIns := [], harness := (true, "4519fa5221c2eafe1f8563025094685f1e0739ffc2df639fa8bfd8e1d186043d"), looks := false }, kinds := [], alts := [], laidByText := true, laidKinds := [.data, .pinned], laidTests := true, laidLooks := .later }
def NamesPartsCardSaid : Prop := Claim7.holds Tryd.pinned (.plain (OpenSpec.ofChange namesPartsSpec)) namesPartsCard

/-- THE SECOND FORM's CARD OF 'latticelaw3.NamesChecks'. -/
def namesChecksUptoCard : Claim7 := { stood := { row := namesChecksUptoRow, standIns := [], harness := (true, "4519fa5221c2eafe1f8563025094685f1e0739ffc2df639fa8bfd8e1d186043d"), looks := false }, kinds := [], alts := [], laidByText := true, laidKinds := [.data, .pinned], laidTests := true, laidLooks := .later }
def NamesChecksUptoCardSaid : Prop := Claim7.holds Tryd.pinned (.plain (OpenSpec.upto namesChecksSpec)) namesChecksUptoCard

/-- THE SECOND FORM's CARD OF 'latticelaw3.NamesBounds'. -/
def namesBoundsUptoCard : Claim7 := { stood := { row := namesBoundsUptoRow, standIns := [], harness := (true, "4519fa5221c2eafe1f8563025094685f1e0739ffc2df639fa8bfd8e1d186043d"), looks := false }, kinds := [], alts := [], laidByText := true, laidKinds := [.data, .pinned], laidTests := true, laidLooks := .later }
def NamesBoundsUptoCardSaid : Prop := Claim7.holds Tryd.pinned (.plain (OpenSpec.upto namesBoundsSpec)) namesBoundsUptoCard

/-- THE SECOND FORM's CARD OF 'latticelaw3.NamesRunes'. -/
def namesRunesUptoCard : Claim7 := { stood := { row := namesRunesUptoRow, standIns := [], harness := (true, "4519fa5221c2eafe1f8563025094685f1e0739ffc2df639fa8bfd8e1d186043d"), looks := false }, kinds := [], alts := [], laidByText := true, laidKinds := [.data, .pinned], laidTests := true, laidLooks := .later }
def NamesRunesUptoCardSaid : Prop := Claim7.holds Tryd.pinned (.plain (OpenSpec.upto namesRunesSpec)) namesRunesUptoCard

/-- THE SECOND FORM's CARD OF 'latticelaw3.NamesPaths'. -/
def namesPathsUptoCard : Claim7 := { stood := { row := namesPathsUptoRow, standIns := [], harness := (true, "4519fa5221c2eafe1f8563025094685f1e0739ffc2df639fa8bfd8e1d186043d"), looks := false }, kinds := [], alts := [], laidByText := true, laidKinds := [.data, .pinned], laidTests := true, laidLooks := .later }
def NamesPathsUptoCardSaid : Prop := Claim7.holds Tryd.pinned (.plain (OpenSpec.upto namesPathsSpec)) namesPathsUptoCard

/-- THE SECOND FORM's CARD OF 'latticelaw3.NamesParts'. -/
def namesPartsUptoCard : Claim7 := { stood := { row := namesPartsUptoRow, standIns := [], harness := (true, "4519fa5221c2eafe1f8563025094685f1e0739ffc2df639fa8bfd8e1d186043d"), looks := false }, kinds := [], alts := [], laidByText := true, laidKinds := [.data, .pinned], laidTests := true, laidLooks := .later }
def NamesPartsUptoCardSaid : Prop := Claim7.holds Tryd.pinned (.plain (OpenSpec.upto namesPartsSpec)) namesPartsUptoCard
end Rows
end Go.Proofs.YtjiafaiklmbbeaaDoor
