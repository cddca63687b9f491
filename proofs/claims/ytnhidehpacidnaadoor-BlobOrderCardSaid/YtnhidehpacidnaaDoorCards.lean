/-
  DERIVED. GIVEN WITH THE SEED: THE CARDS: each row of YtnhidehpacidnaaDoorRows.lean that lists a variable, with what it lists TIED to the program's text (the seventh form; the later family's looks); each row that meets fmt, with fmt's text TOLD by the authors' own Lean function (tested against real Go, not proved from fmt's source: count such statements apart). THE CARD IS WHAT COUNTS. Prove the row's statement (the work); the ties are given (YtnhidehpacidnaaDoorTie.lean); close each card by the builder's one call (the guide's Derived/Test/ToyasCard.lean, 'card_holds'). Laid BY PROGRAM, IN A SANDBOX (cutbox-door.mjs). By AI agents, Wed Nov 11 2026. No macro, syntax, notation, axiom, sorry.
-/
import Derived.Test.YtnhidehpacidnaaDoorRows
import GoSem.ClaimSeven
namespace Go.Proofs.YtnhidehpacidnaaDoor
namespace Rows

/-- THE TIED CARD OF 'latticelaw9.BlobDirs'. -/
def blobDirsCard : Claim7 := { stood := { row := blobDirsRow, standIns := [], harness := (true, "0bc6846f2eba7b4486e8a3c37461c4e99c9df9aee740303d0e4c758f240a45c7"), looks := false }, kinds := [], alts := [], laidByText := true, laidKinds := [.data, .pinned], laidTests := true, laidLooks := .later }
def BlobDirsCardSaid : Prop := Claim7.holds Tryd.pinned (.plain (OpenSpec.ofChange blobDirsSpec)) blobDirsCard

/-- THE TIED CARD OF 'latticelaw9.BlobOrder'. -/
def blobOrderCard : Claim7 := { stood := { row := blobOrderRow, standIns := [], harness := (true, "0bc6846f2eba7b4486e8a3c37461c4e99c9df9aee740303d0e4c758f240a45c7"), looks := false }, kinds := [], alts := [], laidByText := true, laidKinds := [.data, .pinned], laidTests := true, laidLooks := .later }
def BlobOrderCardSaid : Prop := Claim7.holds Tryd.pinned (.plain (OpenSpec.ofChange blobOrderSpec)) blobOrderCard

/-- THE SECOND FORM's CARD OF 'latticelaw9.BlobDirs'. -/
def blobDirsUptoCard : Claim7 := { stood := { row := blobDirsUptoRow, standIns := [], harness := (true, "0bc6846f2eba7b4486e8a3c37461c4e99c9df9aee740303d0e4c758f240a45c7"), looks := false }, kinds := [], alts := [], laidByText := true, laidKinds := [.data, .pinned], laidTests := true, laidLooks := .later }
def BlobDirsUptoCardSaid : Prop := Claim7.holds Tryd.pinned (.plain (OpenSpec.upto blobDirsSpec)) blobDirsUptoCard

/-- THE SECOND FORM's CARD OF 'latticelaw9.BlobOrder'. -/
def blobOrderUptoCard : Claim7 := { stood := { row := blobOrderUptoRow, standIns := [], harness := (true, "0bc6846f2eba7b4486e8a3c37461c4e99c9df9aee740303d0e4c758f240a45c7"), looks := false }, kinds := [], alts := [], laidByText := true, laidKinds := [.data, .pinned], laidTests := true, laidLooks := .later }
def BlobOrderUptoCardSaid : Prop := Claim7.holds Tryd.pinned (.plain (OpenSpec.upto blobOrderSpec)) blobOrderUptoCard
end Rows
end Go.Proofs.YtnhidehpacidnaaDoor
