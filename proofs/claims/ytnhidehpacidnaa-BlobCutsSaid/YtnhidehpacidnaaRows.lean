/-
  No cell of these rows narrows 'for every input' (looked for: loops, veiled, ifaces, maps, wideKeys, modest, calm, conditions, laid).
  DERIVED. THE GIVEN ROWS OF THIS SEAT. 4 by the template 'for every input the law returns true; each argument reads behind the call as it read before'; 0 by the template 'total and deterministic' (their statements: YtnhidehpacidnaaTotals.lean).
  GIVEN WITH THE SEED: the statements are not yours to turn. If you find one false, say at which input.
  Laid BY PROGRAM, IN A SANDBOX (cutbox-rows.mjs): the forced cells as the released guide's own fill.sh prints them over the translation bcfe0150e4456df6… (all of the seat's roots in one cut). By AI agents, Wed Nov 11 2026. No macro, syntax, notation, axiom, sorry.
-/
import Derived.Test.YtnhidehpacidnaaChecked
import GoSem.Claim
import GoSem.ClaimJoined
import GoSem.ClaimMapViews
import Derived.JoinedTies
import Derived.KernelRfl
namespace Go.Proofs.Ytnhidehpacidnaa
/- THE CELL 'sum', in the pinned program and in every row, IS THE sha256 OF THE DUMP (.gsa) THAT YtnhidehpacidnaaProg.lean LOADS. Nothing in Lean hashes anything: it is a label: what it is worth is what the hold of that sum in a sandbox is worth. -/
noncomputable def Try.pinned : Pinned := { name := "ytnhidehpacidnaa", sum := "bcfe0150e4456df64f0abe6617a0c832dcd594c51f1b1c422e11ee6673a2fd13", checked := Try.checked }
namespace Rows
def none {H : Type} : Left H := { results := [], args := [] }

/-- 'latticelaw9.BlobSizes': WHATEVER THE INPUT: true; the input reads as it did. -/
def blobSizesSpec : ChangeSpec := { name := "blobSizes", fn := fun _ => fun
  | [d1, d2, d3] => { results := [.lit (.bool true)], args := [d1, d2, d3] }
  | _ => none }
def blobSizesRow : OpenClaim := { program := "ytnhidehpacidnaa", sum := "bcfe0150e4456df64f0abe6617a0c832dcd594c51f1b1c422e11ee6673a2fd13", func := "lattice/latticelaw9.BlobSizes", spec := "blobSizes", apart := false }
def BlobSizesSaid : Prop := blobSizesRow.holds Try.pinned (OpenSpec.ofChange blobSizesSpec)

/-- ITS FALSE NEIGHBOUR: 'it returns false'. Refute it at one input. -/
def blobSizesWrong : ChangeSpec := { name := "blobSizes", fn := fun _ => fun
  | [d1, d2, d3] => { results := [.lit (.bool false)], args := [d1, d2, d3] }
  | _ => none }
def BlobSizesWrongFalsely : Prop := blobSizesRow.holds Try.pinned (OpenSpec.ofChange blobSizesWrong)

/-- 'latticelaw9.BlobInners': WHATEVER THE INPUT: true; the input reads as it did. -/
def blobInnersSpec : ChangeSpec := { name := "blobInners", fn := fun _ => fun
  | [d1, d2, d3, d4, d5] => { results := [.lit (.bool true)], args := [d1, d2, d3, d4, d5] }
  | _ => none }
def blobInnersRow : OpenClaim := { program := "ytnhidehpacidnaa", sum := "bcfe0150e4456df64f0abe6617a0c832dcd594c51f1b1c422e11ee6673a2fd13", func := "lattice/latticelaw9.BlobInners", spec := "blobInners", apart := false }
def BlobInnersSaid : Prop := blobInnersRow.holds Try.pinned (OpenSpec.ofChange blobInnersSpec)

/-- ITS FALSE NEIGHBOUR: 'it returns false'. Refute it at one input. -/
def blobInnersWrong : ChangeSpec := { name := "blobInners", fn := fun _ => fun
  | [d1, d2, d3, d4, d5] => { results := [.lit (.bool false)], args := [d1, d2, d3, d4, d5] }
  | _ => none }
def BlobInnersWrongFalsely : Prop := blobInnersRow.holds Try.pinned (OpenSpec.ofChange blobInnersWrong)

/-- 'latticelaw9.BlobInodes': WHATEVER THE INPUT: true; the input reads as it did. -/
def blobInodesSpec : ChangeSpec := { name := "blobInodes", fn := fun _ => fun
  | [d1, d2, d3, d4, d5, d6] => { results := [.lit (.bool true)], args := [d1, d2, d3, d4, d5, d6] }
  | _ => none }
def blobInodesRow : OpenClaim := { program := "ytnhidehpacidnaa", sum := "bcfe0150e4456df64f0abe6617a0c832dcd594c51f1b1c422e11ee6673a2fd13", func := "lattice/latticelaw9.BlobInodes", spec := "blobInodes", apart := false }
def BlobInodesSaid : Prop := blobInodesRow.holds Try.pinned (OpenSpec.ofChange blobInodesSpec)

/-- ITS FALSE NEIGHBOUR: 'it returns false'. Refute it at one input. -/
def blobInodesWrong : ChangeSpec := { name := "blobInodes", fn := fun _ => fun
  | [d1, d2, d3, d4, d5, d6] => { results := [.lit (.bool false)], args := [d1, d2, d3, d4, d5, d6] }
  | _ => none }
def BlobInodesWrongFalsely : Prop := blobInodesRow.holds Try.pinned (OpenSpec.ofChange blobInodesWrong)

/-- 'latticelaw9.BlobCuts': WHATEVER THE INPUT: true; the input reads as it did. -/
def blobCutsSpec : ChangeSpec := { name := "blobCuts", fn := fun _ => fun
  | [d1, d2, d3, d4] => { results := [.lit (.bool true)], args := [d1, d2, d3, d4] }
  | _ => none }
def blobCutsRow : OpenClaim := { program := "ytnhidehpacidnaa", sum := "bcfe0150e4456df64f0abe6617a0c832dcd594c51f1b1c422e11ee6673a2fd13", func := "lattice/latticelaw9.BlobCuts", spec := "blobCuts", apart := false }
def BlobCutsSaid : Prop := blobCutsRow.holds Try.pinned (OpenSpec.ofChange blobCutsSpec)

/-- ITS FALSE NEIGHBOUR: 'it returns false'. Refute it at one input. -/
def blobCutsWrong : ChangeSpec := { name := "blobCuts", fn := fun _ => fun
  | [d1, d2, d3, d4] => { results := [.lit (.bool false)], args := [d1, d2, d3, d4] }
  | _ => none }
def BlobCutsWrongFalsely : Prop := blobCutsRow.holds Try.pinned (OpenSpec.ofChange blobCutsWrong)

/- THE SECOND FORM. 'bulk': how many values and letters a reading holds, each counted each time it is reached (what is shared counts as often as it is met; a slice's spare places count too). A statement '..UptoSaid' is the law's where the arguments, and the package variables that the reading takes, are together of bulk at most 1048576: NARROWER than '..Said'. Prove '..Said' where nothing that the law and all that it calls make is longer than what came in: it says more and counts as full. Else prove '..UptoSaid'. A law counts once. -/
mutual
def uptoBulk {H : Type} : DataW H → Nat
  | .lit (.string bytes) => bytes.length + 1
  | .lit _ => 1
  | .nil => 1
  | .ptr d => uptoBulk d + 1
  | .slice elems spare => uptoBulkAll elems + uptoBulkAll spare + 1
  | .agg parts => uptoBulkAll parts + 1
  | .iface _ d => uptoBulk d + 1
  | .map entries => uptoBulkEntries entries + 1
  | .held _ => 1
def uptoBulkAll {H : Type} : List (DataW H) → Nat
  | [] => 0
  | d :: r => uptoBulk d + uptoBulkAll r
def uptoBulkEntries {H : Type} : List (Lit × DataW H) → Nat
  | [] => 0
  | x :: r => uptoBulkEntry x + uptoBulkEntries r
def uptoBulkEntry {H : Type} : Lit × DataW H → Nat
  | (.string bytes, d) => bytes.length + uptoBulk d + 1
  | (_, d) => uptoBulk d + 1
 end
def uptoSmall : (H : Type) → List (DataW H) → Bool := fun _ ds => decide (uptoBulkAll ds ≤ 1048576)
def OpenSpec.upto (s : _root_.Go.ChangeSpec) : _root_.Go.OpenSpec := { _root_.Go.OpenSpec.ofChange s with cond := some uptoSmall }

/-- 'latticelaw9.BlobSizes', WHERE WHAT IT READS IS OF BULK AT MOST 1048576: true; the input reads as it did. -/
def blobSizesUptoRow : OpenClaim := { program := "ytnhidehpacidnaa", sum := "bcfe0150e4456df64f0abe6617a0c832dcd594c51f1b1c422e11ee6673a2fd13", func := "lattice/latticelaw9.BlobSizes", spec := "blobSizes", apart := false, narrowed := true }
def BlobSizesUptoSaid : Prop := blobSizesUptoRow.holds Try.pinned (OpenSpec.upto blobSizesSpec)

/-- 'latticelaw9.BlobInners', WHERE WHAT IT READS IS OF BULK AT MOST 1048576: true; the input reads as it did. -/
def blobInnersUptoRow : OpenClaim := { program := "ytnhidehpacidnaa", sum := "bcfe0150e4456df64f0abe6617a0c832dcd594c51f1b1c422e11ee6673a2fd13", func := "lattice/latticelaw9.BlobInners", spec := "blobInners", apart := false, narrowed := true }
def BlobInnersUptoSaid : Prop := blobInnersUptoRow.holds Try.pinned (OpenSpec.upto blobInnersSpec)

/-- 'latticelaw9.BlobInodes', WHERE WHAT IT READS IS OF BULK AT MOST 1048576: true; the input reads as it did. -/
def blobInodesUptoRow : OpenClaim := { program := "ytnhidehpacidnaa", sum := "bcfe0150e4456df64f0abe6617a0c832dcd594c51f1b1c422e11ee6673a2fd13", func := "lattice/latticelaw9.BlobInodes", spec := "blobInodes", apart := false, narrowed := true }
def BlobInodesUptoSaid : Prop := blobInodesUptoRow.holds Try.pinned (OpenSpec.upto blobInodesSpec)

/-- 'latticelaw9.BlobCuts', WHERE WHAT IT READS IS OF BULK AT MOST 1048576: true; the input reads as it did. -/
def blobCutsUptoRow : OpenClaim := { program := "ytnhidehpacidnaa", sum := "bcfe0150e4456df64f0abe6617a0c832dcd594c51f1b1c422e11ee6673a2fd13", func := "lattice/latticelaw9.BlobCuts", spec := "blobCuts", apart := false, narrowed := true }
def BlobCutsUptoSaid : Prop := blobCutsUptoRow.holds Try.pinned (OpenSpec.upto blobCutsSpec)

end Rows
end Go.Proofs.Ytnhidehpacidnaa
