/-
  NARROWER THAN 'FOR EVERY INPUT', by the rows' own cells (each row's printed sentence says how): TreeOrder: laid · TreeSizes: laid · TreeRefuses: laid · TreeBuilds: laid · TreeDiffs: laid · TreeAsks: laid · TreeParts: laid · TreeSound: laid · TreeShares: laid · TreeBack: laid.
  DERIVED. THE GIVEN ROWS OF THIS SEAT. 10 by the template 'for every input the law returns true; each argument reads behind the call as it read before'; 0 by the template 'total and deterministic' (their statements: YthkdkmaacjpneaaGreatDoorTotals.lean).
  GIVEN WITH THE SEED: the statements are not yours to turn. If you find one false, say at which input.
  Laid BY PROGRAM, IN A SANDBOX (cutbox-rows.mjs): the forced cells as the released guide's own fill.sh prints them over the translation ad3c76b26e896c8f… (all of the seat's roots in one cut). By AI agents, Wed Nov 11 2026. No macro, syntax, notation, axiom, sorry.
-/
import Derived.Test.YthkdkmaacjpneaaGreatDoorChecked
import GoSem.PinnedTables
import GoSem.Claim
import GoSem.ClaimJoined
import GoSem.ClaimMapViews
import Derived.JoinedTies
import Derived.KernelRfl
namespace Go.Proofs.YthkdkmaacjpneaaGreatDoor
/- THE CELL 'sum', in the pinned program and in every row, IS THE sha256 OF THE DUMP (.gsa) THAT YthkdkmaacjpneaaGreatDoorProg.lean LOADS. Nothing in Lean hashes anything: it is a label: what it is worth is what the hold of that sum in a sandbox is worth. -/
noncomputable def Tryz.pinned : Pinned := { name := "ythkdkmaacjpneaagreatdoor", sum := "ad3c76b26e896c8f4f7d0a5137f003cb25d424844c6c47d29a44f2e63942b019", checked := Tryz.checked }
namespace Rows
def none {H : Type} : Left H := { results := [], args := [] }

/- WHAT THE LISTED PACKAGE-LEVEL VARIABLES READ AS WHEN THE CALL BEGINS. Each datum BY PROGRAM (the guide's laid-datum.mjs) off the statement by which the dump's own 'gosem.cut.vars' lays the variable. In a bare row this is a premise. The card (YthkdkmaacjpneaaGreatDoorCards.lean) ties it to the program's text. -/
def laid_unicode_utf8_acceptRanges {H : Type} : DataW H := .agg [.agg [.lit (.int .u8 128), .lit (.int .u8 191)], .agg [.lit (.int .u8 160), .lit (.int .u8 191)], .agg [.lit (.int .u8 128), .lit (.int .u8 159)], .agg [.lit (.int .u8 144), .lit (.int .u8 191)], .agg [.lit (.int .u8 128), .lit (.int .u8 143)], .agg [.lit (.int .u8 0), .lit (.int .u8 0)], .agg [.lit (.int .u8 0), .lit (.int .u8 0)], .agg [.lit (.int .u8 0), .lit (.int .u8 0)], .agg [.lit (.int .u8 0), .lit (.int .u8 0)], .agg [.lit (.int .u8 0), .lit (.int .u8 0)], .agg [.lit (.int .u8 0), .lit (.int .u8 0)], .agg [.lit (.int .u8 0), .lit (.int .u8 0)], .agg [.lit (.int .u8 0), .lit (.int .u8 0)], .agg [.lit (.int .u8 0), .lit (.int .u8 0)], .agg [.lit (.int .u8 0), .lit (.int .u8 0)], .agg [.lit (.int .u8 0), .lit (.int .u8 0)]]
/-- One of Go's own tables, pinned by name: the form's constant. -/
def laid_unicode_utf8_first : DataW Unit := Go.Pinned.utf8First

/-- 'latticelaw10.TreeOrder': WHATEVER THE INPUT: true; the input reads as it did. -/
def treeOrderSpec : ChangeSpec := { name := "treeOrder", fn := fun _ => fun
  | [d1, d2, d3] => { results := [.lit (.bool true)], args := [d1, d2, d3] }
  | _ => none }
def treeOrderRow : OpenClaim := { program := "ythkdkmaacjpneaagreatdoor", sum := "ad3c76b26e896c8f4f7d0a5137f003cb25d424844c6c47d29a44f2e63942b019", func := "lattice/latticelaw10.TreeOrder", spec := "treeOrder", inPlace := ["internal/bytealg.CountString", "internal/bytealg.IndexByteString", "internal/bytealg.IndexString", "internal/bytealg.abigen_runtime_cmpstring", "internal/bytealg.Compare"], unfollowed := true, recurses := true, named := ["unicode/utf8.first", "unicode/utf8.acceptRanges", "internal/bytealg.MaxLen"], plainKeys := false, apart := false, laid := [("unicode/utf8.acceptRanges", laid_unicode_utf8_acceptRanges), ("unicode/utf8.first", laid_unicode_utf8_first)] }
def TreeOrderSaid : Prop := treeOrderRow.holds Tryz.pinned (OpenSpec.ofChange treeOrderSpec)

/-- ITS FALSE NEIGHBOUR: 'it returns false'. Refute it at one input. -/
def treeOrderWrong : ChangeSpec := { name := "treeOrder", fn := fun _ => fun
  | [d1, d2, d3] => { results := [.lit (.bool false)], args := [d1, d2, d3] }
  | _ => none }
def TreeOrderWrongFalsely : Prop := treeOrderRow.holds Tryz.pinned (OpenSpec.ofChange treeOrderWrong)

/-- 'latticelaw10.TreeSizes': WHATEVER THE INPUT: true; the input reads as it did. -/
def treeSizesSpec : ChangeSpec := { name := "treeSizes", fn := fun _ => fun
  | [d] => { results := [.lit (.bool true)], args := [d] }
  | _ => none }
def treeSizesRow : OpenClaim := { program := "ythkdkmaacjpneaagreatdoor", sum := "ad3c76b26e896c8f4f7d0a5137f003cb25d424844c6c47d29a44f2e63942b019", func := "lattice/latticelaw10.TreeSizes", spec := "treeSizes", inPlace := ["internal/bytealg.CountString", "internal/bytealg.IndexByteString", "internal/bytealg.IndexString", "internal/bytealg.abigen_runtime_cmpstring", "internal/bytealg.Compare"], unfollowed := true, recurses := true, named := ["unicode/utf8.first", "unicode/utf8.acceptRanges", "internal/bytealg.MaxLen"], plainKeys := false, apart := false, laid := [("unicode/utf8.acceptRanges", laid_unicode_utf8_acceptRanges), ("unicode/utf8.first", laid_unicode_utf8_first)] }
def TreeSizesSaid : Prop := treeSizesRow.holds Tryz.pinned (OpenSpec.ofChange treeSizesSpec)

/-- ITS FALSE NEIGHBOUR: 'it returns false'. Refute it at one input. -/
def treeSizesWrong : ChangeSpec := { name := "treeSizes", fn := fun _ => fun
  | [d] => { results := [.lit (.bool false)], args := [d] }
  | _ => none }
def TreeSizesWrongFalsely : Prop := treeSizesRow.holds Tryz.pinned (OpenSpec.ofChange treeSizesWrong)

/-- 'latticelaw10.TreeRefuses': WHATEVER THE INPUT: true; the input reads as it did. -/
def treeRefusesSpec : ChangeSpec := { name := "treeRefuses", fn := fun _ => fun
  | [d1, d2] => { results := [.lit (.bool true)], args := [d1, d2] }
  | _ => none }
def treeRefusesRow : OpenClaim := { program := "ythkdkmaacjpneaagreatdoor", sum := "ad3c76b26e896c8f4f7d0a5137f003cb25d424844c6c47d29a44f2e63942b019", func := "lattice/latticelaw10.TreeRefuses", spec := "treeRefuses", inPlace := ["internal/bytealg.CountString", "internal/bytealg.IndexByteString", "internal/bytealg.IndexString", "internal/bytealg.abigen_runtime_cmpstring", "internal/bytealg.Compare"], unfollowed := true, recurses := true, named := ["unicode/utf8.first", "unicode/utf8.acceptRanges", "internal/bytealg.MaxLen"], plainKeys := false, apart := false, laid := [("unicode/utf8.acceptRanges", laid_unicode_utf8_acceptRanges), ("unicode/utf8.first", laid_unicode_utf8_first)] }
def TreeRefusesSaid : Prop := treeRefusesRow.holds Tryz.pinned (OpenSpec.ofChange treeRefusesSpec)

/-- ITS FALSE NEIGHBOUR: 'it returns false'. Refute it at one input. -/
def treeRefusesWrong : ChangeSpec := { name := "treeRefuses", fn := fun _ => fun
  | [d1, d2] => { results := [.lit (.bool false)], args := [d1, d2] }
  | _ => none }
def TreeRefusesWrongFalsely : Prop := treeRefusesRow.holds Tryz.pinned (OpenSpec.ofChange treeRefusesWrong)

/-- 'latticelaw10.TreeBuilds': WHATEVER THE INPUT: true; the input reads as it did. -/
def treeBuildsSpec : ChangeSpec := { name := "treeBuilds", fn := fun _ => fun
  | [d1, d2, d3] => { results := [.lit (.bool true)], args := [d1, d2, d3] }
  | _ => none }
def treeBuildsRow : OpenClaim := { program := "ythkdkmaacjpneaagreatdoor", sum := "ad3c76b26e896c8f4f7d0a5137f003cb25d424844c6c47d29a44f2e63942b019", func := "lattice/latticelaw10.TreeBuilds", spec := "treeBuilds", inPlace := ["internal/bytealg.CountString", "internal/bytealg.IndexByteString", "internal/bytealg.IndexString", "internal/bytealg.abigen_runtime_cmpstring", "internal/bytealg.Compare"], unfollowed := true, recurses := true, named := ["unicode/utf8.first", "unicode/utf8.acceptRanges", "internal/bytealg.MaxLen"], plainKeys := false, apart := false, laid := [("unicode/utf8.acceptRanges", laid_unicode_utf8_acceptRanges), ("unicode/utf8.first", laid_unicode_utf8_first)] }
def TreeBuildsSaid : Prop := treeBuildsRow.holds Tryz.pinned (OpenSpec.ofChange treeBuildsSpec)

/-- ITS FALSE NEIGHBOUR: 'it returns false'. Refute it at one input. -/
def treeBuildsWrong : ChangeSpec := { name := "treeBuilds", fn := fun _ => fun
  | [d1, d2, d3] => { results := [.lit (.bool false)], args := [d1, d2, d3] }
  | _ => none }
def TreeBuildsWrongFalsely : Prop := treeBuildsRow.holds Tryz.pinned (OpenSpec.ofChange treeBuildsWrong)

/-- 'latticelaw10.TreeDiffs': WHATEVER THE INPUT: true; the input reads as it did. -/
def treeDiffsSpec : ChangeSpec := { name := "treeDiffs", fn := fun _ => fun
  | [d1, d2] => { results := [.lit (.bool true)], args := [d1, d2] }
  | _ => none }
def treeDiffsRow : OpenClaim := { program := "ythkdkmaacjpneaagreatdoor", sum := "ad3c76b26e896c8f4f7d0a5137f003cb25d424844c6c47d29a44f2e63942b019", func := "lattice/latticelaw10.TreeDiffs", spec := "treeDiffs", inPlace := ["internal/bytealg.CountString", "internal/bytealg.IndexByteString", "internal/bytealg.IndexString", "internal/bytealg.abigen_runtime_cmpstring", "internal/bytealg.Compare"], unfollowed := true, recurses := true, named := ["unicode/utf8.first", "unicode/utf8.acceptRanges", "internal/bytealg.MaxLen"], plainKeys := false, apart := false, laid := [("unicode/utf8.acceptRanges", laid_unicode_utf8_acceptRanges), ("unicode/utf8.first", laid_unicode_utf8_first)] }
def TreeDiffsSaid : Prop := treeDiffsRow.holds Tryz.pinned (OpenSpec.ofChange treeDiffsSpec)

/-- ITS FALSE NEIGHBOUR: 'it returns false'. Refute it at one input. -/
def treeDiffsWrong : ChangeSpec := { name := "treeDiffs", fn := fun _ => fun
  | [d1, d2] => { results := [.lit (.bool false)], args := [d1, d2] }
  | _ => none }
def TreeDiffsWrongFalsely : Prop := treeDiffsRow.holds Tryz.pinned (OpenSpec.ofChange treeDiffsWrong)

/-- 'latticelaw10.TreeAsks': WHATEVER THE INPUT: true; the input reads as it did. -/
def treeAsksSpec : ChangeSpec := { name := "treeAsks", fn := fun _ => fun
  | [d1, d2, d3, d4, d5, d6, d7] => { results := [.lit (.bool true)], args := [d1, d2, d3, d4, d5, d6, d7] }
  | _ => none }
def treeAsksRow : OpenClaim := { program := "ythkdkmaacjpneaagreatdoor", sum := "ad3c76b26e896c8f4f7d0a5137f003cb25d424844c6c47d29a44f2e63942b019", func := "lattice/latticelaw10.TreeAsks", spec := "treeAsks", inPlace := ["internal/bytealg.CountString", "internal/bytealg.IndexByteString", "internal/bytealg.IndexString", "internal/bytealg.abigen_runtime_cmpstring", "internal/bytealg.Compare"], unfollowed := true, recurses := true, named := ["unicode/utf8.first", "unicode/utf8.acceptRanges", "internal/bytealg.MaxLen"], plainKeys := false, apart := false, laid := [("unicode/utf8.acceptRanges", laid_unicode_utf8_acceptRanges), ("unicode/utf8.first", laid_unicode_utf8_first)] }
def TreeAsksSaid : Prop := treeAsksRow.holds Tryz.pinned (OpenSpec.ofChange treeAsksSpec)

/-- ITS FALSE NEIGHBOUR: 'it returns false'. Refute it at one input. -/
def treeAsksWrong : ChangeSpec := { name := "treeAsks", fn := fun _ => fun
  | [d1, d2, d3, d4, d5, d6, d7] => { results := [.lit (.bool false)], args := [d1, d2, d3, d4, d5, d6, d7] }
  | _ => none }
def TreeAsksWrongFalsely : Prop := treeAsksRow.holds Tryz.pinned (OpenSpec.ofChange treeAsksWrong)

/-- 'latticelaw10.TreeParts': WHATEVER THE INPUT: true; the input reads as it did. -/
def treePartsSpec : ChangeSpec := { name := "treeParts", fn := fun _ => fun
  | [d] => { results := [.lit (.bool true)], args := [d] }
  | _ => none }
def treePartsRow : OpenClaim := { program := "ythkdkmaacjpneaagreatdoor", sum := "ad3c76b26e896c8f4f7d0a5137f003cb25d424844c6c47d29a44f2e63942b019", func := "lattice/latticelaw10.TreeParts", spec := "treeParts", inPlace := ["internal/bytealg.CountString", "internal/bytealg.IndexByteString", "internal/bytealg.IndexString", "internal/bytealg.abigen_runtime_cmpstring", "internal/bytealg.Compare"], unfollowed := true, recurses := true, named := ["unicode/utf8.first", "unicode/utf8.acceptRanges", "internal/bytealg.MaxLen"], plainKeys := false, apart := false, laid := [("unicode/utf8.acceptRanges", laid_unicode_utf8_acceptRanges), ("unicode/utf8.first", laid_unicode_utf8_first)] }
def TreePartsSaid : Prop := treePartsRow.holds Tryz.pinned (OpenSpec.ofChange treePartsSpec)

/-- ITS FALSE NEIGHBOUR: 'it returns false'. Refute it at one input. -/
def treePartsWrong : ChangeSpec := { name := "treeParts", fn := fun _ => fun
  | [d] => { results := [.lit (.bool false)], args := [d] }
  | _ => none }
def TreePartsWrongFalsely : Prop := treePartsRow.holds Tryz.pinned (OpenSpec.ofChange treePartsWrong)

/-- 'latticelaw10.TreeSound': WHATEVER THE INPUT: true; the input reads as it did. -/
def treeSoundSpec : ChangeSpec := { name := "treeSound", fn := fun _ => fun
  | [d1, d2, d3, d4] => { results := [.lit (.bool true)], args := [d1, d2, d3, d4] }
  | _ => none }
def treeSoundRow : OpenClaim := { program := "ythkdkmaacjpneaagreatdoor", sum := "ad3c76b26e896c8f4f7d0a5137f003cb25d424844c6c47d29a44f2e63942b019", func := "lattice/latticelaw10.TreeSound", spec := "treeSound", inPlace := ["internal/bytealg.CountString", "internal/bytealg.IndexByteString", "internal/bytealg.IndexString", "internal/bytealg.abigen_runtime_cmpstring", "internal/bytealg.Compare"], unfollowed := true, recurses := true, named := ["unicode/utf8.first", "unicode/utf8.acceptRanges", "internal/bytealg.MaxLen"], plainKeys := false, apart := false, laid := [("unicode/utf8.acceptRanges", laid_unicode_utf8_acceptRanges), ("unicode/utf8.first", laid_unicode_utf8_first)] }
def TreeSoundSaid : Prop := treeSoundRow.holds Tryz.pinned (OpenSpec.ofChange treeSoundSpec)

/-- ITS FALSE NEIGHBOUR: 'it returns false'. Refute it at one input. -/
def treeSoundWrong : ChangeSpec := { name := "treeSound", fn := fun _ => fun
  | [d1, d2, d3, d4] => { results := [.lit (.bool false)], args := [d1, d2, d3, d4] }
  | _ => none }
def TreeSoundWrongFalsely : Prop := treeSoundRow.holds Tryz.pinned (OpenSpec.ofChange treeSoundWrong)

/-- 'latticelaw10.TreeShares': WHATEVER THE INPUT: true; the input reads as it did. -/
def treeSharesSpec : ChangeSpec := { name := "treeShares", fn := fun _ => fun
  | [d1, d2, d3] => { results := [.lit (.bool true)], args := [d1, d2, d3] }
  | _ => none }
def treeSharesRow : OpenClaim := { program := "ythkdkmaacjpneaagreatdoor", sum := "ad3c76b26e896c8f4f7d0a5137f003cb25d424844c6c47d29a44f2e63942b019", func := "lattice/latticelaw10.TreeShares", spec := "treeShares", inPlace := ["internal/bytealg.CountString", "internal/bytealg.IndexByteString", "internal/bytealg.IndexString", "internal/bytealg.abigen_runtime_cmpstring", "internal/bytealg.Compare"], unfollowed := true, recurses := true, named := ["unicode/utf8.first", "unicode/utf8.acceptRanges", "internal/bytealg.MaxLen"], plainKeys := false, apart := false, laid := [("unicode/utf8.acceptRanges", laid_unicode_utf8_acceptRanges), ("unicode/utf8.first", laid_unicode_utf8_first)] }
def TreeSharesSaid : Prop := treeSharesRow.holds Tryz.pinned (OpenSpec.ofChange treeSharesSpec)

/-- ITS FALSE NEIGHBOUR: 'it returns false'. Refute it at one input. -/
def treeSharesWrong : ChangeSpec := { name := "treeShares", fn := fun _ => fun
  | [d1, d2, d3] => { results := [.lit (.bool false)], args := [d1, d2, d3] }
  | _ => none }
def TreeSharesWrongFalsely : Prop := treeSharesRow.holds Tryz.pinned (OpenSpec.ofChange treeSharesWrong)

/-- 'latticelaw10.TreeBack': WHATEVER THE INPUT: true; the input reads as it did. -/
def treeBackSpec : ChangeSpec := { name := "treeBack", fn := fun _ => fun
  | [d1, d2, d3] => { results := [.lit (.bool true)], args := [d1, d2, d3] }
  | _ => none }
def treeBackRow : OpenClaim := { program := "ythkdkmaacjpneaagreatdoor", sum := "ad3c76b26e896c8f4f7d0a5137f003cb25d424844c6c47d29a44f2e63942b019", func := "lattice/latticelaw10.TreeBack", spec := "treeBack", inPlace := ["internal/bytealg.CountString", "internal/bytealg.IndexByteString", "internal/bytealg.IndexString", "internal/bytealg.abigen_runtime_cmpstring", "internal/bytealg.Compare"], unfollowed := true, recurses := true, named := ["unicode/utf8.first", "unicode/utf8.acceptRanges", "internal/bytealg.MaxLen"], plainKeys := false, apart := false, laid := [("unicode/utf8.acceptRanges", laid_unicode_utf8_acceptRanges), ("unicode/utf8.first", laid_unicode_utf8_first)] }
def TreeBackSaid : Prop := treeBackRow.holds Tryz.pinned (OpenSpec.ofChange treeBackSpec)

/-- ITS FALSE NEIGHBOUR: 'it returns false'. Refute it at one input. -/
def treeBackWrong : ChangeSpec := { name := "treeBack", fn := fun _ => fun
  | [d1, d2, d3] => { results := [.lit (.bool false)], args := [d1, d2, d3] }
  | _ => none }
def TreeBackWrongFalsely : Prop := treeBackRow.holds Tryz.pinned (OpenSpec.ofChange treeBackWrong)

/- THE SECOND FORM. 'bulk': how many values and letters a reading holds, each counted each time it is reached (what is shared counts as often as it is met; a slice's spare places count too). A statement '..UptoSaid' is the law's where the arguments, and the package variables that the reading takes, are together of bulk at most 1048576: NARROWER than '..Said'. Prove '..Said' where nothing that the law and all that it calls make is longer than what came in: it says more and counts as full. Else prove '..UptoSaid'. A law counts once. -/
mutual
def uptoBulk {H : Type} : DataW H → Nat
  | .lit (.string bytes) => bytes.length + 1
  | .lit _ => 1
  | .nil => 1
  | .ptr d => uptoBulk d + 1
  | .slice elems spare => uptoBulkAll elems + uptoBulkAll spare + 1
  | .agg parts => uptoBulkAll parts + 1
  | .iface _ d => uptoBulk d + 1
  | .map entries => uptoBulkEntries entries + 1
  | .held _ => 1
def uptoBulkAll {H : Type} : List (DataW H) → Nat
  | [] => 0
  | d :: r => uptoBulk d + uptoBulkAll r
def uptoBulkEntries {H : Type} : List (Lit × DataW H) → Nat
  | [] => 0
  | x :: r => uptoBulkEntry x + uptoBulkEntries r
def uptoBulkEntry {H : Type} : Lit × DataW H → Nat
  | (.string bytes, d) => bytes.length + uptoBulk d + 1
  | (_, d) => uptoBulk d + 1
 end
def uptoSmall : (H : Type) → List (DataW H) → Bool := fun _ ds => decide (uptoBulkAll ds ≤ 1048576)
def OpenSpec.upto (s : _root_.Go.ChangeSpec) : _root_.Go.OpenSpec := { _root_.Go.OpenSpec.ofChange s with cond := some uptoSmall }

/-- 'latticelaw10.TreeOrder', WHERE WHAT IT READS IS OF BULK AT MOST 1048576: true; the input reads as it did. -/
def treeOrderUptoRow : OpenClaim := { program := "ythkdkmaacjpneaagreatdoor", sum := "ad3c76b26e896c8f4f7d0a5137f003cb25d424844c6c47d29a44f2e63942b019", func := "lattice/latticelaw10.TreeOrder", spec := "treeOrder", inPlace := ["internal/bytealg.CountString", "internal/bytealg.IndexByteString", "internal/bytealg.IndexString", "internal/bytealg.abigen_runtime_cmpstring", "internal/bytealg.Compare"], unfollowed := true, recurses := true, named := ["unicode/utf8.first", "unicode/utf8.acceptRanges", "internal/bytealg.MaxLen"], plainKeys := false, apart := false, laid := [("unicode/utf8.acceptRanges", laid_unicode_utf8_acceptRanges), ("unicode/utf8.first", laid_unicode_utf8_first)], narrowed := true }
def TreeOrderUptoSaid : Prop := treeOrderUptoRow.holds Tryz.pinned (OpenSpec.upto treeOrderSpec)

/-- 'latticelaw10.TreeSizes', WHERE WHAT IT READS IS OF BULK AT MOST 1048576: true; the input reads as it did. -/
def treeSizesUptoRow : OpenClaim := { program := "ythkdkmaacjpneaagreatdoor", sum := "ad3c76b26e896c8f4f7d0a5137f003cb25d424844c6c47d29a44f2e63942b019", func := "lattice/latticelaw10.TreeSizes", spec := "treeSizes", inPlace := ["internal/bytealg.CountString", "internal/bytealg.IndexByteString", "internal/bytealg.IndexString", "internal/bytealg.abigen_runtime_cmpstring", "internal/bytealg.Compare"], unfollowed := true, recurses := true, named := ["unicode/utf8.first", "unicode/utf8.acceptRanges", "internal/bytealg.MaxLen"], plainKeys := false, apart := false, laid := [("unicode/utf8.acceptRanges", laid_unicode_utf8_acceptRanges), ("unicode/utf8.first", laid_unicode_utf8_first)], narrowed := true }
def TreeSizesUptoSaid : Prop := treeSizesUptoRow.holds Tryz.pinned (OpenSpec.upto treeSizesSpec)

/-- 'latticelaw10.TreeRefuses', WHERE WHAT IT READS IS OF BULK AT MOST 1048576: true; the input reads as it did. -/
def treeRefusesUptoRow : OpenClaim := { program := "ythkdkmaacjpneaagreatdoor", sum := "ad3c76b26e896c8f4f7d0a5137f003cb25d424844c6c47d29a44f2e63942b019", func := "lattice/latticelaw10.TreeRefuses", spec := "treeRefuses", inPlace := ["internal/bytealg.CountString", "internal/bytealg.IndexByteString", "internal/bytealg.IndexString", "internal/bytealg.abigen_runtime_cmpstring", "internal/bytealg.Compare"], unfollowed := true, recurses := true, named := ["unicode/utf8.first", "unicode/utf8.acceptRanges", "internal/bytealg.MaxLen"], plainKeys := false, apart := false, laid := [("unicode/utf8.acceptRanges", laid_unicode_utf8_acceptRanges), ("unicode/utf8.first", laid_unicode_utf8_first)], narrowed := true }
def TreeRefusesUptoSaid : Prop := treeRefusesUptoRow.holds Tryz.pinned (OpenSpec.upto treeRefusesSpec)

/-- 'latticelaw10.TreeBuilds', WHERE WHAT IT READS IS OF BULK AT MOST 1048576: true; the input reads as it did. -/
def treeBuildsUptoRow : OpenClaim := { program := "ythkdkmaacjpneaagreatdoor", sum := "ad3c76b26e896c8f4f7d0a5137f003cb25d424844c6c47d29a44f2e63942b019", func := "lattice/latticelaw10.TreeBuilds", spec := "treeBuilds", inPlace := ["internal/bytealg.CountString", "internal/bytealg.IndexByteString", "internal/bytealg.IndexString", "internal/bytealg.abigen_runtime_cmpstring", "internal/bytealg.Compare"], unfollowed := true, recurses := true, named := ["unicode/utf8.first", "unicode/utf8.acceptRanges", "internal/bytealg.MaxLen"], plainKeys := false, apart := false, laid := [("unicode/utf8.acceptRanges", laid_unicode_utf8_acceptRanges), ("unicode/utf8.first", laid_unicode_utf8_first)], narrowed := true }
def TreeBuildsUptoSaid : Prop := treeBuildsUptoRow.holds Tryz.pinned (OpenSpec.upto treeBuildsSpec)

/-- 'latticelaw10.TreeDiffs', WHERE WHAT IT READS IS OF BULK AT MOST 1048576: true; the input reads as it did. -/
def treeDiffsUptoRow : OpenClaim := { program := "ythkdkmaacjpneaagreatdoor", sum := "ad3c76b26e896c8f4f7d0a5137f003cb25d424844c6c47d29a44f2e63942b019", func := "lattice/latticelaw10.TreeDiffs", spec := "treeDiffs", inPlace := ["internal/bytealg.CountString", "internal/bytealg.IndexByteString", "internal/bytealg.IndexString", "internal/bytealg.abigen_runtime_cmpstring", "internal/bytealg.Compare"], unfollowed := true, recurses := true, named := ["unicode/utf8.first", "unicode/utf8.acceptRanges", "internal/bytealg.MaxLen"], plainKeys := false, apart := false, laid := [("unicode/utf8.acceptRanges", laid_unicode_utf8_acceptRanges), ("unicode/utf8.first", laid_unicode_utf8_first)], narrowed := true }
def TreeDiffsUptoSaid : Prop := treeDiffsUptoRow.holds Tryz.pinned (OpenSpec.upto treeDiffsSpec)

/-- 'latticelaw10.TreeAsks', WHERE WHAT IT READS IS OF BULK AT MOST 1048576: true; the input reads as it did. -/
def treeAsksUptoRow : OpenClaim := { program := "ythkdkmaacjpneaagreatdoor", sum := "ad3c76b26e896c8f4f7d0a5137f003cb25d424844c6c47d29a44f2e63942b019", func := "lattice/latticelaw10.TreeAsks", spec := "treeAsks", inPlace := ["internal/bytealg.CountString", "internal/bytealg.IndexByteString", "internal/bytealg.IndexString", "internal/bytealg.abigen_runtime_cmpstring", "internal/bytealg.Compare"], unfollowed := true, recurses := true, named := ["unicode/utf8.first", "unicode/utf8.acceptRanges", "internal/bytealg.MaxLen"], plainKeys := false, apart := false, laid := [("unicode/utf8.acceptRanges", laid_unicode_utf8_acceptRanges), ("unicode/utf8.first", laid_unicode_utf8_first)], narrowed := true }
def TreeAsksUptoSaid : Prop := treeAsksUptoRow.holds Tryz.pinned (OpenSpec.upto treeAsksSpec)

/-- 'latticelaw10.TreeParts', WHERE WHAT IT READS IS OF BULK AT MOST 1048576: true; the input reads as it did. -/
def treePartsUptoRow : OpenClaim := { program := "ythkdkmaacjpneaagreatdoor", sum := "ad3c76b26e896c8f4f7d0a5137f003cb25d424844c6c47d29a44f2e63942b019", func := "lattice/latticelaw10.TreeParts", spec := "treeParts", inPlace := ["internal/bytealg.CountString", "internal/bytealg.IndexByteString", "internal/bytealg.IndexString", "internal/bytealg.abigen_runtime_cmpstring", "internal/bytealg.Compare"], unfollowed := true, recurses := true, named := ["unicode/utf8.first", "unicode/utf8.acceptRanges", "internal/bytealg.MaxLen"], plainKeys := false, apart := false, laid := [("unicode/utf8.acceptRanges", laid_unicode_utf8_acceptRanges), ("unicode/utf8.first", laid_unicode_utf8_first)], narrowed := true }
def TreePartsUptoSaid : Prop := treePartsUptoRow.holds Tryz.pinned (OpenSpec.upto treePartsSpec)

/-- 'latticelaw10.TreeSound', WHERE WHAT IT READS IS OF BULK AT MOST 1048576: true; the input reads as it did. -/
def treeSoundUptoRow : OpenClaim := { program := "ythkdkmaacjpneaagreatdoor", sum := "ad3c76b26e896c8f4f7d0a5137f003cb25d424844c6c47d29a44f2e63942b019", func := "lattice/latticelaw10.TreeSound", spec := "treeSound", inPlace := ["internal/bytealg.CountString", "internal/bytealg.IndexByteString", "internal/bytealg.IndexString", "internal/bytealg.abigen_runtime_cmpstring", "internal/bytealg.Compare"], unfollowed := true, recurses := true, named := ["unicode/utf8.first", "unicode/utf8.acceptRanges", "internal/bytealg.MaxLen"], plainKeys := false, apart := false, laid := [("unicode/utf8.acceptRanges", laid_unicode_utf8_acceptRanges), ("unicode/utf8.first", laid_unicode_utf8_first)], narrowed := true }
def TreeSoundUptoSaid : Prop := treeSoundUptoRow.holds Tryz.pinned (OpenSpec.upto treeSoundSpec)

/-- 'latticelaw10.TreeShares', WHERE WHAT IT READS IS OF BULK AT MOST 1048576: true; the input reads as it did. -/
def treeSharesUptoRow : OpenClaim := { program := "ythkdkmaacjpneaagreatdoor", sum := "ad3c76b26e896c8f4f7d0a5137f003cb25d424844c6c47d29a44f2e63942b019", func := "lattice/latticelaw10.TreeShares", spec := "treeShares", inPlace := ["internal/bytealg.CountString", "internal/bytealg.IndexByteString", "internal/bytealg.IndexString", "internal/bytealg.abigen_runtime_cmpstring", "internal/bytealg.Compare"], unfollowed := true, recurses := true, named := ["unicode/utf8.first", "unicode/utf8.acceptRanges", "internal/bytealg.MaxLen"], plainKeys := false, apart := false, laid := [("unicode/utf8.acceptRanges", laid_unicode_utf8_acceptRanges), ("unicode/utf8.first", laid_unicode_utf8_first)], narrowed := true }
def TreeSharesUptoSaid : Prop := treeSharesUptoRow.holds Tryz.pinned (OpenSpec.upto treeSharesSpec)

/-- 'latticelaw10.TreeBack', WHERE WHAT IT READS IS OF BULK AT MOST 1048576: true; the input reads as it did. -/
def treeBackUptoRow : OpenClaim := { program := "ythkdkmaacjpneaagreatdoor", sum := "ad3c76b26e896c8f4f7d0a5137f003cb25d424844c6c47d29a44f2e63942b019", func := "lattice/latticelaw10.TreeBack", spec := "treeBack", inPlace := ["internal/bytealg.CountString", "internal/bytealg.IndexByteString", "internal/bytealg.IndexString", "internal/bytealg.abigen_runtime_cmpstring", "internal/bytealg.Compare"], unfollowed := true, recurses := true, named := ["unicode/utf8.first", "unicode/utf8.acceptRanges", "internal/bytealg.MaxLen"], plainKeys := false, apart := false, laid := [("unicode/utf8.acceptRanges", laid_unicode_utf8_acceptRanges), ("unicode/utf8.first", laid_unicode_utf8_first)], narrowed := true }
def TreeBackUptoSaid : Prop := treeBackUptoRow.holds Tryz.pinned (OpenSpec.upto treeBackSpec)

end Rows
end Go.Proofs.YthkdkmaacjpneaaGreatDoor
