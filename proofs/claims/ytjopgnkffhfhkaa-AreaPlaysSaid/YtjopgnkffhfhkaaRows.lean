/-
  No cell of these rows narrows 'for every input' (looked for: loops, veiled, ifaces, maps, wideKeys, modest, calm, conditions, laid).
  DERIVED. THE GIVEN ROWS OF THIS SEAT. 5 by the template 'for every input the law returns true; each argument reads behind the call as it read before'; 0 by the template 'total and deterministic' (their statements: YtjopgnkffhfhkaaTotals.lean).
  GIVEN WITH THE SEED: the statements are not yours to turn. If you find one false, say at which input.
  Laid BY PROGRAM, IN A SANDBOX (cutbox-rows.mjs): the forced cells as the released guide's own fill.sh prints them over the translation 5258262294590387… (all of the seat's roots in one cut). By AI agents, Wed Nov 11 2026. No macro, syntax, notation, axiom, sorry.
-/
import Derived.Test.YtjopgnkffhfhkaaChecked
import GoSem.Claim
import GoSem.ClaimJoined
import GoSem.ClaimMapViews
import Derived.JoinedTies
import Derived.KernelRfl
namespace Go.Proofs.Ytjopgnkffhfhkaa
/- THE CELL 'sum', in the pinned program and in every row, IS THE sha256 OF THE DUMP (.gsa) THAT YtjopgnkffhfhkaaProg.lean LOADS. Nothing in Lean hashes anything: it is a label: what it is worth is what the hold of that sum in a sandbox is worth. -/
noncomputable def Try.pinned : Pinned := { name := "ytjopgnkffhfhkaa", sum := "5258262294590387dfef6a05c6f65be26d3c89ecd917ffe52fc3f3c5ead64c69", checked := Try.checked }
namespace Rows
def none {H : Type} : Left H := { results := [], args := [] }

/-- 'latticelaw11.AreaBounds': WHATEVER THE INPUT: true; the input reads as it did. -/
def areaBoundsSpec : ChangeSpec := { name := "areaBounds", fn := fun _ => fun
  | [d1, d2, d3] => { results := [.lit (.bool true)], args := [d1, d2, d3] }
  | _ => none }
def areaBoundsRow : OpenClaim := { program := "ytjopgnkffhfhkaa", sum := "5258262294590387dfef6a05c6f65be26d3c89ecd917ffe52fc3f3c5ead64c69", func := "lattice/latticelaw11.AreaBounds", spec := "areaBounds", inPlace := ["internal/bytealg.Compare"], unfollowed := true, recurses := true, plainKeys := false, apart := false }
def AreaBoundsSaid : Prop := areaBoundsRow.holds Try.pinned (OpenSpec.ofChange areaBoundsSpec)

/-- ITS FALSE NEIGHBOUR: 'it returns false'. Refute it at one input. -/
def areaBoundsWrong : ChangeSpec := { name := "areaBounds", fn := fun _ => fun
  | [d1, d2, d3] => { results := [.lit (.bool false)], args := [d1, d2, d3] }
  | _ => none }
def AreaBoundsWrongFalsely : Prop := areaBoundsRow.holds Try.pinned (OpenSpec.ofChange areaBoundsWrong)

/-- 'latticelaw11.AreaQuotas': WHATEVER THE INPUT: true; the input reads as it did. -/
def areaQuotasSpec : ChangeSpec := { name := "areaQuotas", fn := fun _ => fun
  | [d1, d2, d3] => { results := [.lit (.bool true)], args := [d1, d2, d3] }
  | _ => none }
def areaQuotasRow : OpenClaim := { program := "ytjopgnkffhfhkaa", sum := "5258262294590387dfef6a05c6f65be26d3c89ecd917ffe52fc3f3c5ead64c69", func := "lattice/latticelaw11.AreaQuotas", spec := "areaQuotas", inPlace := ["internal/bytealg.Compare"], unfollowed := true, recurses := true, plainKeys := false, apart := false }
def AreaQuotasSaid : Prop := areaQuotasRow.holds Try.pinned (OpenSpec.ofChange areaQuotasSpec)

/-- ITS FALSE NEIGHBOUR: 'it returns false'. Refute it at one input. -/
def areaQuotasWrong : ChangeSpec := { name := "areaQuotas", fn := fun _ => fun
  | [d1, d2, d3] => { results := [.lit (.bool false)], args := [d1, d2, d3] }
  | _ => none }
def AreaQuotasWrongFalsely : Prop := areaQuotasRow.holds Try.pinned (OpenSpec.ofChange areaQuotasWrong)

/-- 'latticelaw11.AreaSweeps': WHATEVER THE INPUT: true; the input reads as it did. -/
def areaSweepsSpec : ChangeSpec := { name := "areaSweeps", fn := fun _ => fun
  | [d1, d2] => { results := [.lit (.bool true)], args := [d1, d2] }
  | _ => none }
def areaSweepsRow : OpenClaim := { program := "ytjopgnkffhfhkaa", sum := "5258262294590387dfef6a05c6f65be26d3c89ecd917ffe52fc3f3c5ead64c69", func := "lattice/latticelaw11.AreaSweeps", spec := "areaSweeps", inPlace := ["internal/bytealg.Compare"], unfollowed := true, recurses := true, plainKeys := false, apart := false }
def AreaSweepsSaid : Prop := areaSweepsRow.holds Try.pinned (OpenSpec.ofChange areaSweepsSpec)

/-- ITS FALSE NEIGHBOUR: 'it returns false'. Refute it at one input. -/
def areaSweepsWrong : ChangeSpec := { name := "areaSweeps", fn := fun _ => fun
  | [d1, d2] => { results := [.lit (.bool false)], args := [d1, d2] }
  | _ => none }
def AreaSweepsWrongFalsely : Prop := areaSweepsRow.holds Try.pinned (OpenSpec.ofChange areaSweepsWrong)

/-- 'latticelaw11.AreaPlays': WHATEVER THE INPUT: true; the input reads as it did. -/
def areaPlaysSpec : ChangeSpec := { name := "areaPlays", fn := fun _ => fun
  | [d1, d2, d3] => { results := [.lit (.bool true)], args := [d1, d2, d3] }
  | _ => none }
def areaPlaysRow : OpenClaim := { program := "ytjopgnkffhfhkaa", sum := "5258262294590387dfef6a05c6f65be26d3c89ecd917ffe52fc3f3c5ead64c69", func := "lattice/latticelaw11.AreaPlays", spec := "areaPlays", inPlace := ["internal/bytealg.Compare"], unfollowed := true, recurses := true, plainKeys := false, apart := false }
def AreaPlaysSaid : Prop := areaPlaysRow.holds Try.pinned (OpenSpec.ofChange areaPlaysSpec)

/-- ITS FALSE NEIGHBOUR: 'it returns false'. Refute it at one input. -/
def areaPlaysWrong : ChangeSpec := { name := "areaPlays", fn := fun _ => fun
  | [d1, d2, d3] => { results := [.lit (.bool false)], args := [d1, d2, d3] }
  | _ => none }
def AreaPlaysWrongFalsely : Prop := areaPlaysRow.holds Try.pinned (OpenSpec.ofChange areaPlaysWrong)

/-- 'latticelaw11.AreaLeases': WHATEVER THE INPUT: true; the input reads as it did. -/
def areaLeasesSpec : ChangeSpec := { name := "areaLeases", fn := fun _ => fun
  | [d1, d2, d3, d4] => { results := [.lit (.bool true)], args := [d1, d2, d3, d4] }
  | _ => none }
def areaLeasesRow : OpenClaim := { program := "ytjopgnkffhfhkaa", sum := "5258262294590387dfef6a05c6f65be26d3c89ecd917ffe52fc3f3c5ead64c69", func := "lattice/latticelaw11.AreaLeases", spec := "areaLeases", inPlace := ["internal/bytealg.Compare"], unfollowed := true, recurses := true, plainKeys := false, apart := false }
def AreaLeasesSaid : Prop := areaLeasesRow.holds Try.pinned (OpenSpec.ofChange areaLeasesSpec)

/-- ITS FALSE NEIGHBOUR: 'it returns false'. Refute it at one input. -/
def areaLeasesWrong : ChangeSpec := { name := "areaLeases", fn := fun _ => fun
  | [d1, d2, d3, d4] => { results := [.lit (.bool false)], args := [d1, d2, d3, d4] }
  | _ => none }
def AreaLeasesWrongFalsely : Prop := areaLeasesRow.holds Try.pinned (OpenSpec.ofChange areaLeasesWrong)

/- THE SECOND FORM. 'bulk': how many values and letters a reading holds, each counted each time it is reached (what is shared counts as often as it is met; a slice's spare places count too). A statement '..UptoSaid' is the law's where the arguments, and the package variables that the reading takes, are together of bulk at most 1048576: NARROWER than '..Said'. Prove '..Said' where nothing that the law and all that it calls make is longer than what came in: it says more and counts as full. Else prove '..UptoSaid'. A law counts once. -/
mutual
def uptoBulk {H : Type} : DataW H → Nat
  | .lit (.string bytes) => bytes.length + 1
  | .lit _ => 1
  | .nil => 1
  | .ptr d => uptoBulk d + 1
  | .slice elems spare => uptoBulkAll elems + uptoBulkAll spare + 1
  | .agg parts => uptoBulkAll parts + 1
  | .iface _ d => uptoBulk d + 1
  | .map entries => uptoBulkEntries entries + 1
  | .held _ => 1
def uptoBulkAll {H : Type} : List (DataW H) → Nat
  | [] => 0
  | d :: r => uptoBulk d + uptoBulkAll r
def uptoBulkEntries {H : Type} : List (Lit × DataW H) → Nat
  | [] => 0
  | x :: r => uptoBulkEntry x + uptoBulkEntries r
def uptoBulkEntry {H : Type} : Lit × DataW H → Nat
  | (.string bytes, d) => bytes.length + uptoBulk d + 1
  | (_, d) => uptoBulk d + 1
 end
def uptoSmall : (H : Type) → List (DataW H) → Bool := fun _ ds => decide (uptoBulkAll ds ≤ 1048576)
def OpenSpec.upto (s : _root_.Go.ChangeSpec) : _root_.Go.OpenSpec := { _root_.Go.OpenSpec.ofChange s with cond := some uptoSmall }

/-- 'latticelaw11.AreaBounds', WHERE WHAT IT READS IS OF BULK AT MOST 1048576: true; the input reads as it did. -/
def areaBoundsUptoRow : OpenClaim := { program := "ytjopgnkffhfhkaa", sum := "5258262294590387dfef6a05c6f65be26d3c89ecd917ffe52fc3f3c5ead64c69", func := "lattice/latticelaw11.AreaBounds", spec := "areaBounds", inPlace := ["internal/bytealg.Compare"], unfollowed := true, recurses := true, plainKeys := false, apart := false, narrowed := true }
def AreaBoundsUptoSaid : Prop := areaBoundsUptoRow.holds Try.pinned (OpenSpec.upto areaBoundsSpec)

/-- 'latticelaw11.AreaQuotas', WHERE WHAT IT READS IS OF BULK AT MOST 1048576: true; the input reads as it did. -/
def areaQuotasUptoRow : OpenClaim := { program := "ytjopgnkffhfhkaa", sum := "5258262294590387dfef6a05c6f65be26d3c89ecd917ffe52fc3f3c5ead64c69", func := "lattice/latticelaw11.AreaQuotas", spec := "areaQuotas", inPlace := ["internal/bytealg.Compare"], unfollowed := true, recurses := true, plainKeys := false, apart := false, narrowed := true }
def AreaQuotasUptoSaid : Prop := areaQuotasUptoRow.holds Try.pinned (OpenSpec.upto areaQuotasSpec)

/-- 'latticelaw11.AreaSweeps', WHERE WHAT IT READS IS OF BULK AT MOST 1048576: true; the input reads as it did. -/
def areaSweepsUptoRow : OpenClaim := { program := "ytjopgnkffhfhkaa", sum := "5258262294590387dfef6a05c6f65be26d3c89ecd917ffe52fc3f3c5ead64c69", func := "lattice/latticelaw11.AreaSweeps", spec := "areaSweeps", inPlace := ["internal/bytealg.Compare"], unfollowed := true, recurses := true, plainKeys := false, apart := false, narrowed := true }
def AreaSweepsUptoSaid : Prop := areaSweepsUptoRow.holds Try.pinned (OpenSpec.upto areaSweepsSpec)

/-- 'latticelaw11.AreaPlays', WHERE WHAT IT READS IS OF BULK AT MOST 1048576: true; the input reads as it did. -/
def areaPlaysUptoRow : OpenClaim := { program := "ytjopgnkffhfhkaa", sum := "5258262294590387dfef6a05c6f65be26d3c89ecd917ffe52fc3f3c5ead64c69", func := "lattice/latticelaw11.AreaPlays", spec := "areaPlays", inPlace := ["internal/bytealg.Compare"], unfollowed := true, recurses := true, plainKeys := false, apart := false, narrowed := true }
def AreaPlaysUptoSaid : Prop := areaPlaysUptoRow.holds Try.pinned (OpenSpec.upto areaPlaysSpec)

/-- 'latticelaw11.AreaLeases', WHERE WHAT IT READS IS OF BULK AT MOST 1048576: true; the input reads as it did. -/
def areaLeasesUptoRow : OpenClaim := { program := "ytjopgnkffhfhkaa", sum := "5258262294590387dfef6a05c6f65be26d3c89ecd917ffe52fc3f3c5ead64c69", func := "lattice/latticelaw11.AreaLeases", spec := "areaLeases", inPlace := ["internal/bytealg.Compare"], unfollowed := true, recurses := true, plainKeys := false, apart := false, narrowed := true }
def AreaLeasesUptoSaid : Prop := areaLeasesUptoRow.holds Try.pinned (OpenSpec.upto areaLeasesSpec)

end Rows
end Go.Proofs.Ytjopgnkffhfhkaa
