/-
  No cell of these rows narrows 'for every input' (looked for: loops, veiled, ifaces, maps, wideKeys, modest, calm, conditions, laid).
  DERIVED. THE GIVEN ROWS OF THIS SEAT. 3 by the template 'for every input the law returns true; each argument reads behind the call as it read before'; 0 by the template 'total and deterministic' (their statements: YtinamipkpdlphaaTotals.lean).
  GIVEN WITH THE SEED: the statements are not yours to turn. If you find one false, say at which input.
  Laid BY PROGRAM, IN A SANDBOX (cutbox-rows.mjs): the forced cells as the released guide's own fill.sh prints them over the translation 1c6ff8c8d48477ce… (all of the seat's roots in one cut). By AI agents, Wed Nov 11 2026. No macro, syntax, notation, axiom, sorry.
-/
import Derived.Test.YtinamipkpdlphaaChecked
import GoSem.Claim
import GoSem.ClaimJoined
import GoSem.ClaimMapViews
import Derived.JoinedTies
import Derived.KernelRfl
namespace Go.Proofs.Ytinamipkpdlphaa
/- THE CELL 'sum', in the pinned program and in every row, IS THE sha256 OF THE DUMP (.gsa) THAT YtinamipkpdlphaaProg.lean LOADS. Nothing in Lean hashes anything: it is a label: what it is worth is what the hold of that sum in a sandbox is worth. -/
noncomputable def Try.pinned : Pinned := { name := "ytinamipkpdlphaa", sum := "1c6ff8c8d48477ce32351be152b3eac1a30a71b48c799d8b90ebe99b226c610c", checked := Try.checked }
namespace Rows
def none {H : Type} : Left H := { results := [], args := [] }

/-- 'latticelaw13.SlotsRise': WHATEVER THE INPUT: true; the input reads as it did. -/
def slotsRiseSpec : ChangeSpec := { name := "slotsRise", fn := fun _ => fun
  | [d1, d2] => { results := [.lit (.bool true)], args := [d1, d2] }
  | _ => none }
def slotsRiseRow : OpenClaim := { program := "ytinamipkpdlphaa", sum := "1c6ff8c8d48477ce32351be152b3eac1a30a71b48c799d8b90ebe99b226c610c", func := "lattice/latticelaw13.SlotsRise", spec := "slotsRise", inPlace := ["internal/bytealg.Compare"], unfollowed := true, recurses := true, plainKeys := false, apart := false }
def SlotsRiseSaid : Prop := slotsRiseRow.holds Try.pinned (OpenSpec.ofChange slotsRiseSpec)

/-- ITS FALSE NEIGHBOUR: 'it returns false'. Refute it at one input. -/
def slotsRiseWrong : ChangeSpec := { name := "slotsRise", fn := fun _ => fun
  | [d1, d2] => { results := [.lit (.bool false)], args := [d1, d2] }
  | _ => none }
def SlotsRiseWrongFalsely : Prop := slotsRiseRow.holds Try.pinned (OpenSpec.ofChange slotsRiseWrong)

/-- 'latticelaw13.SlotsSame': WHATEVER THE INPUT: true; the input reads as it did. -/
def slotsSameSpec : ChangeSpec := { name := "slotsSame", fn := fun _ => fun
  | [d1, d2, d3] => { results := [.lit (.bool true)], args := [d1, d2, d3] }
  | _ => none }
def slotsSameRow : OpenClaim := { program := "ytinamipkpdlphaa", sum := "1c6ff8c8d48477ce32351be152b3eac1a30a71b48c799d8b90ebe99b226c610c", func := "lattice/latticelaw13.SlotsSame", spec := "slotsSame", inPlace := ["internal/bytealg.Compare"], unfollowed := true, recurses := true, plainKeys := false, apart := false }
def SlotsSameSaid : Prop := slotsSameRow.holds Try.pinned (OpenSpec.ofChange slotsSameSpec)

/-- ITS FALSE NEIGHBOUR: 'it returns false'. Refute it at one input. -/
def slotsSameWrong : ChangeSpec := { name := "slotsSame", fn := fun _ => fun
  | [d1, d2, d3] => { results := [.lit (.bool false)], args := [d1, d2, d3] }
  | _ => none }
def SlotsSameWrongFalsely : Prop := slotsSameRow.holds Try.pinned (OpenSpec.ofChange slotsSameWrong)

/-- 'latticelaw13.SlotsForged': WHATEVER THE INPUT: true; the input reads as it did. -/
def slotsForgedSpec : ChangeSpec := { name := "slotsForged", fn := fun _ => fun
  | [d1, d2, d3] => { results := [.lit (.bool true)], args := [d1, d2, d3] }
  | _ => none }
def slotsForgedRow : OpenClaim := { program := "ytinamipkpdlphaa", sum := "1c6ff8c8d48477ce32351be152b3eac1a30a71b48c799d8b90ebe99b226c610c", func := "lattice/latticelaw13.SlotsForged", spec := "slotsForged", inPlace := ["internal/bytealg.Compare"], unfollowed := true, recurses := true, plainKeys := false, apart := false }
def SlotsForgedSaid : Prop := slotsForgedRow.holds Try.pinned (OpenSpec.ofChange slotsForgedSpec)

/-- ITS FALSE NEIGHBOUR: 'it returns false'. Refute it at one input. -/
def slotsForgedWrong : ChangeSpec := { name := "slotsForged", fn := fun _ => fun
  | [d1, d2, d3] => { results := [.lit (.bool false)], args := [d1, d2, d3] }
  | _ => none }
def SlotsForgedWrongFalsely : Prop := slotsForgedRow.holds Try.pinned (OpenSpec.ofChange slotsForgedWrong)

/- THE SECOND FORM. 'bulk': how many values and letters a reading holds, each counted each time it is reached (what is shared counts as often as it is met; a slice's spare places count too). A statement '..UptoSaid' is the law's where the arguments, and the package variables that the reading takes, are together of bulk at most 1048576: NARROWER than '..Said'. Prove '..Said' where nothing that the law and all that it calls make is longer than what came in: it says more and counts as full. Else prove '..UptoSaid'. A law counts once. -/
mutual
def uptoBulk {H : Type} : DataW H → Nat
  | .lit (.string bytes) => bytes.length + 1
  | .lit _ => 1
  | .nil => 1
  | .ptr d => uptoBulk d + 1
  | .slice elems spare => uptoBulkAll elems + uptoBulkAll spare + 1
  | .agg parts => uptoBulkAll parts + 1
  | .iface _ d => uptoBulk d + 1
  | .map entries => uptoBulkEntries entries + 1
  | .held _ => 1
def uptoBulkAll {H : Type} : List (DataW H) → Nat
  | [] => 0
  | d :: r => uptoBulk d + uptoBulkAll r
def uptoBulkEntries {H : Type} : List (Lit × DataW H) → Nat
  | [] => 0
  | x :: r => uptoBulkEntry x + uptoBulkEntries r
def uptoBulkEntry {H : Type} : Lit × DataW H → Nat
  | (.string bytes, d) => bytes.length + uptoBulk d + 1
  | (_, d) => uptoBulk d + 1
 end
def uptoSmall : (H : Type) → List (DataW H) → Bool := fun _ ds => decide (uptoBulkAll ds ≤ 1048576)
def OpenSpec.upto (s : _root_.Go.ChangeSpec) : _root_.Go.OpenSpec := { _root_.Go.OpenSpec.ofChange s with cond := some uptoSmall }

/-- 'latticelaw13.SlotsRise', WHERE WHAT IT READS IS OF BULK AT MOST 1048576: true; the input reads as it did. -/
def slotsRiseUptoRow : OpenClaim := { program := "ytinamipkpdlphaa", sum := "1c6ff8c8d48477ce32351be152b3eac1a30a71b48c799d8b90ebe99b226c610c", func := "lattice/latticelaw13.SlotsRise", spec := "slotsRise", inPlace := ["internal/bytealg.Compare"], unfollowed := true, recurses := true, plainKeys := false, apart := false, narrowed := true }
def SlotsRiseUptoSaid : Prop := slotsRiseUptoRow.holds Try.pinned (OpenSpec.upto slotsRiseSpec)

/-- 'latticelaw13.SlotsSame', WHERE WHAT IT READS IS OF BULK AT MOST 1048576: true; the input reads as it did. -/
def slotsSameUptoRow : OpenClaim := { program := "ytinamipkpdlphaa", sum := "1c6ff8c8d48477ce32351be152b3eac1a30a71b48c799d8b90ebe99b226c610c", func := "lattice/latticelaw13.SlotsSame", spec := "slotsSame", inPlace := ["internal/bytealg.Compare"], unfollowed := true, recurses := true, plainKeys := false, apart := false, narrowed := true }
def SlotsSameUptoSaid : Prop := slotsSameUptoRow.holds Try.pinned (OpenSpec.upto slotsSameSpec)

/-- 'latticelaw13.SlotsForged', WHERE WHAT IT READS IS OF BULK AT MOST 1048576: true; the input reads as it did. -/
def slotsForgedUptoRow : OpenClaim := { program := "ytinamipkpdlphaa", sum := "1c6ff8c8d48477ce32351be152b3eac1a30a71b48c799d8b90ebe99b226c610c", func := "lattice/latticelaw13.SlotsForged", spec := "slotsForged", inPlace := ["internal/bytealg.Compare"], unfollowed := true, recurses := true, plainKeys := false, apart := false, narrowed := true }
def SlotsForgedUptoSaid : Prop := slotsForgedUptoRow.holds Try.pinned (OpenSpec.upto slotsForgedSpec)

end Rows
end Go.Proofs.Ytinamipkpdlphaa
