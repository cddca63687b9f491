/- What the row's list gives: the library's two tables; a world that holds them. -/
import Derived.Test.YtjiafaiklmbbeaaDoorLibN
import Derived.Test.YtjiafaiklmbbeaaDoorRows
import Derived.Lib.LaidU8
import Derived.Shelf.Vars
import Derived.MakeChecks
import Derived.ProofKit
namespace Go.Proofs.YtjiafaiklmbbeaaDoor
open Go.RowKit Go.Lib
set_option linter.unusedVariables false
set_option maxRecDepth 100000
theorem first_eq : Go.Pinned.utf8First = firstData := by kernel_rfl
theorem accept_eq : (Rows.laid_unicode_utf8_acceptRanges : DataW Unit) = acceptData := by kernel_rfl
def laidL : List (String × DataW Unit) := [("unicode/utf8.acceptRanges", Rows.laid_unicode_utf8_acceptRanges), ("unicode/utf8.first", Rows.laid_unicode_utf8_first)]
theorem tabs_of_laid {W : World} (h : laidMetH Tryd.prog laidL W) (hsh : W.ShapedOpen Tryd.prog) : ∀ h, orig W h → tabsP h := by
  rw [MakeChecks.laidMetH_plain _ _ _ (by kernel_rfl)] at h
  have h3 : VarReads Tryd.prog W "unicode/utf8.first" firstData := by
    rw [← first_eq]
    exact laidMet.reads h (List.mem_cons_of_mem _ List.mem_cons_self)
  have h4 : VarReads Tryd.prog W "unicode/utf8.acceptRanges" acceptData := by
    rw [← accept_eq]
    exact laidMet.reads h List.mem_cons_self
  refine orig_tabs (utf8Tabs_of_reads lays260 laysU h3 h4) ?_
  exact cell_of_shapedOpen_int (zero := #[.int .i64 0]) (t := 3) hsh (of_decide_eq_true (by kernel_rfl)) (by kernel_rfl) rfl (by kernel_rfl) (by kernel_rfl) Tryd.underlying3
/-- A world for the witness. -/
def lay (cs : List Value) : Obj → Obj
  | .cells _ t frozen => .cells cs.toArray t frozen
  | o => o
def firstCells : List Value := (List.range 256).map fun c => Value.int .u8 (firstT c : Int)
def acceptCells : List Value := ((List.range 16).map fun i => [Value.int .u8 (accLo i : Int), Value.int .u8 (accHi i : Int)]).flatten
noncomputable def laidWorld (os : Os) : World :=
  { World.holding Tryd.prog os ⟨#[], #[], []⟩ with heap := ((World.holding Tryd.prog os ⟨#[], #[], []⟩).heap.modify 0 (lay firstCells)).modify 1 (lay acceptCells) }
theorem laid_met (os : Os) (args : Array Value) : laidMet Tryd.prog laidL ((laidWorld os).forCall (fun _ _ => 0) ⟨#[], args, []⟩).memory :=
  laidMet_of_run' 8 (by kernel_rfl) (by kernel_rfl)
end Go.Proofs.YtjiafaiklmbbeaaDoor
