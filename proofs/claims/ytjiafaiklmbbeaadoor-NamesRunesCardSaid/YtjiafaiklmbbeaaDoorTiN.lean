/- What the program says of its types of elements. -/
import Derived.Test.YtjiafaiklmbbeaaDoorSl4
import Derived.Test.YtjiafaiklmbbeaaDoorProg
namespace Go.Proofs.YtjiafaiklmbbeaaDoor.TI
set_option linter.unusedVariables false
theorem hi5 : Tryd.prog.info? 5 = some Tryd.t5 := by kernel_rfl
theorem hz5 : Tryd.t5.zero = some (.int .u8 0) := by kernel_rfl
theorem hs5 : Tryd.t5.size = 1 := by kernel_rfl
theorem hby5 : Tryd.t5.bytes = 1 := by kernel_rfl
theorem hzs5 : (.int .u8 0 : Value).cells.size = 1 := by kernel_rfl
theorem hsm5 : (Tryd.prog.info? 5).map (·.size) = some 1 := by kernel_rfl
theorem hi3 : Tryd.prog.info? 3 = some Tryd.t3 := by kernel_rfl
theorem hz3 : Tryd.t3.zero = some (.int .i64 0) := by kernel_rfl
theorem hs3 : Tryd.t3.size = 1 := by kernel_rfl
theorem hby3 : Tryd.t3.bytes = 8 := by kernel_rfl
theorem hzs3 : (.int .i64 0 : Value).cells.size = 1 := by kernel_rfl
theorem hsm3 : (Tryd.prog.info? 3).map (·.size) = some 1 := by kernel_rfl
theorem hi21 : Tryd.prog.info? 21 = some Tryd.t21 := by kernel_rfl
theorem hz21 : Tryd.t21.zero = some (.int .i32 0) := by kernel_rfl
theorem hs21 : Tryd.t21.size = 1 := by kernel_rfl
theorem hby21 : Tryd.t21.bytes = 4 := by kernel_rfl
theorem hzs21 : (.int .i32 0 : Value).cells.size = 1 := by kernel_rfl
theorem hsm21 : (Tryd.prog.info? 21).map (·.size) = some 1 := by kernel_rfl
theorem hi9 : Tryd.prog.info? 9 = some Tryd.t9 := by kernel_rfl
theorem hz9 : Tryd.t9.zero = some (.string ⟨#[]⟩) := by kernel_rfl
theorem hs9 : Tryd.t9.size = 1 := by kernel_rfl
theorem hby9 : Tryd.t9.bytes = 16 := by kernel_rfl
theorem hzs9 : (.string ⟨#[]⟩ : Value).cells.size = 1 := by kernel_rfl
theorem hsm9 : (Tryd.prog.info? 9).map (·.size) = some 1 := by kernel_rfl
end Go.Proofs.YtjiafaiklmbbeaaDoor.TI
