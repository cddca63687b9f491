/- What the program says of its types of elements. -/
import Derived.Test.YtnhidehpacidnaaSl4
import Derived.Test.YtnhidehpacidnaaProg
namespace Go.Proofs.Ytnhidehpacidnaa.TI
set_option linter.unusedVariables false
theorem hi5 : Try.prog.info? 5 = some Try.t5 := by kernel_rfl
theorem hz5 : Try.t5.zero = some (.int .u8 0) := by kernel_rfl
theorem hs5 : Try.t5.size = 1 := by kernel_rfl
theorem hby5 : Try.t5.bytes = 1 := by kernel_rfl
theorem hzs5 : (.int .u8 0 : Value).cells.size = 1 := by kernel_rfl
theorem hsm5 : (Try.prog.info? 5).map (·.size) = some 1 := by kernel_rfl
theorem hi3 : Try.prog.info? 3 = some Try.t3 := by kernel_rfl
theorem hz3 : Try.t3.zero = some (.int .i64 0) := by kernel_rfl
theorem hs3 : Try.t3.size = 1 := by kernel_rfl
theorem hby3 : Try.t3.bytes = 8 := by kernel_rfl
theorem hzs3 : (.int .i64 0 : Value).cells.size = 1 := by kernel_rfl
theorem hsm3 : (Try.prog.info? 3).map (·.size) = some 1 := by kernel_rfl
theorem hi25 : Try.prog.info? 25 = some Try.t25 := by kernel_rfl
theorem hz25 : Try.t25.zero = some (.agg (bs zeroId).toArray) := by kernel_rfl
theorem hs25 : Try.t25.size = 32 := by kernel_rfl
theorem hby25 : Try.t25.bytes = 32 := by kernel_rfl
theorem hzs25 : (.agg (bs zeroId).toArray : Value).cells.size = 32 := by kernel_rfl
theorem hsm25 : (Try.prog.info? 25).map (·.size) = some 32 := by kernel_rfl
theorem hi28 : Try.prog.info? 28 = some Try.t28 := by kernel_rfl
theorem hz28 : Try.t28.zero = some (.slice none 0 0) := by kernel_rfl
theorem hs28 : Try.t28.size = 1 := by kernel_rfl
theorem hby28 : Try.t28.bytes = 24 := by kernel_rfl
theorem hzs28 : (.slice none 0 0 : Value).cells.size = 1 := by kernel_rfl
theorem hsm28 : (Try.prog.info? 28).map (·.size) = some 1 := by kernel_rfl
end Go.Proofs.Ytnhidehpacidnaa.TI
