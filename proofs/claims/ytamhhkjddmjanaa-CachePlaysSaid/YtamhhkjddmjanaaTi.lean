/- What the program says of its types of elements. -/
import Derived.Test.YtamhhkjddmjanaaSl4
import Derived.Test.YtamhhkjddmjanaaProg
namespace Go.Proofs.Ytamhhkjddmjanaa.TI
set_option linter.unusedVariables false
theorem hi5 : Try.prog.info? 5 = some Try.t5 := by kernel_rfl
theorem hz5 : Try.t5.zero = some (.int .u8 0) := by kernel_rfl
theorem hs5 : Try.t5.size = 1 := by kernel_rfl
theorem hby5 : Try.t5.bytes = 1 := by kernel_rfl
theorem hzs5 : (.int .u8 0 : Value).cells.size = 1 := by kernel_rfl
theorem hsm5 : (Try.prog.info? 5).map (·.size) = some 1 := by kernel_rfl
theorem hi3 : Try.prog.info? 3 = some Try.t3 := by kernel_rfl
theorem hz3 : Try.t3.zero = some (.int .i64 0) := by kernel_rfl
theorem hs3 : Try.t3.size = 1 := by kernel_rfl
theorem hby3 : Try.t3.bytes = 8 := by kernel_rfl
theorem hzs3 : (.int .i64 0 : Value).cells.size = 1 := by kernel_rfl
theorem hsm3 : (Try.prog.info? 3).map (·.size) = some 1 := by kernel_rfl
theorem hi33 : Try.prog.info? 33 = some Try.t33 := by kernel_rfl
theorem hz33 : Try.t33.zero = some (.agg (bs zeroId).toArray) := by kernel_rfl
theorem hs33 : Try.t33.size = 32 := by kernel_rfl
theorem hby33 : Try.t33.bytes = 32 := by kernel_rfl
theorem hzs33 : (.agg (bs zeroId).toArray : Value).cells.size = 32 := by kernel_rfl
theorem hsm33 : (Try.prog.info? 33).map (·.size) = some 32 := by kernel_rfl
theorem hi35 : Try.prog.info? 35 = some Try.t35 := by kernel_rfl
theorem hz35 : Try.t35.zero = some (.slice none 0 0) := by kernel_rfl
theorem hs35 : Try.t35.size = 1 := by kernel_rfl
theorem hby35 : Try.t35.bytes = 24 := by kernel_rfl
theorem hzs35 : (.slice none 0 0 : Value).cells.size = 1 := by kernel_rfl
theorem hsm35 : (Try.prog.info? 35).map (·.size) = some 1 := by kernel_rfl
end Go.Proofs.Ytamhhkjddmjanaa.TI
