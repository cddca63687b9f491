/- What the program says of its types of elements. -/
import Derived.Test.YtamhhkjddmjanaaCache6
import Derived.Test.YtamhhkjddmjanaaProg
namespace Go.Proofs.Ytamhhkjddmjanaa.TI
set_option linter.unusedVariables false
theorem hi51 : Try.prog.info? 51 = some Try.t51 := by kernel_rfl
theorem hz51 : Try.t51.zero = some (.agg (oneC (zeroId, .slice none 0 0)).toArray) := by kernel_rfl
theorem hs51 : Try.t51.size = 33 := by kernel_rfl
theorem hby51 : Try.t51.bytes = 56 := by kernel_rfl
theorem hzs51 : (.agg (oneC (zeroId, .slice none 0 0)).toArray : Value).cells.size = 33 := by kernel_rfl
theorem hsm51 : (Try.prog.info? 51).map (·.size) = some 33 := by kernel_rfl
end Go.Proofs.Ytamhhkjddmjanaa.TI
