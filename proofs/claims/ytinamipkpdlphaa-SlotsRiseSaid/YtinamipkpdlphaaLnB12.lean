/- Lanes: version 2, byte 2 of the name raised: no lane is right. -/
import Derived.Test.YtinamipkpdlphaaK6
namespace Go.Proofs.Ytinamipkpdlphaa
open Go.RowKit
theorem bat1_2 : batK 256 1 nmN [1, 0, 1, 0, 0, 0, 0, 0, 0, 0, 0, 0, 0, 0, 0, 0] CN1 lfN0 [] YL1 136 71 146 251 = true := by decide +kernel
end Go.Proofs.Ytinamipkpdlphaa
