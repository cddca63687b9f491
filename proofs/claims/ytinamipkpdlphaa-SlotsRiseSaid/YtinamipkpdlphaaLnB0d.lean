/- Lanes: version 1, byte 13 of the name raised: no lane is right. -/
import Derived.Test.YtinamipkpdlphaaK6
namespace Go.Proofs.Ytinamipkpdlphaa
open Go.RowKit
theorem bat0_13 : batK 256 0 nmN [1, 0, 0, 0, 0, 0, 0, 0, 0, 0, 0, 0, 0, 1, 0, 0] CN0 [] lfN1 YL0 136 71 146 251 = true := by decide +kernel
end Go.Proofs.Ytinamipkpdlphaa
