/- The windows, and the blocks that need them: reckoned by the kernel, block by block. No condition. -/
import Derived.Test.YtnliianjljgcbaaKern
namespace Go.Proofs.Ytnliianjljgcbaa.Kern
theorem pb_1 : allN pb 59 2 = true := by decide +kernel
theorem pb_2 : allN pb 40 61 = true := by decide +kernel
theorem pb_3 : allN pb 30 101 = true := by decide +kernel
theorem pb_4 : allN pb 30 131 = true := by decide +kernel
theorem wide_85 : allN (fun z => chkW 85 (85 - 2 * z) z) 42 0 = true := by decide +kernel
theorem wide_102 : allN (fun z => chkW 102 (102 - 2 * z) z) 51 0 = true := by decide +kernel
theorem wide_153 : allN (fun z => chkW 153 (153 - 2 * z) z) 76 0 = true := by decide +kernel
end Go.Proofs.Ytnliianjljgcbaa.Kern
