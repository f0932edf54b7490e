/- Rows of cosines are nearly at right angles: reckoned by the kernel, block by block. No condition. -/
import Derived.Test.YtnliianjljgcbaaKern
namespace Go.Proofs.Ytnliianjljgcbaa.Kern
theorem chk_147 : chk 147 = true := by decide +kernel
theorem chk_148 : chk 148 = true := by decide +kernel
theorem chk_149 : chk 149 = true := by decide +kernel
theorem chk_150 : chk 150 = true := by decide +kernel
theorem chk_151 : chk 151 = true := by decide +kernel
theorem chk_152 : chk 152 = true := by decide +kernel
theorem upto_153_152 : allN chk 0 153 = true := rfl
theorem upto_152_152 : allN chk 1 152 = true := allN_step chk_152 upto_153_152
theorem upto_151_152 : allN chk 2 151 = true := allN_step chk_151 upto_152_152
theorem upto_150_152 : allN chk 3 150 = true := allN_step chk_150 upto_151_152
theorem upto_149_152 : allN chk 4 149 = true := allN_step chk_149 upto_150_152
theorem upto_148_152 : allN chk 5 148 = true := allN_step chk_148 upto_149_152
theorem upto_147_152 : allN chk 6 147 = true := allN_step chk_147 upto_148_152
end Go.Proofs.Ytnliianjljgcbaa.Kern
