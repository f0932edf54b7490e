/- Rows of cosines are nearly at right angles: reckoned by the kernel, block by block. No condition. -/
import Derived.Test.YtnliianjljgcbaaKern
namespace Go.Proofs.Ytnliianjljgcbaa.Kern
theorem chk_154 : chk 154 = true := by decide +kernel
theorem chk_155 : chk 155 = true := by decide +kernel
theorem chk_156 : chk 156 = true := by decide +kernel
theorem chk_157 : chk 157 = true := by decide +kernel
theorem chk_158 : chk 158 = true := by decide +kernel
theorem chk_159 : chk 159 = true := by decide +kernel
theorem chk_160 : chk 160 = true := by decide +kernel
theorem upto_161_160 : allN chk 0 161 = true := rfl
theorem upto_160_160 : allN chk 1 160 = true := allN_step chk_160 upto_161_160
theorem upto_159_160 : allN chk 2 159 = true := allN_step chk_159 upto_160_160
theorem upto_158_160 : allN chk 3 158 = true := allN_step chk_158 upto_159_160
theorem upto_157_160 : allN chk 4 157 = true := allN_step chk_157 upto_158_160
theorem upto_156_160 : allN chk 5 156 = true := allN_step chk_156 upto_157_160
theorem upto_155_160 : allN chk 6 155 = true := allN_step chk_155 upto_156_160
theorem upto_154_160 : allN chk 7 154 = true := allN_step chk_154 upto_155_160
end Go.Proofs.Ytnliianjljgcbaa.Kern
