/- Rows of cosines are nearly at right angles: reckoned by the kernel, block by block. No condition. -/
import Derived.Test.YtnliianjljgcbaaKern
namespace Go.Proofs.Ytnliianjljgcbaa.Kern
theorem chk_138 : chk 138 = true := by decide +kernel
theorem chk_139 : chk 139 = true := by decide +kernel
theorem chk_140 : chk 140 = true := by decide +kernel
theorem chk_141 : chk 141 = true := by decide +kernel
theorem chk_142 : chk 142 = true := by decide +kernel
theorem chk_143 : chk 143 = true := by decide +kernel
theorem chk_144 : chk 144 = true := by decide +kernel
theorem chk_145 : chk 145 = true := by decide +kernel
theorem chk_146 : chk 146 = true := by decide +kernel
theorem upto_147_146 : allN chk 0 147 = true := rfl
theorem upto_146_146 : allN chk 1 146 = true := allN_step chk_146 upto_147_146
theorem upto_145_146 : allN chk 2 145 = true := allN_step chk_145 upto_146_146
theorem upto_144_146 : allN chk 3 144 = true := allN_step chk_144 upto_145_146
theorem upto_143_146 : allN chk 4 143 = true := allN_step chk_143 upto_144_146
theorem upto_142_146 : allN chk 5 142 = true := allN_step chk_142 upto_143_146
theorem upto_141_146 : allN chk 6 141 = true := allN_step chk_141 upto_142_146
theorem upto_140_146 : allN chk 7 140 = true := allN_step chk_140 upto_141_146
theorem upto_139_146 : allN chk 8 139 = true := allN_step chk_139 upto_140_146
theorem upto_138_146 : allN chk 9 138 = true := allN_step chk_138 upto_139_146
end Go.Proofs.Ytnliianjljgcbaa.Kern
