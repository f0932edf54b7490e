/- Rows of cosines are nearly at right angles: reckoned by the kernel, block by block. No condition. -/
import Derived.Test.YtnliianjljgcbaaKern
namespace Go.Proofs.Ytnliianjljgcbaa.Kern
theorem chk_127 : chk 127 = true := by decide +kernel
theorem chk_128 : chk 128 = true := by decide +kernel
theorem chk_129 : chk 129 = true := by decide +kernel
theorem chk_130 : chk 130 = true := by decide +kernel
theorem chk_131 : chk 131 = true := by decide +kernel
theorem chk_132 : chk 132 = true := by decide +kernel
theorem chk_133 : chk 133 = true := by decide +kernel
theorem chk_134 : chk 134 = true := by decide +kernel
theorem chk_135 : chk 135 = true := by decide +kernel
theorem chk_136 : chk 136 = true := by decide +kernel
theorem chk_137 : chk 137 = true := by decide +kernel
theorem upto_138_137 : allN chk 0 138 = true := rfl
theorem upto_137_137 : allN chk 1 137 = true := allN_step chk_137 upto_138_137
theorem upto_136_137 : allN chk 2 136 = true := allN_step chk_136 upto_137_137
theorem upto_135_137 : allN chk 3 135 = true := allN_step chk_135 upto_136_137
theorem upto_134_137 : allN chk 4 134 = true := allN_step chk_134 upto_135_137
theorem upto_133_137 : allN chk 5 133 = true := allN_step chk_133 upto_134_137
theorem upto_132_137 : allN chk 6 132 = true := allN_step chk_132 upto_133_137
theorem upto_131_137 : allN chk 7 131 = true := allN_step chk_131 upto_132_137
theorem upto_130_137 : allN chk 8 130 = true := allN_step chk_130 upto_131_137
theorem upto_129_137 : allN chk 9 129 = true := allN_step chk_129 upto_130_137
theorem upto_128_137 : allN chk 10 128 = true := allN_step chk_128 upto_129_137
theorem upto_127_137 : allN chk 11 127 = true := allN_step chk_127 upto_128_137
end Go.Proofs.Ytnliianjljgcbaa.Kern
