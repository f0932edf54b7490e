/- Rows of cosines are nearly at right angles: reckoned by the kernel, block by block. No condition. -/
import Derived.Test.YtnliianjljgcbaaKern
namespace Go.Proofs.Ytnliianjljgcbaa.Kern
theorem chk_113 : chk 113 = true := by decide +kernel
theorem chk_114 : chk 114 = true := by decide +kernel
theorem chk_115 : chk 115 = true := by decide +kernel
theorem chk_116 : chk 116 = true := by decide +kernel
theorem chk_117 : chk 117 = true := by decide +kernel
theorem chk_118 : chk 118 = true := by decide +kernel
theorem chk_119 : chk 119 = true := by decide +kernel
theorem chk_120 : chk 120 = true := by decide +kernel
theorem chk_121 : chk 121 = true := by decide +kernel
theorem chk_122 : chk 122 = true := by decide +kernel
theorem chk_123 : chk 123 = true := by decide +kernel
theorem chk_124 : chk 124 = true := by decide +kernel
theorem chk_125 : chk 125 = true := by decide +kernel
theorem chk_126 : chk 126 = true := by decide +kernel
theorem upto_127_126 : allN chk 0 127 = true := rfl
theorem upto_126_126 : allN chk 1 126 = true := allN_step chk_126 upto_127_126
theorem upto_125_126 : allN chk 2 125 = true := allN_step chk_125 upto_126_126
theorem upto_124_126 : allN chk 3 124 = true := allN_step chk_124 upto_125_126
theorem upto_123_126 : allN chk 4 123 = true := allN_step chk_123 upto_124_126
theorem upto_122_126 : allN chk 5 122 = true := allN_step chk_122 upto_123_126
theorem upto_121_126 : allN chk 6 121 = true := allN_step chk_121 upto_122_126
theorem upto_120_126 : allN chk 7 120 = true := allN_step chk_120 upto_121_126
theorem upto_119_126 : allN chk 8 119 = true := allN_step chk_119 upto_120_126
theorem upto_118_126 : allN chk 9 118 = true := allN_step chk_118 upto_119_126
theorem upto_117_126 : allN chk 10 117 = true := allN_step chk_117 upto_118_126
theorem upto_116_126 : allN chk 11 116 = true := allN_step chk_116 upto_117_126
theorem upto_115_126 : allN chk 12 115 = true := allN_step chk_115 upto_116_126
theorem upto_114_126 : allN chk 13 114 = true := allN_step chk_114 upto_115_126
theorem upto_113_126 : allN chk 14 113 = true := allN_step chk_113 upto_114_126
end Go.Proofs.Ytnliianjljgcbaa.Kern
