/- Rows of cosines are nearly at right angles: reckoned by the kernel, block by block. No condition. -/
import Derived.Test.YtnliianjljgcbaaKern
namespace Go.Proofs.Ytnliianjljgcbaa.Kern
theorem chk_86 : chk 86 = true := by decide +kernel
theorem chk_87 : chk 87 = true := by decide +kernel
theorem chk_88 : chk 88 = true := by decide +kernel
theorem chk_89 : chk 89 = true := by decide +kernel
theorem chk_90 : chk 90 = true := by decide +kernel
theorem chk_91 : chk 91 = true := by decide +kernel
theorem chk_92 : chk 92 = true := by decide +kernel
theorem chk_93 : chk 93 = true := by decide +kernel
theorem chk_94 : chk 94 = true := by decide +kernel
theorem chk_95 : chk 95 = true := by decide +kernel
theorem chk_96 : chk 96 = true := by decide +kernel
theorem chk_97 : chk 97 = true := by decide +kernel
theorem chk_98 : chk 98 = true := by decide +kernel
theorem chk_99 : chk 99 = true := by decide +kernel
theorem chk_100 : chk 100 = true := by decide +kernel
theorem chk_101 : chk 101 = true := by decide +kernel
theorem upto_102_101 : allN chk 0 102 = true := rfl
theorem upto_101_101 : allN chk 1 101 = true := allN_step chk_101 upto_102_101
theorem upto_100_101 : allN chk 2 100 = true := allN_step chk_100 upto_101_101
theorem upto_99_101 : allN chk 3 99 = true := allN_step chk_99 upto_100_101
theorem upto_98_101 : allN chk 4 98 = true := allN_step chk_98 upto_99_101
theorem upto_97_101 : allN chk 5 97 = true := allN_step chk_97 upto_98_101
theorem upto_96_101 : allN chk 6 96 = true := allN_step chk_96 upto_97_101
theorem upto_95_101 : allN chk 7 95 = true := allN_step chk_95 upto_96_101
theorem upto_94_101 : allN chk 8 94 = true := allN_step chk_94 upto_95_101
theorem upto_93_101 : allN chk 9 93 = true := allN_step chk_93 upto_94_101
theorem upto_92_101 : allN chk 10 92 = true := allN_step chk_92 upto_93_101
theorem upto_91_101 : allN chk 11 91 = true := allN_step chk_91 upto_92_101
theorem upto_90_101 : allN chk 12 90 = true := allN_step chk_90 upto_91_101
theorem upto_89_101 : allN chk 13 89 = true := allN_step chk_89 upto_90_101
theorem upto_88_101 : allN chk 14 88 = true := allN_step chk_88 upto_89_101
theorem upto_87_101 : allN chk 15 87 = true := allN_step chk_87 upto_88_101
theorem upto_86_101 : allN chk 16 86 = true := allN_step chk_86 upto_87_101
theorem chk_103 : chk 103 = true := by decide +kernel
theorem chk_104 : chk 104 = true := by decide +kernel
theorem chk_105 : chk 105 = true := by decide +kernel
theorem chk_106 : chk 106 = true := by decide +kernel
theorem chk_107 : chk 107 = true := by decide +kernel
theorem chk_108 : chk 108 = true := by decide +kernel
theorem chk_109 : chk 109 = true := by decide +kernel
theorem chk_110 : chk 110 = true := by decide +kernel
theorem chk_111 : chk 111 = true := by decide +kernel
theorem chk_112 : chk 112 = true := by decide +kernel
theorem upto_113_112 : allN chk 0 113 = true := rfl
theorem upto_112_112 : allN chk 1 112 = true := allN_step chk_112 upto_113_112
theorem upto_111_112 : allN chk 2 111 = true := allN_step chk_111 upto_112_112
theorem upto_110_112 : allN chk 3 110 = true := allN_step chk_110 upto_111_112
theorem upto_109_112 : allN chk 4 109 = true := allN_step chk_109 upto_110_112
theorem upto_108_112 : allN chk 5 108 = true := allN_step chk_108 upto_109_112
theorem upto_107_112 : allN chk 6 107 = true := allN_step chk_107 upto_108_112
theorem upto_106_112 : allN chk 7 106 = true := allN_step chk_106 upto_107_112
theorem upto_105_112 : allN chk 8 105 = true := allN_step chk_105 upto_106_112
theorem upto_104_112 : allN chk 9 104 = true := allN_step chk_104 upto_105_112
theorem upto_103_112 : allN chk 10 103 = true := allN_step chk_103 upto_104_112
end Go.Proofs.Ytnliianjljgcbaa.Kern
