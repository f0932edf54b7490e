/- Rows of cosines are nearly at right angles: reckoned by the kernel, block by block. No condition. -/
import Derived.Test.YtnliianjljgcbaaKern
namespace Go.Proofs.Ytnliianjljgcbaa.Kern
theorem chk_4 : chk 4 = true := by decide +kernel
theorem chk_5 : chk 5 = true := by decide +kernel
theorem chk_6 : chk 6 = true := by decide +kernel
theorem chk_7 : chk 7 = true := by decide +kernel
theorem chk_8 : chk 8 = true := by decide +kernel
theorem chk_9 : chk 9 = true := by decide +kernel
theorem chk_10 : chk 10 = true := by decide +kernel
theorem chk_11 : chk 11 = true := by decide +kernel
theorem chk_12 : chk 12 = true := by decide +kernel
theorem chk_13 : chk 13 = true := by decide +kernel
theorem chk_14 : chk 14 = true := by decide +kernel
theorem chk_15 : chk 15 = true := by decide +kernel
theorem chk_16 : chk 16 = true := by decide +kernel
theorem chk_17 : chk 17 = true := by decide +kernel
theorem chk_18 : chk 18 = true := by decide +kernel
theorem chk_19 : chk 19 = true := by decide +kernel
theorem chk_20 : chk 20 = true := by decide +kernel
theorem chk_21 : chk 21 = true := by decide +kernel
theorem chk_22 : chk 22 = true := by decide +kernel
theorem chk_23 : chk 23 = true := by decide +kernel
theorem chk_24 : chk 24 = true := by decide +kernel
theorem chk_25 : chk 25 = true := by decide +kernel
theorem chk_26 : chk 26 = true := by decide +kernel
theorem chk_27 : chk 27 = true := by decide +kernel
theorem chk_28 : chk 28 = true := by decide +kernel
theorem chk_29 : chk 29 = true := by decide +kernel
theorem chk_30 : chk 30 = true := by decide +kernel
theorem chk_31 : chk 31 = true := by decide +kernel
theorem chk_32 : chk 32 = true := by decide +kernel
theorem chk_33 : chk 33 = true := by decide +kernel
theorem chk_34 : chk 34 = true := by decide +kernel
theorem chk_35 : chk 35 = true := by decide +kernel
theorem chk_36 : chk 36 = true := by decide +kernel
theorem chk_37 : chk 37 = true := by decide +kernel
theorem chk_38 : chk 38 = true := by decide +kernel
theorem chk_39 : chk 39 = true := by decide +kernel
theorem chk_40 : chk 40 = true := by decide +kernel
theorem chk_41 : chk 41 = true := by decide +kernel
theorem chk_42 : chk 42 = true := by decide +kernel
theorem chk_43 : chk 43 = true := by decide +kernel
theorem chk_44 : chk 44 = true := by decide +kernel
theorem chk_45 : chk 45 = true := by decide +kernel
theorem chk_46 : chk 46 = true := by decide +kernel
theorem chk_47 : chk 47 = true := by decide +kernel
theorem chk_48 : chk 48 = true := by decide +kernel
theorem chk_49 : chk 49 = true := by decide +kernel
theorem chk_50 : chk 50 = true := by decide +kernel
theorem chk_51 : chk 51 = true := by decide +kernel
theorem chk_52 : chk 52 = true := by decide +kernel
theorem chk_53 : chk 53 = true := by decide +kernel
theorem chk_54 : chk 54 = true := by decide +kernel
theorem chk_55 : chk 55 = true := by decide +kernel
theorem chk_56 : chk 56 = true := by decide +kernel
theorem chk_57 : chk 57 = true := by decide +kernel
theorem chk_58 : chk 58 = true := by decide +kernel
theorem chk_59 : chk 59 = true := by decide +kernel
theorem chk_60 : chk 60 = true := by decide +kernel
theorem chk_61 : chk 61 = true := by decide +kernel
theorem chk_62 : chk 62 = true := by decide +kernel
theorem chk_63 : chk 63 = true := by decide +kernel
theorem chk_64 : chk 64 = true := by decide +kernel
theorem chk_65 : chk 65 = true := by decide +kernel
theorem chk_66 : chk 66 = true := by decide +kernel
theorem chk_67 : chk 67 = true := by decide +kernel
theorem chk_68 : chk 68 = true := by decide +kernel
theorem chk_69 : chk 69 = true := by decide +kernel
theorem chk_70 : chk 70 = true := by decide +kernel
theorem chk_71 : chk 71 = true := by decide +kernel
theorem chk_72 : chk 72 = true := by decide +kernel
theorem chk_73 : chk 73 = true := by decide +kernel
theorem chk_74 : chk 74 = true := by decide +kernel
theorem chk_75 : chk 75 = true := by decide +kernel
theorem chk_76 : chk 76 = true := by decide +kernel
theorem chk_77 : chk 77 = true := by decide +kernel
theorem chk_78 : chk 78 = true := by decide +kernel
theorem chk_79 : chk 79 = true := by decide +kernel
theorem chk_80 : chk 80 = true := by decide +kernel
theorem chk_81 : chk 81 = true := by decide +kernel
theorem chk_82 : chk 82 = true := by decide +kernel
theorem chk_83 : chk 83 = true := by decide +kernel
theorem chk_84 : chk 84 = true := by decide +kernel
theorem upto_85_84 : allN chk 0 85 = true := rfl
theorem upto_84_84 : allN chk 1 84 = true := allN_step chk_84 upto_85_84
theorem upto_83_84 : allN chk 2 83 = true := allN_step chk_83 upto_84_84
theorem upto_82_84 : allN chk 3 82 = true := allN_step chk_82 upto_83_84
theorem upto_81_84 : allN chk 4 81 = true := allN_step chk_81 upto_82_84
theorem upto_80_84 : allN chk 5 80 = true := allN_step chk_80 upto_81_84
theorem upto_79_84 : allN chk 6 79 = true := allN_step chk_79 upto_80_84
theorem upto_78_84 : allN chk 7 78 = true := allN_step chk_78 upto_79_84
theorem upto_77_84 : allN chk 8 77 = true := allN_step chk_77 upto_78_84
theorem upto_76_84 : allN chk 9 76 = true := allN_step chk_76 upto_77_84
theorem upto_75_84 : allN chk 10 75 = true := allN_step chk_75 upto_76_84
theorem upto_74_84 : allN chk 11 74 = true := allN_step chk_74 upto_75_84
theorem upto_73_84 : allN chk 12 73 = true := allN_step chk_73 upto_74_84
theorem upto_72_84 : allN chk 13 72 = true := allN_step chk_72 upto_73_84
theorem upto_71_84 : allN chk 14 71 = true := allN_step chk_71 upto_72_84
theorem upto_70_84 : allN chk 15 70 = true := allN_step chk_70 upto_71_84
theorem upto_69_84 : allN chk 16 69 = true := allN_step chk_69 upto_70_84
theorem upto_68_84 : allN chk 17 68 = true := allN_step chk_68 upto_69_84
theorem upto_67_84 : allN chk 18 67 = true := allN_step chk_67 upto_68_84
theorem upto_66_84 : allN chk 19 66 = true := allN_step chk_66 upto_67_84
theorem upto_65_84 : allN chk 20 65 = true := allN_step chk_65 upto_66_84
theorem upto_64_84 : allN chk 21 64 = true := allN_step chk_64 upto_65_84
theorem upto_63_84 : allN chk 22 63 = true := allN_step chk_63 upto_64_84
theorem upto_62_84 : allN chk 23 62 = true := allN_step chk_62 upto_63_84
theorem upto_61_84 : allN chk 24 61 = true := allN_step chk_61 upto_62_84
theorem upto_60_84 : allN chk 25 60 = true := allN_step chk_60 upto_61_84
theorem upto_59_84 : allN chk 26 59 = true := allN_step chk_59 upto_60_84
theorem upto_58_84 : allN chk 27 58 = true := allN_step chk_58 upto_59_84
theorem upto_57_84 : allN chk 28 57 = true := allN_step chk_57 upto_58_84
theorem upto_56_84 : allN chk 29 56 = true := allN_step chk_56 upto_57_84
theorem upto_55_84 : allN chk 30 55 = true := allN_step chk_55 upto_56_84
theorem upto_54_84 : allN chk 31 54 = true := allN_step chk_54 upto_55_84
theorem upto_53_84 : allN chk 32 53 = true := allN_step chk_53 upto_54_84
theorem upto_52_84 : allN chk 33 52 = true := allN_step chk_52 upto_53_84
theorem upto_51_84 : allN chk 34 51 = true := allN_step chk_51 upto_52_84
theorem upto_50_84 : allN chk 35 50 = true := allN_step chk_50 upto_51_84
theorem upto_49_84 : allN chk 36 49 = true := allN_step chk_49 upto_50_84
theorem upto_48_84 : allN chk 37 48 = true := allN_step chk_48 upto_49_84
theorem upto_47_84 : allN chk 38 47 = true := allN_step chk_47 upto_48_84
theorem upto_46_84 : allN chk 39 46 = true := allN_step chk_46 upto_47_84
theorem upto_45_84 : allN chk 40 45 = true := allN_step chk_45 upto_46_84
theorem upto_44_84 : allN chk 41 44 = true := allN_step chk_44 upto_45_84
theorem upto_43_84 : allN chk 42 43 = true := allN_step chk_43 upto_44_84
theorem upto_42_84 : allN chk 43 42 = true := allN_step chk_42 upto_43_84
theorem upto_41_84 : allN chk 44 41 = true := allN_step chk_41 upto_42_84
theorem upto_40_84 : allN chk 45 40 = true := allN_step chk_40 upto_41_84
theorem upto_39_84 : allN chk 46 39 = true := allN_step chk_39 upto_40_84
theorem upto_38_84 : allN chk 47 38 = true := allN_step chk_38 upto_39_84
theorem upto_37_84 : allN chk 48 37 = true := allN_step chk_37 upto_38_84
theorem upto_36_84 : allN chk 49 36 = true := allN_step chk_36 upto_37_84
theorem upto_35_84 : allN chk 50 35 = true := allN_step chk_35 upto_36_84
theorem upto_34_84 : allN chk 51 34 = true := allN_step chk_34 upto_35_84
theorem upto_33_84 : allN chk 52 33 = true := allN_step chk_33 upto_34_84
theorem upto_32_84 : allN chk 53 32 = true := allN_step chk_32 upto_33_84
theorem upto_31_84 : allN chk 54 31 = true := allN_step chk_31 upto_32_84
theorem upto_30_84 : allN chk 55 30 = true := allN_step chk_30 upto_31_84
theorem upto_29_84 : allN chk 56 29 = true := allN_step chk_29 upto_30_84
theorem upto_28_84 : allN chk 57 28 = true := allN_step chk_28 upto_29_84
theorem upto_27_84 : allN chk 58 27 = true := allN_step chk_27 upto_28_84
theorem upto_26_84 : allN chk 59 26 = true := allN_step chk_26 upto_27_84
theorem upto_25_84 : allN chk 60 25 = true := allN_step chk_25 upto_26_84
theorem upto_24_84 : allN chk 61 24 = true := allN_step chk_24 upto_25_84
theorem upto_23_84 : allN chk 62 23 = true := allN_step chk_23 upto_24_84
theorem upto_22_84 : allN chk 63 22 = true := allN_step chk_22 upto_23_84
theorem upto_21_84 : allN chk 64 21 = true := allN_step chk_21 upto_22_84
theorem upto_20_84 : allN chk 65 20 = true := allN_step chk_20 upto_21_84
theorem upto_19_84 : allN chk 66 19 = true := allN_step chk_19 upto_20_84
theorem upto_18_84 : allN chk 67 18 = true := allN_step chk_18 upto_19_84
theorem upto_17_84 : allN chk 68 17 = true := allN_step chk_17 upto_18_84
theorem upto_16_84 : allN chk 69 16 = true := allN_step chk_16 upto_17_84
theorem upto_15_84 : allN chk 70 15 = true := allN_step chk_15 upto_16_84
theorem upto_14_84 : allN chk 71 14 = true := allN_step chk_14 upto_15_84
theorem upto_13_84 : allN chk 72 13 = true := allN_step chk_13 upto_14_84
theorem upto_12_84 : allN chk 73 12 = true := allN_step chk_12 upto_13_84
theorem upto_11_84 : allN chk 74 11 = true := allN_step chk_11 upto_12_84
theorem upto_10_84 : allN chk 75 10 = true := allN_step chk_10 upto_11_84
theorem upto_9_84 : allN chk 76 9 = true := allN_step chk_9 upto_10_84
theorem upto_8_84 : allN chk 77 8 = true := allN_step chk_8 upto_9_84
theorem upto_7_84 : allN chk 78 7 = true := allN_step chk_7 upto_8_84
theorem upto_6_84 : allN chk 79 6 = true := allN_step chk_6 upto_7_84
theorem upto_5_84 : allN chk 80 5 = true := allN_step chk_5 upto_6_84
theorem upto_4_84 : allN chk 81 4 = true := allN_step chk_4 upto_5_84
end Go.Proofs.Ytnliianjljgcbaa.Kern
