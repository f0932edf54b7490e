/- A sound taken by blocks and joined again: what the program's plain forms come to. Condition: samples of 16 bits. -/
import Derived.Test.YtnliianjljgcbaaBackQ
import Derived.Test.YtnliianjljgcbaaChA
import Derived.Test.YtnliianjljgcbaaChB
import Derived.Test.YtnliianjljgcbaaChC
import Derived.Test.YtnliianjljgcbaaChD
import Derived.Test.YtnliianjljgcbaaChE
import Derived.Test.YtnliianjljgcbaaChF
import Derived.Test.YtnliianjljgcbaaChG
import Derived.Test.YtnliianjljgcbaaChW
namespace Go.Proofs.Ytnliianjljgcbaa.Kern
open Go.RowKit Go.Proofs.YtnliianjljgcbaaW.PrintWords Go.Proofs.YtnliianjljgcbaaW.PrintLast Go.Proofs.YtnliianjljgcbaaW.PrintMore Go.Proofs.Ytnliianjljgcbaa.Core Go.Proofs.Ytnliianjljgcbaa.MA Go.Proofs.Ytnliianjljgcbaa.Base Go.Proofs.Ytnliianjljgcbaa.RefA Go.Proofs.Ytnliianjljgcbaa.Cos Go.Proofs.Ytnliianjljgcbaa.Win Go.Proofs.Ytnliianjljgcbaa.Shape Go.Proofs.Ytnliianjljgcbaa.Sines Go.Proofs.Ytnliianjljgcbaa.Shaped Go.Proofs.Ytnliianjljgcbaa.Dot Go.Proofs.Ytnliianjljgcbaa.Inv Go.Proofs.Ytnliianjljgcbaa.Sums Go.Proofs.Ytnliianjljgcbaa.JoinP
theorem pb_all {l : Nat} (h1 : 2 ≤ l) (h2 : l ≤ 160) : pb l = true := by
  by_cases c1 : l < 61
  · exact allN_at pb 59 2 l pb_1 h1 (by omega)
  · by_cases c2 : l < 101
    · exact allN_at pb 40 61 l pb_2 (by omega) (by omega)
    · by_cases c3 : l < 131
      · exact allN_at pb 30 101 l pb_3 (by omega) (by omega)
      · exact allN_at pb 30 131 l pb_4 (by omega) (by omega)
theorem Kc_all {n l z : Nat} (hz : 2 * z + l = n) (h0 : 4 ≤ n) (hn : n ≤ 160) (hl : 2 ≤ l) : Kc n l z := by
  have hp := pb_all hl (by omega)
  have hm : ∀ d i, allN chk d i = true → i ≤ n → n < i + d → Kc n l z := fun d i h h1 h2 => Kc_of hz hn hp (allN_at chk d i n h h1 h2)
  by_cases c1 : n < 85
  · exact hm 81 4 upto_4_84 (by omega) (by omega)
  by_cases c2 : n = 85
  · subst c2
    obtain rfl : l = 85 - 2 * z := by omega
    exact Kc_wide hz (by omega) hn (allN_at (fun z => chkW 85 (85 - 2 * z) z) 42 0 z wide_85 (by omega) (by omega))
  by_cases c3 : n < 102
  · exact hm 16 86 upto_86_101 (by omega) (by omega)
  by_cases c4 : n = 102
  · subst c4
    obtain rfl : l = 102 - 2 * z := by omega
    exact Kc_wide hz (by omega) hn (allN_at (fun z => chkW 102 (102 - 2 * z) z) 51 0 z wide_102 (by omega) (by omega))
  by_cases c5 : n < 113
  · exact hm 10 103 upto_103_112 (by omega) (by omega)
  by_cases c6 : n < 127
  · exact hm 14 113 upto_113_126 (by omega) (by omega)
  by_cases c7 : n < 138
  · exact hm 11 127 upto_127_137 (by omega) (by omega)
  by_cases c8 : n < 147
  · exact hm 9 138 upto_138_146 (by omega) (by omega)
  by_cases c9 : n < 153
  · exact hm 6 147 upto_147_152 (by omega) (by omega)
  by_cases c10 : n = 153
  · subst c10
    obtain rfl : l = 153 - 2 * z := by omega
    exact Kc_wide hz (by omega) hn (allN_at (fun z => chkW 153 (153 - 2 * z) z) 76 0 z wide_153 (by omega) (by omega))
  exact hm 7 154 upto_154_160 (by omega) (by omega)
section
variable {n l z : Nat} (hz : 2 * z + l = n) (h0 : 4 ≤ n) (hn : n ≤ 160) (hl : 2 ≤ l)
include hz h0 hn hl
theorem back_fun (X1 X2 : Nat → Int) (h1 : ∀ m, m < 2 * n → -32768 ≤ X1 m ∧ X1 m ≤ 32768) (h2 : ∀ m, m < 2 * n → -32768 ≤ X2 m ∧ X2 m ≤ 32768) (h12 : ∀ m, m < n → X1 (n + m) = X2 m) (i : Nat) (hi : i < n) :
    -64 ≤ yF n l z X1 (n + i) + yF n l z X2 i - X2 i ∧ yF n l z X1 (n + i) + yF n l z X2 i - X2 i ≤ 64 := by
  have hK := Kc_all hz h0 hn hl i hi
  have hs := sh_sq hz hn (pb_all hl (by omega)) hi
  have hu := shapeP_in hz (by omega) i
  have ht := shapeP_in hz (by omega) (n + i)
  have c2 := core hz hn (by omega) h2 i
  have c1 := core hz hn (by omega) h1 (n + i)
  rw [Pj_low hi] at c2
  rw [Pj_high (by omega) (by omega), show 3 * n - 1 - (n + i) = 2 * n - 1 - i by omega] at c1
  have m1 : shapeP n l z (n + i) = shapeP n l z (n - 1 - i) := by
    have := shapeP_mirror (n := n) (l := l) (z := z) (p := n - 1 - i) hz (by omega)
    rw [this]; congr 1; omega
  have m2 : shapeP n l z (2 * n - 1 - i) = shapeP n l z i := (shapeP_mirror hz hi).symm
  have x1 : X1 (n + i) = X2 i := h12 i hi
  have x2 : X1 (2 * n - 1 - i) = X2 (n - 1 - i) := by rw [← h12 (n - 1 - i) (by omega)]; congr 1; omega
  have v1 := near (a := shapeP n l z i * X2 i) (b := 16384) (c := vF n l z X2 i) (by omega) rfl
  have v2 := near (a := shapeP n l z (n + i) * X2 (n - 1 - i)) (b := 16384) (c := vF n l z X2 (n - 1 - i)) (by omega) (by unfold vF; rw [m1]; rfl)
  have v3 := near (a := shapeP n l z (n + i) * X2 i) (b := 16384) (c := vF n l z X1 (n + i)) (by omega) (by unfold vF; rw [x1]; rfl)
  have v4 := near (a := shapeP n l z i * X2 (n - 1 - i)) (b := 16384) (c := vF n l z X1 (2 * n - 1 - i)) (by omega) (by unfold vF; rw [x2, m2]; rfl)
  have y1 := near (a := shapeP n l z i * dF n l z X2 i) (b := 16384) (c := yF n l z X2 i) (by omega) rfl
  have y2 := near (a := shapeP n l z (n + i) * dF n l z X1 (n + i)) (b := 16384) (c := yF n l z X1 (n + i)) (by omega) rfl
  have hx := h2 i (by omega)
  clear m1 m2 x1 x2 h1 h2 h12
  have hut : shapeP n l z i + shapeP n l z (n + i) ≤ 46346 := by
    generalize shapeP n l z i = u at *
    generalize shapeP n l z (n + i) = t at *
    have e1 : (u + t) * (u + t) + (u - t) * (u - t) = 2 * (u * u + t * t) := by grind
    have e2 : 0 ≤ (u - t) * (u - t) := by
      rcases Int.le_total 0 (u - t) with h | h
      · exact Int.mul_nonneg h h
      · exact Int.mul_nonneg_of_nonpos_of_nonpos h h
    refine sq_le (by omega) ?_
    omega
  have hE : -(1610612736 * (shapeP n l z i + shapeP n l z (n + i)) + 1653867351638016) ≤ 1073741824 * (shapeP n l z i * (dF n l z X2 i - (vF n l z X2 i - vF n l z X2 (n - 1 - i))) + shapeP n l z (n + i) * (dF n l z X1 (n + i) - (vF n l z X1 (n + i) + vF n l z X1 (2 * n - 1 - i)))) ∧
      1073741824 * (shapeP n l z i * (dF n l z X2 i - (vF n l z X2 i - vF n l z X2 (n - 1 - i))) + shapeP n l z (n + i) * (dF n l z X1 (n + i) - (vF n l z X1 (n + i) + vF n l z X1 (2 * n - 1 - i)))) ≤ 1610612736 * (shapeP n l z i + shapeP n l z (n + i)) + 1653867351638016 := by
    clear v1 v2 v3 v4 y1 y2 hx hs
    generalize vF n l z X2 i - vF n l z X2 (n - 1 - i) = P2 at *
    generalize vF n l z X1 (n + i) + vF n l z X1 (2 * n - 1 - i) = P1 at *
    generalize dF n l z X2 i = d2 at *
    generalize dF n l z X1 (n + i) = d1 at *
    generalize shapeP n l z i = u at *
    generalize shapeP n l z (n + i) = t at *
    generalize Bs n l z i = B2 at *
    generalize Bs n l z (n + i) = B1 at *
    have p2 := abs_mul_le (a := u) (A := u) (by omega) c2
    have p1 := abs_mul_le (a := t) (A := t) (by omega) c1
    have hN : (0 : Int) < n := by omega
    generalize (n : Int) = N at *
    have e : N * (1073741824 * (u * (d2 - P2) + t * (d1 - P1))) = u * (1073741824 * (N * d2) - 1073741824 * (N * P2)) + t * (1073741824 * (N * d1) - 1073741824 * (N * P1)) := by grind
    have e2 : u * (1610612736 * N + B2) + t * (1610612736 * N + B1) = N * (1610612736 * (u + t)) + (u * B2 + t * B1) := by grind
    have e3 : N * (1610612736 * (u + t) + 1653867351638016) = N * (1610612736 * (u + t)) + 1653867351638016 * N := by grind
    have e4 : N * -(1610612736 * (u + t) + 1653867351638016) = -(N * (1610612736 * (u + t)) + 1653867351638016 * N) := by rw [Int.mul_neg, e3]
    constructor
    · refine Int.le_of_mul_le_mul_left ?_ hN
      rw [e, e4]
      generalize N * (1610612736 * (u + t)) = w1 at *
      clear e e3 e4 c1 c2
      generalize u * (1073741824 * (N * d2) - 1073741824 * (N * P2)) = w2 at *
      generalize t * (1073741824 * (N * d1) - 1073741824 * (N * P1)) = w3 at *
      omega
    · refine Int.le_of_mul_le_mul_left ?_ hN
      rw [e, e3]
      generalize N * (1610612736 * (u + t)) = w1 at *
      clear e e3 e4 c1 c2
      generalize u * (1073741824 * (N * d2) - 1073741824 * (N * P2)) = w2 at *
      generalize t * (1073741824 * (N * d1) - 1073741824 * (N * P1)) = w3 at *
      omega
  exact arith _ _ _ _ _ _ _ _ _ _ _ _ hu.1 ht.1 hut hs hx v1 v2 v3 v4 hE y1 y2
end
end Go.Proofs.Ytnliianjljgcbaa.Kern
