/- The checks' numbers are the program's: windows, shapes, rows of cosines. Condition: blocks of at most 160. -/
import Derived.Test.YtnliianjljgcbaaSumI
namespace Go.Proofs.Ytnliianjljgcbaa.Kern
open Go.RowKit Go.Proofs.YtnliianjljgcbaaW.PrintWords Go.Proofs.YtnliianjljgcbaaW.PrintLast Go.Proofs.YtnliianjljgcbaaW.PrintMore Go.Proofs.Ytnliianjljgcbaa.Core Go.Proofs.Ytnliianjljgcbaa.MA Go.Proofs.Ytnliianjljgcbaa.Base Go.Proofs.Ytnliianjljgcbaa.RefA Go.Proofs.Ytnliianjljgcbaa.Cos Go.Proofs.Ytnliianjljgcbaa.Win Go.Proofs.Ytnliianjljgcbaa.Shape Go.Proofs.Ytnliianjljgcbaa.Sines Go.Proofs.Ytnliianjljgcbaa.Shaped Go.Proofs.Ytnliianjljgcbaa.Dot Go.Proofs.Ytnliianjljgcbaa.Inv Go.Proofs.Ytnliianjljgcbaa.Sums
theorem sin_eq (a : Nat) (h : a ≤ 16384) : sinW (a : Int) = (qN (16384 - a) : Int) := by
  unfold sinW cosW
  simp only [and_mask]
  rw [wrap_id (n := (a : Int) % 65536 - 16384) (by omega) (by omega)]
  by_cases c : ((a : Int) % 65536 - 16384) % 65536 > 32768
  · rw [if_pos c, wrap_id (n := 65536 - ((a : Int) % 65536 - 16384) % 65536) (by omega) (by omega)]
    unfold cosT
    rw [if_neg (by omega), show (65536 : Int) - ((a : Int) % 65536 - 16384) % 65536 = ((16384 - a : Nat) : Int) by omega]
    exact qN_eq _ (by omega)
  · rw [if_neg c]
    unfold cosT
    rw [if_neg (by omega), show ((a : Int) % 65536 - 16384) % 65536 = ((16384 - a : Nat) : Int) by omega]
    exact qN_eq _ (by omega)
theorem wA_eq {l i : Nat} (hl : l ≤ 480) (hi : i < l) : winA l i = (wA l i : Int) := by
  unfold winA
  have e1 : wrap64 (2 * (i : Int)) = 2 * i := wrap_id (by omega) (by omega)
  have e2 : wrap64 (2 * (i : Int) + 1) = 2 * i + 1 := wrap_id (by omega) (by omega)
  have e3 : wrap64 ((2 * (i : Int) + 1) * 16384) = (2 * i + 1) * 16384 := wrap_id (by omega) (by omega)
  rw [e1, e2, e3]
  clear e1 e2 e3
  have hd : (2 * i + 1) * 16384 / l < 2 * 16384 := Nat.div_lt_of_lt_mul (by omega)
  rw [Int.tdiv_eq_ediv_of_nonneg (a := (2 * (i : Int) + 1) * 16384) (by omega)]
  have ec : (2 * (i : Int) + 1) * 16384 / l = (((2 * i + 1) * 16384 / l : Nat) : Int) := by rw [Int.natCast_ediv, Int.natCast_mul, Int.natCast_add, Int.natCast_mul]; rfl
  have ew : wA l i = qN (16384 - ((2 * i + 1) * 16384 / l + 1) / 2) := rfl
  rw [ec, ew]
  clear ec ew
  generalize (2 * i + 1) * 16384 / l = q at *
  have e4 : wrap64 (q : Int) = q := wrap_id (by omega) (by omega)
  have e5 : wrap64 ((q : Int) + 1) = q + 1 := wrap_id (by omega) (by omega)
  rw [e4, e5, Int.tdiv_eq_ediv_of_nonneg (by omega)]
  have e6 : wrap64 (((q : Int) + 1) / 2) = (((q + 1) / 2 : Nat) : Int) := by rw [wrap_id (by omega) (by omega)]; omega
  rw [e6]
  exact sin_eq _ (by omega)
theorem wA_le {l i : Nat} (hl : l ≤ 480) (hi : i < l) : wA l i ≤ 32768 := by
  have := winA_in hl hi
  rw [wA_eq hl hi] at this; omega
theorem wN_eq {l i : Nat} (hl : l ≤ 480) (hi : i < l) : winW l i = (wN l i : Int) := by
  unfold winW
  have ha := wA_le hl hi
  rw [wA_eq hl hi]
  have ew : wN l i = qN (16384 - ((wA l i * wA l i + 16384) / 32768 + 1) / 2) := rfl
  rw [ew]
  clear ew
  generalize wA l i = a at *
  have em : mulI (a : Int) (a : Int) 15 = (((a * a + 16384) / 32768 : Nat) : Int) := mulI_nat a a 15 (by omega) (by omega)
  have hm : (a * a + 16384) / 32768 ≤ 32768 := by have := Nat.mul_le_mul ha ha; omega
  rw [em]
  generalize (a * a + 16384) / 32768 = q at *
  have e5 : wrap64 ((q : Int) + 1) = q + 1 := wrap_id (by omega) (by omega)
  rw [e5, Int.tdiv_eq_ediv_of_nonneg (by omega), wrap_id (by omega) (by omega), show ((q : Int) + 1) / 2 = (((q + 1) / 2 : Nat) : Int) by omega]
  exact sin_eq _ (by omega)
theorem wN_le {l i : Nat} (hl : l ≤ 480) (hi : i < l) : wN l i ≤ 32768 := by
  have := winW_in hl hi
  rw [wN_eq hl hi] at this; omega
theorem shN_eq {n l z p : Nat} (hz : 2 * z + l = n) (hn : n ≤ 480) (hp : p < 2 * n) : shapeP n l z p = (shN n l z p : Int) := by
  obtain ⟨q, hq⟩ : ∃ q, q = (if n ≤ p then 2 * n - 1 - p else p) := ⟨_, rfl⟩
  have hqn : q < n := by rw [hq]; split <;> omega
  have e : shN n l z p = (bif Nat.ble (z + l) q then 32768 else bif Nat.ble z q then wN l (q - z) else 0) := by
    have e0 : (bif Nat.ble n p then Nat.sub (Nat.sub (Nat.mul 2 n) 1) p else p) = q := by
      rw [hq]
      by_cases c : n ≤ p
      · rw [bleT c, cond_true, if_pos c]; rfl
      · rw [bleF c, cond_false, if_neg c]
    unfold shN
    rw [e0]
    rfl
  have e2 : shapeP n l z p = shapeP n l z q := by
    by_cases c : n ≤ p
    · rw [if_pos c] at hq
      have := shapeP_mirror (n := n) (l := l) (z := z) (p := q) hz hqn
      rw [this]; congr 1; omega
    · rw [if_neg c] at hq
      rw [hq]
  rw [e2, e]
  unfold shapeP
  by_cases c1 : z + l ≤ q
  · rw [if_pos (by omega), bleT c1, cond_true]; rfl
  · rw [if_neg (by omega), bleF c1, cond_false]
    by_cases c2 : z ≤ q
    · rw [if_pos (by omega), bleT c2, cond_true]
      exact wN_eq (by omega) (by omega)
    · rw [if_neg (by omega), if_neg (by omega), bleF c2, cond_false]; rfl
theorem shN_le {n l z p : Nat} (hz : 2 * z + l = n) (hn : n ≤ 480) (hp : p < 2 * n) : shN n l z p ≤ 32768 := by
  have := shapeP_in hz hn p
  rw [shN_eq hz hn hp] at this; omega
theorem absN_le (a b : Nat) : (a : Int) - b ≤ absN a b ∧ (b : Int) - a ≤ absN a b := by
  have e : absN a b = a - b + (b - a) := rfl
  omega
/-- the windows' squares -/
theorem pb_at {l i : Nat} (h : pb l = true) (hi : i < l) : absN (wN l i * wN l i + wN l (l - 1 - i) * wN l (l - 1 - i)) 1073741824 ≤ 210000 := by
  have := allN_at (pbN l) l 0 i h (by omega) (by omega)
  exact Nat.le_of_ble_eq_true this
theorem sh_pb {n l z i : Nat} (hz : 2 * z + l = n) (h : pb l = true) (hi : i < n) : absN (shN n l z i * shN n l z i + shN n l z (n + i) * shN n l z (n + i)) 1073741824 ≤ 210000 := by
  have e1 : shN n l z i = (bif Nat.ble (z + l) i then 32768 else bif Nat.ble z i then wN l (i - z) else 0) := by
    unfold shN
    rw [bleF (show ¬ n ≤ i by omega)]
    rfl
  have e2 : shN n l z (n + i) = (bif Nat.ble (z + l) (n - 1 - i) then 32768 else bif Nat.ble z (n - 1 - i) then wN l (n - 1 - i - z) else 0) := by
    have e0 : Nat.sub (Nat.sub (Nat.mul 2 n) 1) (n + i) = n - 1 - i := by show 2 * n - 1 - (n + i) = _; omega
    unfold shN
    rw [bleT (show n ≤ n + i by omega), cond_true, e0]
    rfl
  rw [e1, e2]
  by_cases c1 : z + l ≤ i
  · rw [bleT c1, cond_true, bleF (show ¬ z + l ≤ n - 1 - i by omega), bleF (show ¬ z ≤ n - 1 - i by omega), cond_false, cond_false]
    decide
  · by_cases c2 : z ≤ i
    · rw [bleF c1, bleT c2, bleF (show ¬ z + l ≤ n - 1 - i by omega), bleT (show z ≤ n - 1 - i by omega), cond_false, cond_true, cond_false, cond_true]
      have := pb_at (i := i - z) h (by omega)
      rw [show l - 1 - (i - z) = n - 1 - i - z by omega] at this
      exact this
    · rw [bleF c1, bleF c2, bleT (show z + l ≤ n - 1 - i by omega), cond_false, cond_false, cond_true]
      decide
/-- how far rows are from right angles -/
def dl (n j m : Nat) : Int := 2 * S (fun k => cw n j k * cw n m k) n 0 - 1073741824 * n * ((idN n j m : Int) - 1)
theorem dev_dl {n : Nat} (hn : 0 < n) (h : n ≤ 160) (j m : Nat) : -(dev n j m : Int) ≤ dl n j m ∧ dl n j m ≤ dev n j m := by
  have h1 : ((dotN n j m : Nat) : Int) = S (fun k => cw n j k * cw n m k) n 0 + 32768 * S (fun k => cw n j k) n 0 + 32768 * S (fun k => cw n m k) n 0 + n * 1073741824 := by
    rw [dotN_eq hn h, S_cast]
    rw [S_congr (g := fun k => ((cw n j k * cw n m k + 32768 * cw n j k) + 32768 * cw n m k) + 1073741824) n 0 (fun k _ hk => by
      rw [Int.natCast_mul, show n - 1 - (n - 1 - k) = k by omega, dig_at hn, dig_at hn]
      generalize cw n j k = a; generalize cw n m k = b
      grind)]
    rw [S_add, S_add, S_add, S_mul, S_mul, S_const]
  have h2 : ∀ j, ((Sm n j : Nat) : Int) = S (fun k => cw n j k) n 0 + n * 32768 := fun j => by
    unfold Sm
    rw [S_cast, S_congr (g := fun k => cw n j k + 32768) n 0 (fun k _ _ => dig_at hn j k), S_add, S_const]
  have h3 := absN_le (2 * dotN n j m + 3221225472 * n) (65536 * (Sm n j + Sm n m) + 1073741824 * n * idN n j m)
  have e : dev n j m = absN (2 * dotN n j m + 3221225472 * n) (65536 * (Sm n j + Sm n m) + 1073741824 * n * idN n j m) := rfl
  rw [← e, Int.natCast_add, Int.natCast_add, Int.natCast_mul, Int.natCast_mul, Int.natCast_mul, Int.natCast_mul, Int.natCast_mul, Int.natCast_add, h1, h2 j, h2 m] at h3
  unfold dl
  rw [Int.mul_sub]
  clear e h1 h2
  generalize S (fun k => cw n j k * cw n m k) n 0 = H at *
  generalize S (fun k => cw n j k) n 0 = A at *
  generalize S (fun k => cw n m k) n 0 = B at *
  have e2 : ((1073741824 : Nat) : Int) * (n : Int) * ((idN n j m : Nat) : Int) = 1073741824 * n * (idN n j m : Int) := rfl
  rw [e2] at h3
  generalize 1073741824 * (n : Int) * ((idN n j m : Nat) : Int) = q at *
  omega
theorem row_at {n i : Nat} (h : chk n = true) (hi : i < n) : rowN n i * rowN n i + rowN n (n + i) * rowN n (n + i) ≤ 32768 * n * (32768 * n) * 2209 := by
  have := allN_at (fine n) n 0 i h (by omega) (by omega)
  exact Nat.le_of_ble_eq_true this
end Go.Proofs.Ytnliianjljgcbaa.Kern
