/- A sound taken by blocks and joined again: within 64, for all blocks of at most 160. No condition but the samples' bounds. -/
import Derived.Test.YtnliianjljgcbaaBackP
namespace Go.Proofs.Ytnliianjljgcbaa.Kern
open Go.RowKit Go.Proofs.YtnliianjljgcbaaW.PrintWords Go.Proofs.YtnliianjljgcbaaW.PrintLast Go.Proofs.YtnliianjljgcbaaW.PrintMore Go.Proofs.Ytnliianjljgcbaa.Core Go.Proofs.Ytnliianjljgcbaa.MA Go.Proofs.Ytnliianjljgcbaa.Base Go.Proofs.Ytnliianjljgcbaa.RefA Go.Proofs.Ytnliianjljgcbaa.Cos Go.Proofs.Ytnliianjljgcbaa.Win Go.Proofs.Ytnliianjljgcbaa.Shape Go.Proofs.Ytnliianjljgcbaa.Sines Go.Proofs.Ytnliianjljgcbaa.Shaped Go.Proofs.Ytnliianjljgcbaa.Dot Go.Proofs.Ytnliianjljgcbaa.Inv Go.Proofs.Ytnliianjljgcbaa.Sums Go.Proofs.Ytnliianjljgcbaa.JoinP
def Kc (n l z : Nat) : Prop := ∀ i, i < n → shapeP n l z i * Bs n l z i + shapeP n l z (n + i) * Bs n l z (n + i) ≤ 1653867351638016 * n
theorem Bs_pos {n l z : Nat} (hz : 2 * z + l = n) (hn : n ≤ 160) (j : Nat) : 0 ≤ Bs n l z j := by
  have h := S_bd (f := fun _ => 0) (b := fun m => (dev n j m : Int) * shapeP n l z m) (2 * n) 0 (fun m _ _ => by
    have := Int.mul_nonneg (a := (dev n j m : Int)) (b := shapeP n l z m) (by omega) (shapeP_in hz (by omega) m).1
    omega)
  rw [S_zero] at h
  exact h.2
theorem sh_sq {n l z i : Nat} (hz : 2 * z + l = n) (hn : n ≤ 160) (hp : pb l = true) (hi : i < n) :
    -210000 ≤ shapeP n l z i * shapeP n l z i + shapeP n l z (n + i) * shapeP n l z (n + i) - 1073741824 ∧ shapeP n l z i * shapeP n l z i + shapeP n l z (n + i) * shapeP n l z (n + i) - 1073741824 ≤ 210000 := by
  have h1 := sh_pb hz hp hi
  rw [shN_eq hz (by omega) (by omega), shN_eq hz (by omega) (by omega), ← Int.natCast_mul, ← Int.natCast_mul]
  have h2 := absN_le (shN n l z i * shN n l z i + shN n l z (n + i) * shN n l z (n + i)) 1073741824
  generalize absN (shN n l z i * shN n l z i + shN n l z (n + i) * shN n l z (n + i)) 1073741824 = q at *
  omega
theorem sq_le {s c : Int} (hc : 0 ≤ c) (h : s * s ≤ c * c) : s ≤ c := by
  rcases Int.lt_or_le c s with h1 | h1
  · have h2 : (c + 1) * (c + 1) ≤ s * s := Int.mul_le_mul (by omega) (by omega) (by omega) (by omega)
    have h3 : (c + 1) * (c + 1) = c * c + 2 * c + 1 := by grind
    omega
  · exact h1
/-- most blocks: by the rows alone -/
theorem Kc_of {n l z : Nat} (hz : 2 * z + l = n) (hn : n ≤ 160) (hp : pb l = true) (hc : chk n = true) : Kc n l z := by
  intro i hi
  have hr := row_at hc hi
  have hs := sh_sq hz hn hp hi
  have hu := shapeP_in hz (by omega) i
  have ht := shapeP_in hz (by omega) (n + i)
  have hB : ∀ j, Bs n l z j ≤ 32768 * (rowN n j : Int) := fun j => by
    have h := (S_bd (f := fun m => (dev n j m : Int) * shapeP n l z m) (b := fun m => 32768 * (dev n j m : Int)) (2 * n) 0 (fun m _ _ => by
      have hw := shapeP_in hz (by omega) m
      have h2 := abs_mul_le (a := (dev n j m : Int)) (A := (dev n j m : Int)) (by omega) (b := shapeP n l z m) (B := 32768) (by omega)
      omega)).2
    rw [S_mul] at h
    have e : ((rowN n j : Nat) : Int) = S (fun m => (dev n j m : Int)) (2 * n) 0 := by unfold rowN; rw [S_cast]; rfl
    rw [e]; exact h
  have b1 := Int.mul_le_mul_of_nonneg_left (hB i) hu.1
  have b2 := Int.mul_le_mul_of_nonneg_left (hB (n + i)) ht.1
  have hr' : (rowN n i : Int) * rowN n i + (rowN n (n + i) : Int) * rowN n (n + i) ≤ 32768 * n * (32768 * n) * 2209 := by
    have h := Int.ofNat_le.2 hr
    simp only [Int.natCast_add, Int.natCast_mul] at h
    exact h
  clear hr hB hc
  generalize shapeP n l z i = u at *
  generalize shapeP n l z (n + i) = t at *
  generalize Bs n l z i = B1 at *
  generalize Bs n l z (n + i) = B2 at *
  generalize ((rowN n i : Nat) : Int) = a at *
  generalize ((rowN n (n + i) : Nat) : Int) = c at *
  have e1 : (u * a + t * c) * (u * a + t * c) + (u * c - t * a) * (u * c - t * a) = (u * u + t * t) * (a * a + c * c) := by grind
  have e2 : 0 ≤ (u * c - t * a) * (u * c - t * a) := by
    rcases Int.le_total 0 (u * c - t * a) with h | h
    · exact Int.mul_nonneg h h
    · exact Int.mul_nonneg_of_nonpos_of_nonpos h h
  have e3 : (u * u + t * t) * (a * a + c * c) ≤ 1073951824 * (32768 * n * (32768 * n) * 2209) := by
    have q1 : 0 ≤ a * a + c * c := by
      have h1 : 0 ≤ a * a := by rcases Int.le_total 0 a with h | h; exact Int.mul_nonneg h h; exact Int.mul_nonneg_of_nonpos_of_nonpos h h
      have h2 : 0 ≤ c * c := by rcases Int.le_total 0 c with h | h; exact Int.mul_nonneg h h; exact Int.mul_nonneg_of_nonpos_of_nonpos h h
      omega
    exact Int.mul_le_mul (by omega) hr' q1 (by omega)
  have e4 : (1073951824 : Int) * (32768 * n * (32768 * n) * 2209) ≤ (32772 * 47 * (32768 * n)) * (32772 * 47 * (32768 * n)) := by
    have q : 0 ≤ (32768 * (n : Int)) * (32768 * n) := Int.mul_nonneg (by omega) (by omega)
    have q2 : (32772 * 47 * (32768 * (n : Int))) * (32772 * 47 * (32768 * n)) = 2372474800656 * ((32768 * (n : Int)) * (32768 * n)) := by grind
    omega
  have e5 := sq_le (s := u * a + t * c) (c := 32772 * 47 * (32768 * n)) (by omega) (by omega)
  rw [Int.mul_left_comm] at b1 b2
  generalize u * a = x1 at *
  generalize t * c = x2 at *
  omega
theorem idN_le (n j m : Nat) : idN n j m ≤ 3 := by
  unfold idN
  cases Nat.ble n j <;> cases Nat.beq j m <;> cases Nat.beq (Nat.add j m) (Nat.sub n 1) <;> cases Nat.beq (Nat.add j m) (Nat.sub (Nat.mul 3 n) 1) <;> decide
theorem dev_le {n : Nat} (h0 : 0 < n) (hn : n ≤ 160) (j m : Nat) : dev n j m ≤ 4398046511104 := by
  have e : dev n j m = absN (2 * dotN n j m + 3221225472 * n) (65536 * (Sm n j + Sm n m) + 1073741824 * n * idN n j m) := rfl
  have h1 : dotN n j m < 1099511627776 := Nat.mod_lt _ (by omega)
  have h2 : ∀ j, Sm n j ≤ n * 65536 := fun j => sm_le _ _ (fun k => dig_le h0 j k) n 0
  have h3 := idN_le n j m
  have h4 : 1073741824 * n * idN n j m ≤ 1073741824 * n * 3 := Nat.mul_le_mul_left _ h3
  have h5 := h2 j
  have h6 := h2 m
  have e2 : ∀ a b, absN a b = a - b + (b - a) := fun _ _ => rfl
  rw [e, e2]
  generalize 1073741824 * n * idN n j m = q at *
  omega
theorem rowW_eq {n l z : Nat} (hz : 2 * z + l = n) (h0 : 0 < n) (hn : n ≤ 160) (j : Nat) : ((rowW n l z j : Nat) : Int) = Bs n l z j := by
  obtain ⟨N, hN⟩ : ∃ N, 2 * n = N + 1 := ⟨2 * n - 1, by omega⟩
  have h := conv_digit (fun m => dev n j m) (fun m => shN n l z (2 * n - 1 - m)) 79228162514264337593543950336 4398046511104 N (fun k => dev_le h0 hn j k) (fun k => Nat.le_trans (shN_le hz (by omega) (by omega)) (by omega)) (by omega)
  have e : rowW n l z j = pk (fun m => dev n j m) 79228162514264337593543950336 (2 * n) 0 * pk (fun m => shN n l z (2 * n - 1 - m)) 79228162514264337593543950336 (2 * n) 0 / 79228162514264337593543950336 ^ (2 * n - 1) % 79228162514264337593543950336 := rfl
  rw [e, hN, Nat.add_sub_cancel]
  rw [hN, Nat.add_sub_cancel] at h
  rw [h, S_cast, ← hN]
  unfold Bs
  refine S_congr _ _ (fun m _ hm => ?_)
  rw [show N - (N - m) = m by omega, Int.natCast_mul, shN_eq hz (by omega) (by omega)]
theorem Kc_wide {n l z : Nat} (hz : 2 * z + l = n) (h0 : 0 < n) (hn : n ≤ 160) (hc : chkW n l z = true) : Kc n l z := by
  intro i hi
  have h := allN_at (fineW n l z) n 0 i hc (by omega) (by omega)
  have h2 : shN n l z i * rowW n l z i + shN n l z (n + i) * rowW n l z (n + i) ≤ 1653867351638016 * n := Nat.le_of_ble_eq_true h
  rw [shN_eq hz (by omega) (by omega), shN_eq hz (by omega) (by omega), ← rowW_eq hz h0 hn, ← rowW_eq hz h0 hn]
  have h3 := Int.ofNat_le.2 h2
  simp only [Int.natCast_add, Int.natCast_mul] at h3
  exact h3
end Go.Proofs.Ytnliianjljgcbaa.Kern
