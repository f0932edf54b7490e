/- What comes back of a sound, as the program's plain forms tell it. Condition: samples of 16 bits, blocks of at most 160. -/
import Derived.Test.YtnliianjljgcbaaBackR
namespace Go.Proofs.Ytnliianjljgcbaa.Kern
open Go.RowKit Go.Proofs.YtnliianjljgcbaaW.PrintWords Go.Proofs.YtnliianjljgcbaaW.PrintLast Go.Proofs.YtnliianjljgcbaaW.PrintMore Go.Proofs.Ytnliianjljgcbaa.Core Go.Proofs.Ytnliianjljgcbaa.MA Go.Proofs.Ytnliianjljgcbaa.Base Go.Proofs.Ytnliianjljgcbaa.RefA Go.Proofs.Ytnliianjljgcbaa.Cos Go.Proofs.Ytnliianjljgcbaa.Win Go.Proofs.Ytnliianjljgcbaa.Shape Go.Proofs.Ytnliianjljgcbaa.Sines Go.Proofs.Ytnliianjljgcbaa.Shaped Go.Proofs.Ytnliianjljgcbaa.Dot Go.Proofs.Ytnliianjljgcbaa.Inv Go.Proofs.Ytnliianjljgcbaa.Sums Go.Proofs.Ytnliianjljgcbaa.JoinP
theorem mul15 {a b : Int} (ha : -2147483648 ≤ a ∧ a ≤ 2147483648) (hb : -2147483648 ≤ b ∧ b ≤ 2147483648) : mulI a b 15 = (a * b + 16384) / 32768 := by
  unfold mulI
  have e1 : fac a = a := clamp_id (by omega) (by omega)
  have e2 : fac b = b := clamp_id (by omega) (by omega)
  rw [e1, e2]; rfl
theorem map_getD (f : Nat → Int) {d k : Nat} (h : k < d) : ((List.range d).map f).getD k 0 = f k := by
  rw [List.getD_eq_getElem?_getD, List.getElem?_map, List.getElem?_range h, Option.map_some, Option.getD_some]
theorem mod_in (a b s m : Nat) : (a + b * (s % m)) % m = (a + b * s) % m := by
  rw [Nat.add_mod, Nat.mul_mod, Nat.mod_mod, ← Nat.mul_mod, ← Nat.add_mod]
section
variable {n l z : Nat} (hz : 2 * z + l = n) (h0 : 4 ≤ n) (hn : n ≤ 160) (hl : 2 ≤ l) {xs : List Int} (hX : ∀ m, m < 2 * n → -32768 ≤ xs.getD m 0 ∧ xs.getD m 0 ≤ 32768)
include hz h0 hn hl hX
theorem vW_get {m : Nat} (hm : m < 2 * n) : (vW n l z xs).getD m 0 = vF n l z (fun m => xs.getD m 0) m := by
  unfold vW
  rw [map_getD _ hm, shapeN_get hz (by omega) hl]
  have hw := shapeP_in (n := n) (l := l) (z := z) hz (by omega) m
  have hx := hX m hm
  rw [clamp_id (by omega) (by omega), mul15 (by omega) (by omega)]
  rfl
omit hl in
theorem vF_abs {m : Nat} (hm : m < 2 * n) : -32768 ≤ vF n l z (fun m => xs.getD m 0) m ∧ vF n l z (fun m => xs.getD m 0) m ≤ 32768 := by
  have h1 := vF_in hz hn hX m hm
  have h2 := shapeP_in (n := n) (l := l) (z := z) hz (by omega) m
  omega
theorem vW_mem (a : Int) (ha : a ∈ vW n l z xs) : -32768 ≤ a ∧ a ≤ 32768 := by
  have e : vW n l z xs = (List.range (2 * n)).map (fun m => (vW n l z xs).getD m 0) := by
    apply List.ext_getElem?
    intro i
    have hlen : (vW n l z xs).length = 2 * n := by unfold vW; simp
    by_cases c : i < 2 * n
    · rw [List.getElem?_map, List.getElem?_range c, Option.map_some, List.getD_eq_getElem?_getD, List.getElem?_eq_getElem (by omega), Option.getD_some]
    · rw [List.getElem?_eq_none (by omega), List.getElem?_eq_none (by simp; omega)]
  rw [e] at ha
  obtain ⟨m, hm, rfl⟩ := List.mem_map.1 ha
  rw [List.mem_range] at hm
  rw [vW_get hz h0 hn hl hX hm]
  exact vF_abs hz h0 hn hX hm
theorem forwardP_eq {k : Nat} (hk : k < n) : forwardP n l z xs k = fF n l z (fun m => xs.getD m 0) k := by
  have hlen : (vW n l z xs).length = 2 * n := by unfold vW; simp
  unfold forwardP fF
  rw [dotW_eq (waveW n) (8 * n) (2 * (2 * k + 1)) 32768 4611686018427387904 (by omega) (by omega) (by omega) (wave_in n) _ _ _ (vW_mem hz h0 hn hl hX) (by rw [hlen]; omega) (by rw [hlen]; omega)]
  have h := dotE_sum (waveW n) (8 * n) (2 * (2 * k + 1)) ((1 + n) * (2 * k + 1)) (by omega) (vF n l z (fun m => xs.getD m 0)) (vW n l z xs) 0 (fun m hm => by rw [Nat.zero_add]; exact vW_get hz h0 hn hl hX (by omega))
  rw [show (1 + n) * (2 * k + 1) + 0 * (2 * (2 * k + 1)) = (1 + n) * (2 * k + 1) by rw [Nat.zero_mul, Nat.add_zero]] at h
  rw [h, hlen]
  congr 2
  refine S_congr _ _ (fun m _ _ => ?_)
  have e : (1 + n) * (2 * k + 1) + m * (2 * (2 * k + 1)) = (2 * m + 1 + n) * (2 * k + 1) := by generalize 2 * k + 1 = q; grind
  rw [e, waveW_get (Nat.mod_lt _ (by omega))]
  rfl
omit hl in
theorem fF_in (k : Nat) : -16777216 ≤ fF n l z (fun m => xs.getD m 0) k ∧ fF n l z (fun m => xs.getD m 0) k ≤ 16777216 := by
  have h := S_bd (f := fun m => vF n l z (fun m => xs.getD m 0) m * cw n m k) (b := fun _ => 1073741824) (2 * n) 0 (fun m _ hm => abs_mul_le (vF_abs hz h0 hn hX (by omega)) (cw_in n m k))
  rw [S_const] at h
  unfold fF
  generalize S (fun m => vF n l z (fun m => xs.getD m 0) m * cw n m k) (2 * n) 0 = s at *
  omega
theorem sumP_eq (j : Nat) : sumP n (forwardW n l z xs) j = S (fun k => fF n l z (fun m => xs.getD m 0) k * cw n j k) n 0 := by
  have hg : gW n (forwardW n l z xs) = (List.range n).map fun k => fF n l z (fun m => xs.getD m 0) k := by
    unfold gW
    refine List.map_congr_left (fun k hk => ?_)
    rw [List.mem_range] at hk
    have hb := fF_in hz h0 hn hX k
    unfold forwardW
    rw [map_getD _ hk, forwardP_eq hz h0 hn hl hX hk, clamp_id (by omega) (by omega)]
  unfold sumP
  have hlen : (gW n (forwardW n l z xs)).length = n := by unfold gW; simp
  rw [dotW_eq (waveW n) (8 * n) _ 16777216 4611686018427387904 (by omega) (by omega) (by omega) (wave_in n) _ _ _ (fun a ha => by
    rw [hg] at ha
    obtain ⟨k, hk, rfl⟩ := List.mem_map.1 ha
    exact fF_in hz h0 hn hX k) (by rw [hlen]; omega) (by rw [hlen]; omega), Int.zero_add]
  have h := dotE_sum (waveW n) (8 * n) (2 * (2 * j + 1 + n) % (8 * n)) (2 * j + 1 + n) (Nat.mod_lt _ (by omega)) (fF n l z (fun m => xs.getD m 0)) (gW n (forwardW n l z xs)) 0 (fun m hm => by rw [hlen] at hm; rw [Nat.zero_add, hg, map_getD _ hm])
  rw [show 2 * j + 1 + n + 0 * (2 * (2 * j + 1 + n) % (8 * n)) = 2 * j + 1 + n by rw [Nat.zero_mul, Nat.add_zero]] at h
  rw [h, hlen]
  refine S_congr _ _ (fun k _ _ => ?_)
  have e : 2 * j + 1 + n + k * (2 * (2 * j + 1 + n)) = (2 * j + 1 + n) * (2 * k + 1) := by generalize 2 * j + 1 + n = q; grind
  rw [mod_in, e, waveW_get (Nat.mod_lt _ (by omega))]
  rfl
theorem dF_in {j : Nat} (hj : j < 2 * n) (hw : shapeP n l z j ≠ 0) : -16777216 ≤ dF n l z (fun m => xs.getD m 0) j ∧ dF n l z (fun m => xs.getD m 0) j ≤ 16777216 := by
  have hwj := shapeP_in (n := n) (l := l) (z := z) hz (by omega) j
  have hb : Bs n l z j ≤ 1653867351638016 * n := by
    have h1 : Bs n l z j ≤ shapeP n l z j * Bs n l z j := by
      have := Int.mul_le_mul_of_nonneg_right (show (1 : Int) ≤ shapeP n l z j by omega) (Bs_pos hz hn j)
      omega
    by_cases c : j < n
    · have h2 := Kc_all hz h0 hn hl j c
      have h3 := Int.mul_nonneg (shapeP_in (n := n) (l := l) (z := z) hz (by omega) (n + j)).1 (Bs_pos hz hn (n + j))
      omega
    · have h2 := Kc_all hz h0 hn hl (j - n) (by omega)
      rw [show n + (j - n) = j by omega] at h2
      have h3 := Int.mul_nonneg (shapeP_in (n := n) (l := l) (z := z) hz (by omega) (j - n)).1 (Bs_pos hz hn (j - n))
      omega
  have hc := core hz hn (by omega) hX j
  have hp : -65536 ≤ Pj n l z (fun m => xs.getD m 0) j ∧ Pj n l z (fun m => xs.getD m 0) j ≤ 65536 := by
    by_cases c : j < n
    · rw [Pj_low c]
      have h1 := vF_abs hz h0 hn hX hj
      have h2 := vF_abs hz h0 hn hX (m := n - 1 - j) (by omega)
      omega
    · rw [Pj_high (by omega) hj]
      have h1 := vF_abs hz h0 hn hX hj
      have h2 := vF_abs hz h0 hn hX (m := 3 * n - 1 - j) (by omega)
      omega
  have hp2 := abs_mul_le (a := (n : Int)) (A := (n : Int)) (by omega) hp
  have hN : (0 : Int) < n := by omega
  constructor
  · refine Int.le_of_mul_le_mul_left (a := (n : Int)) ?_ hN
    generalize (n : Int) * dF n l z (fun m => xs.getD m 0) j = e at *
    generalize (n : Int) * Pj n l z (fun m => xs.getD m 0) j = p at *
    omega
  · refine Int.le_of_mul_le_mul_left (a := (n : Int)) ?_ hN
    generalize (n : Int) * dF n l z (fun m => xs.getD m 0) j = e at *
    generalize (n : Int) * Pj n l z (fun m => xs.getD m 0) j = p at *
    omega
theorem inverse_get {j : Nat} (hj : j < 2 * n) : (inverseW n l z (forwardW n l z xs)).getD j 0 = yF n l z (fun m => xs.getD m 0) j := by
  unfold inverseW
  rw [map_getD _ hj]
  unfold inverseP
  rw [sumP_eq hz h0 hn hl hX j, shapeN_get hz (by omega) hl]
  have hs := S_bd (f := fun k => fF n l z (fun m => xs.getD m 0) k * cw n j k) (b := fun _ => 549755813888) n 0 (fun k _ _ => abs_mul_le (fF_in hz h0 hn hX k) (cw_in n j k))
  rw [S_const] at hs
  have hw := shapeP_in (n := n) (l := l) (z := z) hz (by omega) j
  have hd := dF_in hz h0 hn hl hX hj
  unfold yF
  unfold dF at *
  generalize S (fun k => fF n l z (fun m => xs.getD m 0) k * cw n j k) n 0 = s at *
  have e1 : wrap64 (2 * s) = 2 * s := wrap_id (by omega) (by omega)
  rw [e1]
  clear e1
  have e2 : wrap64 (2 * s + 16384 * n) = 2 * s + 16384 * n := wrap_id (by omega) (by omega)
  rw [e2]
  clear e2
  rw [downI_eq (by omega) (by omega)]
  by_cases c : shapeP n l z j = 0
  · rw [c, Int.zero_mul]
    unfold mulI
    rw [show fac 0 = 0 from rfl, Int.zero_mul]
    rfl
  · have := hd c
    rw [clamp_id (by omega) (by omega), mul15 (by omega) (by omega)]
end
/-- what is joined is the sound, but for 64 -/
theorem back_lists {n l z : Nat} (hz : 2 * z + l = n) (h0 : 4 ≤ n) (hn : n ≤ 160) (hl : 2 ≤ l) {xs ys : List Int} (h1 : ∀ m, m < 2 * n → -32768 ≤ xs.getD m 0 ∧ xs.getD m 0 ≤ 32768)
    (h2 : ∀ m, m < 2 * n → -32768 ≤ ys.getD m 0 ∧ ys.getD m 0 ≤ 32768) (h12 : ∀ m, m < n → xs.getD (n + m) 0 = ys.getD m 0) {i : Nat} (hi : i < n) :
    -64 ≤ (joinW n ((inverseW n l z (forwardW n l z xs)).drop n) (inverseW n l z (forwardW n l z ys))).getD i 0 - ys.getD i 0 ∧
    (joinW n ((inverseW n l z (forwardW n l z xs)).drop n) (inverseW n l z (forwardW n l z ys))).getD i 0 - ys.getD i 0 ≤ 64 := by
  have h := back_fun hz h0 hn hl (fun m => xs.getD m 0) (fun m => ys.getD m 0) h1 h2 h12 i hi
  have hy := h2 i (by omega)
  unfold joinW
  rw [map_getD _ hi]
  have e : ((inverseW n l z (forwardW n l z xs)).drop n).getD i 0 = yF n l z (fun m => xs.getD m 0) (n + i) := by
    rw [List.getD_eq_getElem?_getD, List.getElem?_drop, ← List.getD_eq_getElem?_getD]
    exact inverse_get hz h0 hn hl h1 (by omega)
  rw [e, inverse_get hz h0 hn hl h2 (by omega)]
  clear e h1 h2 h12
  generalize yF n l z (fun m => xs.getD m 0) (n + i) = a at *
  generalize yF n l z (fun m => ys.getD m 0) i = b at *
  have h : -64 ≤ a + b - ys.getD i 0 ∧ a + b - ys.getD i 0 ≤ 64 := h
  rw [wrap_id (n := a + b) (by omega) (by omega), clamp_id (by omega) (by omega)]
  exact h
end Go.Proofs.Ytnliianjljgcbaa.Kern
