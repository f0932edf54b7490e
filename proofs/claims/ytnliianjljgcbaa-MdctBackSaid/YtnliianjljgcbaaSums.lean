/- Sums of products along a table are exact, and go with their signs. Condition: bounds that keep the sums small. -/
import Derived.Test.YtnliianjljgcbaaInv
import Derived.Test.YtnliianjljgcbaaShaped
namespace Go.Proofs.Ytnliianjljgcbaa.Sums
open Go.RowKit Go.Proofs.YtnliianjljgcbaaW.PrintWords Go.Proofs.YtnliianjljgcbaaW.PrintLast Go.Proofs.YtnliianjljgcbaaW.PrintMore Go.Proofs.Ytnliianjljgcbaa.Core Go.Proofs.Ytnliianjljgcbaa.MA Go.Proofs.Ytnliianjljgcbaa.Base Go.Proofs.Ytnliianjljgcbaa.RefA Go.Proofs.Ytnliianjljgcbaa.Cos Go.Proofs.Ytnliianjljgcbaa.Win Go.Proofs.Ytnliianjljgcbaa.Shape Go.Proofs.Ytnliianjljgcbaa.Sines Go.Proofs.Ytnliianjljgcbaa.Shaped Go.Proofs.Ytnliianjljgcbaa.Dot Go.Proofs.Ytnliianjljgcbaa.Inv

theorem cosT_in {c : Int} (h0 : 0 ≤ c) (h1 : c ≤ 32768) : -32768 ≤ cosT c ∧ cosT c ≤ 32768 := by
  unfold cosT
  by_cases h : c > 16384
  · rw [if_pos h, wrap_id (n := 32768 - c) (by omega) (by omega)]
    have := quarter_in (v := 32768 - c) (by omega) (by omega)
    rw [wrap_id (by omega) (by omega)]; omega
  · rw [if_neg h]
    have := quarter_in (v := c) (by omega) (by omega)
    omega

theorem cos_in (a : Int) : -32768 ≤ cosW a ∧ cosW a ≤ 32768 := by
  unfold cosW
  simp only [and_mask]
  by_cases h : a % 65536 > 32768
  · rw [if_pos h, wrap_id (n := 65536 - a % 65536) (by omega) (by omega)]
    exact cosT_in (by omega) (by omega)
  · rw [if_neg h]
    exact cosT_in (by omega) (by omega)

theorem waveW_get {n p : Nat} (hp : p < 8 * n) : (waveW n).getD p 0 = waveP n p := by
  unfold waveW
  rw [List.getD_eq_getElem?_getD, List.getElem?_map, List.getElem?_range hp, Option.map_some, Option.getD_some]

theorem wave_in (n p : Nat) : -32768 ≤ (waveW n).getD p 0 ∧ (waveW n).getD p 0 ≤ 32768 := by
  by_cases hp : p < 8 * n
  · rw [waveW_get hp]; exact cos_in _
  · rw [List.getD_eq_getElem?_getD, List.getElem?_eq_none (by rw [waveW_length]; omega)]
    exact ⟨by decide, by decide⟩

/-- the sum alone -/
def dotE (t : List Int) (m step : Nat) : List Int → Nat → Int
  | [], _ => 0
  | a :: cs, p => a * t.getD p 0 + dotE t m step cs (if m ≤ p + step then p + step - m else p + step)

theorem dotE_in (t : List Int) (m step : Nat) (A : Int) (ht : ∀ p, -32768 ≤ t.getD p 0 ∧ t.getD p 0 ≤ 32768) : ∀ (l : List Int) (p : Nat), (∀ a ∈ l, -A ≤ a ∧ a ≤ A) → -(A * 32768 * l.length) ≤ dotE t m step l p ∧ dotE t m step l p ≤ A * 32768 * l.length
  | [], p, _ => by simp [dotE]
  | a :: cs, p, h => by
    have h1 := mul_le_of (h a (by simp)) (ht p)
    have h2 := dotE_in t m step A ht cs (if m ≤ p + step then p + step - m else p + step) (fun b hb => h b (by simp [hb]))
    rw [dotE, List.length_cons, Int.natCast_add, Int.mul_add]
    generalize a * t.getD p 0 = q at *
    generalize dotE t m step cs (if m ≤ p + step then p + step - m else p + step) = d at *
    generalize A * 32768 * (cs.length : Int) = e at *
    omega

theorem dotW_eq (t : List Int) (m step : Nat) (A B : Int) (hA : 0 ≤ A) (hA2 : A ≤ 1099511627776) (hB : B ≤ 4611686018427387904) (ht : ∀ p, -32768 ≤ t.getD p 0 ∧ t.getD p 0 ≤ 32768) : ∀ (l : List Int) (s : Int) (p : Nat), (∀ a ∈ l, -A ≤ a ∧ a ≤ A) →
    -B + A * 32768 * l.length ≤ s → s ≤ B - A * 32768 * l.length → dotW t m step l s p = s + dotE t m step l p
  | [], s, p, _, _, _ => by simp [dotW, dotE]
  | a :: cs, s, p, h, h3, h4 => by
    have h1 := mul_le_of (h a (by simp)) (ht p)
    rw [List.length_cons, Int.natCast_add, Int.mul_add] at h3 h4
    have h5 : 0 ≤ A * 32768 * (cs.length : Int) := Int.mul_nonneg (by omega) (by omega)
    rw [dotW, dotE]
    have e1 : wrap64 (a * t.getD p 0) = a * t.getD p 0 := by
      generalize a * t.getD p 0 = q at *
      clear h3 h4 h5
      exact wrap_id (by omega) (by omega)
    rw [e1]
    clear e1
    have e2 : wrap64 (s + a * t.getD p 0) = s + a * t.getD p 0 := by
      generalize a * t.getD p 0 = q at *
      generalize A * 32768 * (cs.length : Int) = e at *
      exact wrap_id (by omega) (by omega)
    rw [e2]
    clear e2
    rw [dotW_eq t m step A B hA hA2 hB ht cs _ _ (fun b hb => h b (by simp [hb])) (by generalize a * t.getD p 0 = q at *; generalize A * 32768 * (cs.length : Int) = e at *; omega) (by generalize a * t.getD p 0 = q at *; generalize A * 32768 * (cs.length : Int) = e at *; omega)]
    omega

theorem dotE_neg (t : List Int) (m step : Nat) : ∀ (l : List Int) (p : Nat), dotE t m step (l.map fun a => -a) p = -dotE t m step l p
  | [], _ => rfl
  | a :: cs, p => by
    rw [List.map_cons, dotE, dotE, dotE_neg t m step cs, Int.neg_mul]; omega

theorem dotE_zero (t : List Int) (m step : Nat) : ∀ (n : Nat) (p : Nat), dotE t m step (List.replicate n 0) p = 0
  | 0, _ => rfl
  | n + 1, p => by rw [List.replicate_succ, dotE, dotE_zero t m step n]; simp

theorem downI_eq {a b : Int} (hb : 0 < b) (ha : -4611686018427387904 ≤ a ∧ a ≤ 4611686018427387904) : downI a b = a / b := by
  have hd := ediv_bd hb ha
  unfold downI
  by_cases h0 : 0 ≤ a
  · rw [if_neg (by have := Int.tmod_nonneg b h0; omega), Int.tdiv_eq_ediv_of_nonneg h0]
    exact wrap_id (by omega) (by omega)
  · have e1 : Int.tdiv a b = -((-a) / b) := by
      have : Int.tdiv (-(-a)) b = -(Int.tdiv (-a) b) := Int.neg_tdiv _ _
      rw [Int.neg_neg] at this
      rw [this, Int.tdiv_eq_ediv_of_nonneg (by omega)]
    have e2 : Int.tmod a b = -((-a) % b) := by
      have : Int.tmod (-(-a)) b = -(Int.tmod (-a) b) := Int.neg_tmod _ _
      rw [Int.neg_neg] at this
      rw [this, Int.tmod_eq_emod_of_nonneg (by omega)]
    have q1 := Int.emod_nonneg (-a) (show b ≠ 0 by omega)
    have q2 := Int.emod_lt_of_pos (-a) hb
    have q3 := Int.emod_add_mul_ediv (-a) b
    have q4 := Int.emod_nonneg a (show b ≠ 0 by omega)
    have q5 := Int.emod_lt_of_pos a hb
    have q6 := Int.emod_add_mul_ediv a b
    have hd2 := ediv_bd (a := -a) (B := 4611686018427387904) hb (by omega)
    rw [e1, e2]
    by_cases hr : (-a) % b = 0
    · rw [if_neg (by omega)]
      have : a / b = -((-a) / b) := by
        rw [show a = b * (-((-a) / b)) by rw [Int.mul_neg]; omega, Int.mul_ediv_cancel_left _ (by omega)]
        rw [Int.mul_neg, Int.neg_neg, Int.mul_ediv_cancel_left _ (by omega)]
      rw [this]
      exact wrap_id (by omega) (by omega)
    · rw [if_pos (by omega)]
      have : a / b = -((-a) / b) - 1 := by
        have e3 : a = (b - (-a) % b) + b * (-((-a) / b) - 1) := by
          rw [Int.mul_sub, Int.mul_neg, Int.mul_one]; omega
        have e4 : ((b - (-a) % b) + b * (-((-a) / b) - 1)) / b = -((-a) / b) - 1 := by
          rw [Int.add_mul_ediv_left _ _ (show b ≠ 0 by omega), Int.ediv_eq_zero_of_lt (by omega) (by omega)]; omega
        rw [← e3] at e4; exact e4
      rw [this, wrap_id (n := -((-a) / b)) (by omega) (by omega)]
      exact wrap_id (by omega) (by omega)

end Go.Proofs.Ytnliianjljgcbaa.Sums
