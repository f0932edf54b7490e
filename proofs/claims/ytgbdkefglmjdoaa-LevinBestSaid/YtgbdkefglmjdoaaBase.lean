/- What the small functions of package fix, of the programs and of the references, come to: bounds, products, quotients. No condition but the shifts' bounds. -/
import Derived.Test.YtgbdkefglmjdoaaMAx3
import Derived.Test.YtgbdkefglmjdoaaCore
namespace Go.Proofs.Ytgbdkefglmjdoaa.Base
open Go.RowKit Go.Proofs.YtgbdkefglmjdoaaW.PrintWords Go.Proofs.YtgbdkefglmjdoaaW.PrintLast Go.Proofs.YtgbdkefglmjdoaaW.PrintMore Go.Proofs.Ytgbdkefglmjdoaa.Core Go.Proofs.Ytgbdkefglmjdoaa.MA

theorem i64wrap (n : Int) : IntKind.i64.wrap n = wrap64 n := i64_w n

theorem clamp_ev (a lo hi : Int) : Ev (fun k => fix_Clamp.f k a lo hi) (clamp a lo hi) := by
  refine ⟨1, fun k hk => ?_⟩
  obtain ⟨k, rfl⟩ : ∃ m, k = m + 1 := ⟨k - 1, by omega⟩
  simp only [fix_Clamp.f, fix_Clamp.j0, clamp]
  by_cases h1 : lo > hi
  · simp [h1]
  · by_cases h2 : a < lo
    · simp [h1, h2]
    · by_cases h3 : a > hi
      · simp [h1, h2, h3]
      · simp [h1, h2, h3]

theorem fac_ev (a : Int) : Ev (fun k => fix_factor.f k a) (fac a) := by
  unfold fix_factor.f
  exact Ev.bind (clamp_ev a _ _) (Ev.now _)

/-- a product, divided by 2^s, rounded (s from 1 to 62) -/
def mulI (a b s : Int) : Int := (fac a * fac b + 2 ^ (s - 1).toNat) / 2 ^ s.toNat

theorem pow_le_int {a b : Nat} (h : a ≤ b) : (2 : Int) ^ a ≤ 2 ^ b := pow_mono_int h

theorem mul_ev (a b s : Int) (h1 : 1 ≤ s) (h2 : s ≤ 62) : Ev (fun k => fix_Mul.f k a b s) (mulI a b s) := by
  unfold fix_Mul.f
  refine Ev.bind (fac_ev a) ?_
  refine Ev.bind (fac_ev b) ?_
  refine ⟨0, fun k _ => ?_⟩
  have hb := fac_mul_bd a b
  have hp := pow_le_int (a := (s - 1).toNat) (b := 61) (by omega)
  have hq := pow_pos_int (s - 1).toNat
  have e1 : wrap64 (s - 1) = s - 1 := wrap_id (by omega) (by omega)
  have e2 : wrap64 (fac a * fac b) = fac a * fac b := wrap_id (by omega) (by omega)
  have hp' : (2 : Int) ^ (s - 1).toNat ≤ 2305843009213693952 := hp
  have e3 : shl .i64 1 (s - 1) = 2 ^ (s - 1).toNat := by
    unfold shl
    have hm : min (s - 1).toNat IntKind.i64.bits = (s - 1).toNat := Nat.min_eq_left (by show _ ≤ 64; omega)
    rw [i64wrap, hm, Int.one_mul]
    exact wrap_id (by omega) (by omega)
  have e4 : wrap64 (fac a * fac b + 2 ^ (s - 1).toNat) = fac a * fac b + 2 ^ (s - 1).toNat := wrap_id (by omega) (by omega)
  show (if s = 0 then _ else _) = _
  rw [if_neg (by omega), if_neg (by omega), if_neg (by omega), e1, if_pos (by omega), if_pos (by omega), e2, e3, e4]
  unfold shr mulI
  have hm : min s.toNat IntKind.i64.bits = s.toNat := Nat.min_eq_left (by show _ ≤ 64; omega)
  rw [hm]

/-- down, by a number above 0 -/
theorem tdiv_down {a d : Int} (hd : 0 < d) : (if Int.tmod a d < 0 then Int.tdiv a d - 1 else Int.tdiv a d) = a / d := by
  have hb := Int.tdiv_eq_ediv (a := a) (b := d)
  have hm := Int.tmod_eq_emod (a := a) (b := d)
  have hs : d.sign = 1 := Int.sign_eq_one_of_pos hd
  have hn : (d.natAbs : Int) = d := by omega
  have h0 := Int.emod_nonneg a (show d ≠ 0 by omega)
  have h1 := Int.emod_lt_of_pos a hd
  by_cases hc : 0 ≤ a ∨ d ∣ a
  · rw [if_pos hc] at hb hm
    rw [if_neg (by omega), hb, Int.add_zero]
  · rw [if_neg hc, hs] at hb
    rw [if_neg hc, hn] at hm
    rw [if_pos (by omega), hb]
    omega

theorem ediv_bd {a d B : Int} (hd : 0 < d) (h : -B ≤ a ∧ a ≤ B) : -B ≤ a / d ∧ a / d ≤ B := by
  have hB : 0 ≤ B := by omega
  constructor
  · have : -B ≤ a / d ↔ -B * d ≤ a := Int.le_ediv_iff_mul_le hd
    rw [this]
    have : B * 1 ≤ B * d := Int.mul_le_mul_of_nonneg_left (by omega) hB
    rw [Int.neg_mul]; omega
  · have h2 : a / d ≤ B ↔ a < (B + 1) * d := by
      rw [← Int.lt_add_one_iff, Int.ediv_lt_iff_lt_mul hd]
    rw [h2]
    have : (B + 1) * 1 ≤ (B + 1) * d := Int.mul_le_mul_of_nonneg_left (by omega) (by omega)
    omega

/-- a quotient, the first number times 2^s, down (s from 0 to 30) -/
def divI (a b s : Int) : Int := if fac b = 0 then 0 else if fac b < 0 then (-(fac a * 2 ^ s.toNat)) / (-(fac b)) else (fac a * 2 ^ s.toNat) / fac b

theorem tdiv_floor {a d : Int} (hd : d ≠ 0) : (if Int.tmod a d = 0 then Int.tdiv a d else if ((decide (a < 0)) != (decide (d < 0))) = true then Int.tdiv a d - 1 else Int.tdiv a d) = if d < 0 then (-a) / (-d) else a / d := by
  rcases Int.lt_or_gt_of_ne hd with hneg | hpos
  · rw [if_pos hneg, ← tdiv_down (a := -a) (d := -d) (by omega), Int.neg_tdiv_neg]
    have hm : Int.tmod (-a) (-d) = - Int.tmod a d := by rw [Int.tmod_neg, Int.neg_tmod]
    rw [hm]
    have hd1 : decide (d < 0) = true := decide_eq_true hneg
    rw [hd1]
    have hx := Int.tmod_eq_emod (a := -a) (b := -d)
    rw [hm] at hx
    by_cases h0 : Int.tmod a d = 0
    · rw [if_pos h0, if_neg (by omega)]
    · rw [if_neg h0]
      by_cases ha : a < 0
      · have : decide (a < 0) = true := decide_eq_true ha
        rw [this]
        have : ¬ (- Int.tmod a d < 0) := by
          rw [if_pos (Or.inl (by omega))] at hx
          have := Int.emod_nonneg (-a) (show -d ≠ 0 by omega)
          omega
        rw [if_neg this]; simp
      · have : decide (a < 0) = false := decide_eq_false ha
        rw [this]
        have h2 : - Int.tmod a d < 0 := by
          have hnn : 0 ≤ Int.tmod a d := Int.tmod_nonneg _ (by omega)
          omega
        rw [if_pos h2]; simp
  · rw [if_neg (show ¬ d < 0 by omega), ← tdiv_down (a := a) (d := d) hpos]
    have hd1 : decide (d < 0) = false := decide_eq_false (by omega)
    rw [hd1]
    by_cases h0 : Int.tmod a d = 0
    · rw [if_pos h0, if_neg (by omega)]
    · rw [if_neg h0]
      by_cases ha : a < 0
      · have : decide (a < 0) = true := decide_eq_true ha
        rw [this]
        have h2 : Int.tmod a d < 0 := by
          have : 0 ≤ Int.tmod (-a) d := Int.tmod_nonneg _ (by omega)
          rw [Int.neg_tmod] at this
          omega
        rw [if_pos h2]; simp
      · have : decide (a < 0) = false := decide_eq_false ha
        rw [this]
        have : ¬ (Int.tmod a d < 0) := by have := Int.tmod_nonneg d (show 0 ≤ a by omega); omega
        rw [if_neg this]; simp

theorem facpow_bd (a s : Int) (h1 : 0 ≤ s) (h2 : s ≤ 30) : -2305843009213693952 ≤ fac a * 2 ^ s.toNat ∧ fac a * 2 ^ s.toNat ≤ 2305843009213693952 := by
  have hp : (2 : Int) ^ s.toNat ≤ 2 ^ 30 := pow_le_int (by omega)
  have hq := pow_pos_int s.toNat
  have := mul_le_of (A := 2147483648) (B := 1073741824) (by have := fac_bd a; omega) (show -1073741824 ≤ (2 : Int) ^ s.toNat ∧ (2 : Int) ^ s.toNat ≤ 1073741824 from ⟨by omega, hp⟩)
  omega

theorem div_ev (a b s : Int) (h1 : 0 ≤ s) (h2 : s ≤ 30) : Ev (fun k => fix_Div.f k a b s) (divI a b s) := by
  unfold fix_Div.f
  refine Ev.bind (fac_ev a) ?_
  refine Ev.bind (fac_ev b) ?_
  refine ⟨1, fun k hk => ?_⟩
  obtain ⟨k, rfl⟩ : ∃ m, k = m + 1 := ⟨k - 1, by omega⟩
  unfold divI
  simp only [fix_Div.j0]
  by_cases hz : fac b = 0
  · simp [hz]
  · have hsd : decide (s > 30) = false := decide_eq_false (by omega)
    rw [if_neg hz, if_neg (by omega), hsd, if_neg (by decide), if_pos h1, if_neg hz, if_neg hz]
    have hx := facpow_bd a s h1 h2
    have e3 : shl .i64 (fac a) s = fac a * 2 ^ s.toNat := by
      unfold shl
      have hm : min s.toNat IntKind.i64.bits = s.toNat := Nat.min_eq_left (by show _ ≤ 64; omega)
      rw [i64wrap, hm]
      exact wrap_id (by omega) (by omega)
    rw [e3, ← tdiv_floor hz]
    have hbd := facpow_bd a s h1 h2
    generalize fac a * 2 ^ s.toNat = x at *
    have ht : -2305843009213693952 ≤ Int.tdiv x (fac b) ∧ Int.tdiv x (fac b) ≤ 2305843009213693952 := by
      have h1 := Int.natAbs_tdiv_le_natAbs x (fac b)
      omega
    have w1 : wrap64 (Int.tdiv x (fac b)) = Int.tdiv x (fac b) := wrap_id (by omega) (by omega)
    have w2 : wrap64 (Int.tdiv x (fac b) - 1) = Int.tdiv x (fac b) - 1 := wrap_id (by omega) (by omega)
    rw [w1, w2]
    split
    · rfl
    · split <;> rfl
end Go.Proofs.Ytgbdkefglmjdoaa.Base
