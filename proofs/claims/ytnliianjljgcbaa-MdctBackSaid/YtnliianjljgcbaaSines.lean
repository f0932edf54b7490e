/- The cosines of a first quarter lie from 0 to 32768, the windows' values too: the series, bound by bound. Condition: numbers of a first quarter. -/
import Derived.Test.YtnliianjljgcbaaShape
namespace Go.Proofs.Ytnliianjljgcbaa.Sines
open Go.RowKit Go.Proofs.YtnliianjljgcbaaW.PrintWords Go.Proofs.YtnliianjljgcbaaW.PrintLast Go.Proofs.YtnliianjljgcbaaW.PrintMore Go.Proofs.Ytnliianjljgcbaa.Core Go.Proofs.Ytnliianjljgcbaa.MA Go.Proofs.Ytnliianjljgcbaa.Base Go.Proofs.Ytnliianjljgcbaa.RefA Go.Proofs.Ytnliianjljgcbaa.Cos Go.Proofs.Ytnliianjljgcbaa.Win

/-- A product's bounds: the first number from 0 to X, the second from A (0 or less) to B (0 or more). -/
theorem mulI_in (X A B L U : Int) {a b : Int} (s : Nat) (ha : 0 ≤ a ∧ a ≤ X) (hb : A ≤ b ∧ b ≤ B)
    (hX : X ≤ 2147483648) (hA : -2147483648 ≤ A ∧ A ≤ 0) (hB : 0 ≤ B ∧ B ≤ 2147483648)
    (hL : L * 2 ^ s ≤ A * X + 2 ^ (s - 1)) (hU : B * X + 2 ^ (s - 1) < (U + 1) * 2 ^ s) : L ≤ mulI a b s ∧ mulI a b s ≤ U := by
  unfold mulI
  have e1 : fac a = a := clamp_id (by omega) (by omega)
  have e2 : fac b = b := clamp_id (by omega) (by omega)
  rw [e1, e2, show ((s : Int) - 1).toNat = s - 1 by omega, Int.toNat_natCast]
  have hp := pow_pos_int s
  have hX0 : 0 ≤ X := by omega
  have h1 : A * X ≤ a * b := by
    have q1 : A * X ≤ A * a := Int.mul_le_mul_of_nonpos_left hA.2 ha.2
    have q2 : a * A ≤ a * b := Int.mul_le_mul_of_nonneg_left hb.1 ha.1
    rw [Int.mul_comm a A] at q2; omega
  have h2 : a * b ≤ B * X := by
    have q1 : B * a ≤ B * X := Int.mul_le_mul_of_nonneg_left ha.2 hB.1
    have q2 : a * b ≤ a * B := Int.mul_le_mul_of_nonneg_left hb.2 ha.1
    rw [Int.mul_comm a B] at q2; omega
  constructor
  · exact (Int.le_ediv_iff_mul_le hp).2 (by omega)
  · have : (a * b + 2 ^ (s - 1)) / 2 ^ s < U + 1 := (Int.ediv_lt_iff_lt_mul hp).2 (by omega)
    omega

theorem w_in (c L U : Int) {m : Int} (h : L ≤ m ∧ m ≤ U) (hL : -9223372036854775808 ≤ c + L) (hU : c + U ≤ 9223372036854775807) : c + L ≤ wrap64 (c + m) ∧ wrap64 (c + m) ≤ c + U := by
  rw [wrap_id (by omega) (by omega)]; omega

/-- the series' place -/
theorem arc_in {u : Int} (h0 : 0 ≤ u) (h1 : u ≤ 8192) : 0 ≤ mulI u 1686629713 14 ∧ mulI u 1686629713 14 ≤ 843314857 := by
  have := mulI_in 8192 0 1686629713 0 843314857 14 ⟨h0, h1⟩ (b := 1686629713) (by omega) (by decide) (by decide) (by decide) (by decide) (by decide)
  exact this
theorem sq_in {z : Int} (h : 0 ≤ z ∧ z ≤ 843314857) : 0 ≤ mulI z z 30 ∧ mulI z z 30 ≤ 662340000 :=
  mulI_in 843314857 0 843314857 0 662340000 30 h h (by decide) (by decide) (by decide) (by decide) (by decide)

theorem low_in {x : Int} (h : 0 ≤ x ∧ x ≤ 662340000) : 700000000 ≤ serW x [26631, (-1491308), 44739243, (-536870912), 1073741824] (-296) ∧ serW x [26631, (-1491308), 44739243, (-536870912), 1073741824] (-296) ≤ 1073741824 := by
  have a1 := w_in 26631 (-200) 0 (mulI_in 662340000 (-296) 0 (-200) 0 30 h (b := -296) (by omega) (by decide) (by decide) (by decide) (by decide) (by decide)) (by decide) (by decide)
  have a2 := w_in (-1491308) 0 17000 (mulI_in 662340000 0 26631 0 17000 30 h ⟨by omega, a1.2⟩ (by decide) (by decide) (by decide) (by decide) (by decide)) (by decide) (by decide)
  have a3 := w_in 44739243 (-1000000) 0 (mulI_in 662340000 (-1491308) 0 (-1000000) 0 30 h ⟨a2.1, by omega⟩ (by decide) (by decide) (by decide) (by decide) (by decide)) (by decide) (by decide)
  have a4 := w_in (-536870912) 0 28000000 (mulI_in 662340000 0 44739243 0 28000000 30 h ⟨by omega, a3.2⟩ (by decide) (by decide) (by decide) (by decide) (by decide)) (by decide) (by decide)
  have a5 := w_in 1073741824 (-340000000) 0 (mulI_in 662340000 (-536870912) 0 (-340000000) 0 30 h ⟨a4.1, by omega⟩ (by decide) (by decide) (by decide) (by decide) (by decide)) (by decide) (by decide)
  simp only [serW]
  exact ⟨Int.le_trans (by decide) a5.1, a5.2⟩

theorem high_in {x : Int} (h : 0 ≤ x ∧ x ≤ 662340000) : 0 ≤ serW x [(-213044), 8947849, (-178956971), 1073741824] 2959 ∧ serW x [(-213044), 8947849, (-178956971), 1073741824] 2959 ≤ 1073741824 := by
  have a1 := w_in (-213044) 0 2000 (mulI_in 662340000 0 2959 0 2000 30 h (b := 2959) (by omega) (by decide) (by decide) (by decide) (by decide) (by decide)) (by decide) (by decide)
  have a2 := w_in 8947849 (-140000) 0 (mulI_in 662340000 (-213044) 0 (-140000) 0 30 h ⟨a1.1, by omega⟩ (by decide) (by decide) (by decide) (by decide) (by decide)) (by decide) (by decide)
  have a3 := w_in (-178956971) 0 6000000 (mulI_in 662340000 0 8947849 0 6000000 30 h ⟨by omega, a2.2⟩ (by decide) (by decide) (by decide) (by decide) (by decide)) (by decide) (by decide)
  have a4 := w_in 1073741824 (-120000000) 0 (mulI_in 662340000 (-178956971) 0 (-120000000) 0 30 h ⟨a3.1, by omega⟩ (by decide) (by decide) (by decide) (by decide) (by decide)) (by decide) (by decide)
  simp only [serW]
  exact ⟨Int.le_trans (by decide) a4.1, a4.2⟩

theorem one_in {x : Int} (h : 0 ≤ x ∧ x ≤ 1073741824) : 0 ≤ mulI x 1 15 ∧ mulI x 1 15 ≤ 32768 :=
  mulI_in 1073741824 0 1 0 32768 15 h (by omega) (by decide) (by decide) (by decide) (by decide) (by decide)

theorem quarter_in {v : Int} (h0 : 0 ≤ v) (h1 : v ≤ 16384) : 0 ≤ quarterW v ∧ quarterW v ≤ 32768 := by
  unfold quarterW
  by_cases h : v ≤ 8192
  · rw [if_pos h]
    have := low_in (sq_in (arc_in h0 h))
    exact one_in ⟨by omega, this.2⟩
  · rw [if_neg h, wrap_id (n := 16384 - v) (by omega) (by omega)]
    have hz := arc_in (u := 16384 - v) (by omega) (by omega)
    have hs := high_in (sq_in hz)
    exact one_in (mulI_in 843314857 0 1073741824 0 1073741824 30 hz hs (by decide) (by decide) (by decide) (by decide) (by decide))

theorem and_mask (x : Int) : Go.bits .and .i64 x 65535 = x % 65536 := by
  have e : (BitVec.ofInt 64 x &&& BitVec.ofInt 64 65535).toNat = (x % 18446744073709551616).toNat % 65536 := by
    rw [BitVec.toNat_and, BitVec.toNat_ofInt, BitVec.toNat_ofInt]
    exact Nat.and_two_pow_sub_one_eq_mod _ 16
  show IntKind.i64.wrap ((BitVec.ofInt 64 x &&& BitVec.ofInt 64 65535).toNat : Int) = _
  rw [e, i64wrap, wrap_id (by omega) (by omega)]
  omega

/-- the sine of a first quarter -/
theorem sin_in {a : Int} (h0 : 0 ≤ a) (h1 : a ≤ 16384) : 0 ≤ sinW a ∧ sinW a ≤ 32768 := by
  unfold sinW cosW
  simp only [and_mask]
  rw [wrap_id (n := a % 65536 - 16384) (by omega) (by omega)]
  by_cases h : (a % 65536 - 16384) % 65536 > 32768
  · rw [if_pos h, wrap_id (n := 65536 - (a % 65536 - 16384) % 65536) (by omega) (by omega)]
    unfold cosT
    rw [if_neg (by omega)]
    exact quarter_in (by omega) (by omega)
  · rw [if_neg h]
    unfold cosT
    rw [if_neg (by omega)]
    exact quarter_in (by omega) (by omega)

theorem winA_in {l i : Nat} (hl : l ≤ 480) (hi : i < l) : 0 ≤ winA l i ∧ winA l i ≤ 32768 := by
  unfold winA
  have e1 : wrap64 (2 * (i : Int)) = 2 * i := wrap_id (by omega) (by omega)
  have e2 : wrap64 (2 * (i : Int) + 1) = 2 * i + 1 := wrap_id (by omega) (by omega)
  have e3 : wrap64 ((2 * (i : Int) + 1) * 16384) = (2 * i + 1) * 16384 := wrap_id (by omega) (by omega)
  rw [e1, e2, e3]
  clear e1 e2 e3
  have hd : 0 ≤ ((2 * (i : Int) + 1) * 16384) / l ∧ ((2 * (i : Int) + 1) * 16384) / l < 2 * 16384 := by
    constructor
    · exact Int.ediv_nonneg (by omega) (by omega)
    · exact (Int.ediv_lt_iff_lt_mul (by omega)).2 (by omega)
  rw [Int.tdiv_eq_ediv_of_nonneg (a := (2 * (i : Int) + 1) * 16384) (by omega)]
  generalize (2 * (i : Int) + 1) * 16384 / l = q at *
  have e4 : wrap64 q = q := wrap_id (by omega) (by omega)
  have e5 : wrap64 (q + 1) = q + 1 := wrap_id (by omega) (by omega)
  rw [e4, e5, Int.tdiv_eq_ediv_of_nonneg (by omega)]
  have e6 : wrap64 ((q + 1) / 2) = (q + 1) / 2 := wrap_id (by omega) (by omega)
  rw [e6]
  exact sin_in (by omega) (by omega)

theorem winW_in {l i : Nat} (hl : l ≤ 480) (hi : i < l) : 0 ≤ winW l i ∧ winW l i ≤ 32768 := by
  unfold winW
  have ha := winA_in hl hi
  generalize winA l i = a at *
  have hm : 0 ≤ mulI a a 15 ∧ mulI a a 15 ≤ 32768 := mulI_in 32768 0 32768 0 32768 15 ha ha (by decide) (by decide) (by decide) (by decide) (by decide)
  have e5 : wrap64 (mulI a a 15 + 1) = mulI a a 15 + 1 := wrap_id (by omega) (by omega)
  rw [e5, Int.tdiv_eq_ediv_of_nonneg (by omega), wrap_id (by omega) (by omega)]
  exact sin_in (by omega) (by omega)

end Go.Proofs.Ytnliianjljgcbaa.Sines
