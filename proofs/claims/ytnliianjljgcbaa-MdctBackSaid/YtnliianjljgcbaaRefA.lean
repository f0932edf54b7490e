/- What the reference of chapter 1 comes to: the same plain forms as the program's functions. Condition: lists of at most 1000 numbers, shifts from 1 to 62. -/
import Derived.Test.YtnliianjljgcbaaMAx6
import Derived.Test.YtnliianjljgcbaaBase
namespace Go.Proofs.Ytnliianjljgcbaa.RefA
open Go.RowKit Go.Proofs.YtnliianjljgcbaaW.PrintWords Go.Proofs.YtnliianjljgcbaaW.PrintLast Go.Proofs.YtnliianjljgcbaaW.PrintMore Go.Proofs.Ytnliianjljgcbaa.Core Go.Proofs.Ytnliianjljgcbaa.MA Go.Proofs.Ytnliianjljgcbaa.Base

theorem rclamp_ev (a lo hi : Int) : Ev (fun k => madrigalref1_Clamp.f k a lo hi) (clamp a lo hi) := by
  refine ⟨1, fun k hk => ?_⟩
  obtain ⟨k, rfl⟩ : ∃ m, k = m + 1 := ⟨k - 1, by omega⟩
  simp only [madrigalref1_Clamp.f, madrigalref1_Clamp.j0, clamp]
  by_cases h1 : lo > hi
  · by_cases h2 : a < lo
    · simp [h1, h2]
    · simp [h1, h2]
  · by_cases h2 : a < lo
    · simp [h1, h2]
    · by_cases h3 : a > hi
      · simp [h1, h2, h3]
      · simp [h1, h2, h3]

theorem rfac_ev (a : Int) : Ev (fun k => madrigalref1_Clamp.f k a (-2147483648) 2147483648) (fac a) := rclamp_ev a _ _

theorem u64_small {n : Int} (h1 : 0 ≤ n) (h2 : n ≤ 1000) : IntKind.u64.wrap n = n := by
  show n % 18446744073709551616 = n
  omega

theorem shl_small' {x s : Int} (hs : 0 ≤ s) (hs2 : s ≤ 62) (h1 : -9223372036854775808 ≤ x * 2 ^ s.toNat) (h2 : x * 2 ^ s.toNat ≤ 9223372036854775807) : shl .i64 x s = x * 2 ^ s.toNat := by
  unfold shl
  have hm : min s.toNat IntKind.i64.bits = s.toNat := Nat.min_eq_left (by show _ ≤ 64; omega)
  rw [i64wrap, hm]
  exact wrap_id h1 h2
theorem shr_small' {x s : Int} (hs2 : s ≤ 62) : shr .i64 x s = x / 2 ^ s.toNat := by
  unfold shr
  have hm : min s.toNat IntKind.i64.bits = s.toNat := Nat.min_eq_left (by show _ ≤ 64; omega)
  rw [hm]

theorem round_half {p h : Int} (hh : 0 < h) : (if p - p / (2 * h) * (2 * h) ≥ h then p / (2 * h) + 1 else p / (2 * h)) = (p + h) / (2 * h) := by
  have h1 := Int.emod_nonneg p (show 2 * h ≠ 0 by omega)
  have h2 := Int.emod_lt_of_pos p (show 0 < 2 * h by omega)
  have h3 := Int.emod_add_mul_ediv p (2 * h)
  have e : p - p / (2 * h) * (2 * h) = p % (2 * h) := by rw [Int.mul_comm (p / (2 * h))]; omega
  rw [e]
  have e2 : p + h = (p % (2 * h) + h) + (2 * h) * (p / (2 * h)) := by omega
  rw [e2, Int.add_mul_ediv_left _ _ (show 2 * h ≠ 0 by omega)]
  by_cases c : p % (2 * h) ≥ h
  · rw [if_pos c]
    have : (p % (2 * h) + h) / (2 * h) = 1 := by
      have e3 : p % (2 * h) + h = (p % (2 * h) - h) + (2 * h) * 1 := by omega
      rw [e3, Int.add_mul_ediv_left _ _ (show 2 * h ≠ 0 by omega), Int.ediv_eq_zero_of_lt (by omega) (by omega)]; rfl
    omega
  · rw [if_neg c]
    have : (p % (2 * h) + h) / (2 * h) = 0 := Int.ediv_eq_zero_of_lt (by omega) (by omega)
    omega

theorem rmul_ev (a b s : Int) (h1 : 1 ≤ s) (h2 : s ≤ 62) : Ev (fun k => madrigalref1_Mul.f k a b s) (mulI a b s) := by
  unfold madrigalref1_Mul.f
  refine Ev.bind (rfac_ev a) ?_
  refine Ev.bind (rfac_ev b) ?_
  refine ev_neg (by omega) ?_
  rw [decide_eq_false (show ¬ s > 62 by omega)]
  refine Ev.step (fun k => by rw [madrigalref1_Mul.j0]) ?_
  have hb := fac_mul_bd a b
  have e1 : wrap64 (s - 1) = s - 1 := wrap_id (by omega) (by omega)
  have e2 : wrap64 (fac a * fac b) = fac a * fac b := wrap_id (by omega) (by omega)
  rw [e1, e2, u64_small (n := s - 1) (by omega) (by omega), u64_small (n := s) (by omega) (by omega)]
  refine ev_neg (by decide) (ev_neg (by omega) (ev_pos (by omega) (ev_pos (by omega) ?_)))
  have hp : (2 : Int) ^ (s - 1).toNat ≤ 2305843009213693952 := pow_mono_int (a := (s - 1).toNat) (b := 61) (by omega)
  have hq := pow_pos_int (s - 1).toNat
  have hs : (2 : Int) ^ s.toNat = 2 * 2 ^ (s - 1).toNat := by
    rw [show s.toNat = (s - 1).toNat + 1 by omega, Int.pow_succ, Int.mul_comm]
  unfold mulI
  generalize fac a * fac b = P at *
  rw [shr_small' h2, shl_small' (x := 1) (by omega) (by omega) (by omega) (by omega), Int.one_mul, hs]
  have hr := round_half (p := P) hq
  generalize hH : (2 : Int) ^ (s - 1).toNat = H at *
  have hb1 : -P / (2 * H) * (2 * H) = -P / (2 * H) * (2 * H) := rfl
  have h3 := Int.emod_add_mul_ediv P (2 * H)
  have h4 := Int.emod_nonneg P (show 2 * H ≠ 0 by omega)
  have h5 := Int.emod_lt_of_pos P (show 0 < 2 * H by omega)
  have ec : 2 * H * (P / (2 * H)) = P / (2 * H) * (2 * H) := Int.mul_comm _ _
  have hdb := ediv_bd (a := P) (d := 2 * H) (B := 4611686018427387904) (by omega) hb
  have e4 : shl .i64 (P / (2 * H)) s = P / (2 * H) * (2 * H) := by
    rw [shl_small' (by omega) h2 (by rw [hs]; omega) (by rw [hs]; omega), hs]
  rw [e4, wrap_id (n := P - P / (2 * H) * (2 * H)) (by omega) (by omega), wrap_id (n := P / (2 * H) + 1) (by omega) (by omega), ← hr]
  split
  · exact Ev.now _
  · exact Ev.now _
end Go.Proofs.Ytnliianjljgcbaa.RefA
