/- What the references of chapters 1 and 6 come to: the same plain forms as the program's functions. Condition: lists of at most 1000 numbers, shifts from 1 to 62. -/
import Derived.Test.YtgbdkefglmjdoaaMAx18
import Derived.Test.YtgbdkefglmjdoaaReach
namespace Go.Proofs.Ytgbdkefglmjdoaa.RefA
open Go.RowKit Go.Proofs.YtgbdkefglmjdoaaW.PrintWords Go.Proofs.YtgbdkefglmjdoaaW.PrintLast Go.Proofs.YtgbdkefglmjdoaaW.PrintMore Go.Proofs.Ytgbdkefglmjdoaa.Core Go.Proofs.Ytgbdkefglmjdoaa.MA Go.Proofs.Ytgbdkefglmjdoaa.Base Go.Proofs.Ytgbdkefglmjdoaa.Plain Go.Proofs.Ytgbdkefglmjdoaa.Reach

theorem rclamp_ev (a lo hi : Int) : Ev (fun k => madrigalref1_Clamp.f k a lo hi) (clamp a lo hi) := by
  refine ⟨1, fun k hk => ?_⟩
  obtain ⟨k, rfl⟩ : ∃ m, k = m + 1 := ⟨k - 1, by omega⟩
  simp only [madrigalref1_Clamp.f, madrigalref1_Clamp.j0, clamp]
  by_cases h1 : lo > hi
  · by_cases h2 : a < lo
    · simp [h1, h2]
    · simp [h1, h2]
  · by_cases h2 : a < lo
    · simp [h1, h2]
    · by_cases h3 : a > hi
      · simp [h1, h2, h3]
      · simp [h1, h2, h3]

theorem rfac_ev (a : Int) : Ev (fun k => madrigalref1_Clamp.f k a (-2147483648) 2147483648) (fac a) := rclamp_ev a _ _

theorem u64_small {n : Int} (h1 : 0 ≤ n) (h2 : n ≤ 1000) : IntKind.u64.wrap n = n := by
  show n % 18446744073709551616 = n
  omega

theorem shl_small' {x s : Int} (hs : 0 ≤ s) (hs2 : s ≤ 62) (h1 : -9223372036854775808 ≤ x * 2 ^ s.toNat) (h2 : x * 2 ^ s.toNat ≤ 9223372036854775807) : shl .i64 x s = x * 2 ^ s.toNat := by
  unfold shl
  have hm : min s.toNat IntKind.i64.bits = s.toNat := Nat.min_eq_left (by show _ ≤ 64; omega)
  rw [i64wrap, hm]
  exact wrap_id h1 h2
theorem shr_small' {x s : Int} (hs2 : s ≤ 62) : shr .i64 x s = x / 2 ^ s.toNat := by
  unfold shr
  have hm : min s.toNat IntKind.i64.bits = s.toNat := Nat.min_eq_left (by show _ ≤ 64; omega)
  rw [hm]

theorem round_half {p h : Int} (hh : 0 < h) : (if p - p / (2 * h) * (2 * h) ≥ h then p / (2 * h) + 1 else p / (2 * h)) = (p + h) / (2 * h) := by
  have h1 := Int.emod_nonneg p (show 2 * h ≠ 0 by omega)
  have h2 := Int.emod_lt_of_pos p (show 0 < 2 * h by omega)
  have h3 := Int.emod_add_mul_ediv p (2 * h)
  have e : p - p / (2 * h) * (2 * h) = p % (2 * h) := by rw [Int.mul_comm (p / (2 * h))]; omega
  rw [e]
  have e2 : p + h = (p % (2 * h) + h) + (2 * h) * (p / (2 * h)) := by omega
  rw [e2, Int.add_mul_ediv_left _ _ (show 2 * h ≠ 0 by omega)]
  by_cases c : p % (2 * h) ≥ h
  · rw [if_pos c]
    have : (p % (2 * h) + h) / (2 * h) = 1 := by
      have e3 : p % (2 * h) + h = (p % (2 * h) - h) + (2 * h) * 1 := by omega
      rw [e3, Int.add_mul_ediv_left _ _ (show 2 * h ≠ 0 by omega), Int.ediv_eq_zero_of_lt (by omega) (by omega)]; rfl
    omega
  · rw [if_neg c]
    have : (p % (2 * h) + h) / (2 * h) = 0 := Int.ediv_eq_zero_of_lt (by omega) (by omega)
    omega

theorem rmul_ev (a b s : Int) (h1 : 1 ≤ s) (h2 : s ≤ 62) : Ev (fun k => madrigalref1_Mul.f k a b s) (mulI a b s) := by
  unfold madrigalref1_Mul.f
  refine Ev.bind (rfac_ev a) ?_
  refine Ev.bind (rfac_ev b) ?_
  refine ev_neg (by omega) ?_
  rw [decide_eq_false (show ¬ s > 62 by omega)]
  refine Ev.step (fun k => by rw [madrigalref1_Mul.j0]) ?_
  have hb := fac_mul_bd a b
  have e1 : wrap64 (s - 1) = s - 1 := wrap_id (by omega) (by omega)
  have e2 : wrap64 (fac a * fac b) = fac a * fac b := wrap_id (by omega) (by omega)
  rw [e1, e2, u64_small (n := s - 1) (by omega) (by omega), u64_small (n := s) (by omega) (by omega)]
  refine ev_neg (by decide) (ev_neg (by omega) (ev_pos (by omega) (ev_pos (by omega) ?_)))
  have hp : (2 : Int) ^ (s - 1).toNat ≤ 2305843009213693952 := pow_mono_int (a := (s - 1).toNat) (b := 61) (by omega)
  have hq := pow_pos_int (s - 1).toNat
  have hs : (2 : Int) ^ s.toNat = 2 * 2 ^ (s - 1).toNat := by
    rw [show s.toNat = (s - 1).toNat + 1 by omega, Int.pow_succ, Int.mul_comm]
  unfold mulI
  generalize fac a * fac b = P at *
  rw [shr_small' h2, shl_small' (x := 1) (by omega) (by omega) (by omega) (by omega), Int.one_mul, hs]
  have hr := round_half (p := P) hq
  generalize hH : (2 : Int) ^ (s - 1).toNat = H at *
  have hb1 : -P / (2 * H) * (2 * H) = -P / (2 * H) * (2 * H) := rfl
  have h3 := Int.emod_add_mul_ediv P (2 * H)
  have h4 := Int.emod_nonneg P (show 2 * H ≠ 0 by omega)
  have h5 := Int.emod_lt_of_pos P (show 0 < 2 * H by omega)
  have ec : 2 * H * (P / (2 * H)) = P / (2 * H) * (2 * H) := Int.mul_comm _ _
  have hdb := ediv_bd (a := P) (d := 2 * H) (B := 4611686018427387904) (by omega) hb
  have e4 : shl .i64 (P / (2 * H)) s = P / (2 * H) * (2 * H) := by
    rw [shl_small' (by omega) h2 (by rw [hs]; omega) (by rw [hs]; omega), hs]
  rw [e4, wrap_id (n := P - P / (2 * H) * (2 * H)) (by omega) (by omega), wrap_id (n := P / (2 * H) + 1) (by omega) (by omega), ← hr]
  split
  · exact Ev.now _
  · exact Ev.now _

theorem clamped_l0 (lo hi : Int) (l : List Int) (hl : l.length ≤ 1000000) (d : Nat) : ∀ (i : Nat), i + d = l.length →
    Ev (fun k => madrigalref6_clamped.l0 k l lo hi ((l.take i).map fun v => clamp v lo hi) (i : Int)) (l.map fun v => clamp v lo hi) := by
  induction d with
  | zero =>
    intro i h1
    refine Ev.step (fun k => by rw [madrigalref6_clamped.l0]) ?_
    refine ev_neg (by omega) ?_
    rw [List.take_of_length_le (by omega)]
    exact Ev.now _
  | succ d ih =>
    intro i h1
    refine Ev.step (fun k => by rw [madrigalref6_clamped.l0]) ?_
    refine ev_pos (by omega) (ev_pos (by omega) ?_)
    refine Ev.bind (rclamp_ev _ _ _) ?_
    refine ev_pos (by simp; omega) ?_
    rw [wsucc (by omega), rd_nat]
    have hil : i < l.length := by omega
    have e : (l.take i).map (fun v => clamp v lo hi) ++ [clamp (l.getD i 0) lo hi] = (l.take (i + 1)).map fun v => clamp v lo hi := by
      rw [List.take_succ_eq_append_getElem hil, List.map_append]
      simp [List.getD, hil]
    rw [e]
    exact ih (i + 1) (by omega)

theorem clamped_ev (l : List Int) (lo hi : Int) (hl : l.length ≤ 1000000) : Ev (fun k => madrigalref6_clamped.f k l lo hi) (l.map fun v => clamp v lo hi) := by
  unfold madrigalref6_clamped.f
  exact clamped_l0 lo hi l hl l.length 0 (by omega)

theorem sat_map (l : List Int) : (l.map fun v => clamp v (-32768) 32767) = l.map sat := rfl

theorem rpower_l0 (l : List Int) (d : Nat) : ∀ (n : Nat) (s : Int), n + d = (l.take 960).length →
    Ev (fun k => madrigalref6_Power.l0 k l s (n : Int)) (powW (l.take 960) d n s) := by
  induction d with
  | zero =>
    intro n s h1
    refine Ev.step (fun k => by rw [madrigalref6_Power.l0]) ?_
    rw [List.length_take] at h1
    by_cases c : (n : Int) < (l.length : Int)
    · exact ev_pos c (ev_neg (by omega) (Ev.now _))
    · exact ev_neg c (Ev.now _)
  | succ d ih =>
    intro n s h1
    refine Ev.step (fun k => by rw [madrigalref6_Power.l0]) ?_
    rw [List.length_take] at h1
    refine ev_pos (by omega) (ev_pos (by omega) (ev_pos (by omega) ?_))
    refine Ev.bind (rclamp_ev _ _ _) ?_
    rw [wsucc (by omega), rd_nat]
    have e : l.getD n 0 = (l.take 960).getD n 0 := (take_getD l 960 n (by omega)).symm
    rw [e]
    exact ih (n + 1) _ (by rw [List.length_take]; omega)

theorem rpower_ev (l : List Int) : Ev (fun k => madrigalref6_Power.f k l) (powerW l) := by
  unfold madrigalref6_Power.f powerW
  exact rpower_l0 l _ 0 0 (by omega)

theorem restAt_clamped (xs a : List Int) (n : Nat) (d : Nat) : ∀ (k : Nat) (v : Int), k + d ≤ a.length → restAt xs (a.map fun v => clamp v (-131072) 131072) n d k v = restAt xs a n d k v := by
  induction d with
  | zero => intro k v _; rfl
  | succ d ih =>
    intro k v h
    have e : (a.map fun v => clamp v (-131072) 131072).getD k 0 = clamp (a.getD k 0) (-131072) 131072 := getD_map (by omega)
    have hb := clamp_bd (a := a.getD k 0) (lo := -131072) (hi := 131072) (by omega)
    rw [restAt, restAt, e, clamp_id hb.1 hb.2]
    exact ih (k + 1) _ (by omega)

theorem restAt_past (xs a : List Int) (n : Nat) (d : Nat) : ∀ (k : Nat) (v : Int), n ≤ k → restAt xs a n d k v = v := by
  induction d with
  | zero => intro k v _; rfl
  | succ d ih => intro k v h; rw [restAt, if_neg (by omega)]; exact ih (k + 1) v (by omega)

theorem rrest_l1 (xs b acc : List Int) (hb : ∀ j, clamp (b.getD j 0) (-131072) 131072 = b.getD j 0) (hl : xs.length ≤ 1000000) (hbl : b.length ≤ 1000000) (n : Nat) (hn : n < xs.length) (ha : acc.length ≤ 2000000) (res : List Int) (d : Nat) : ∀ (kk : Nat) (v : Int), kk + d = b.length → kk ≤ n →
    Ev (fun k => madrigalref6_Rest.l0 k xs b (acc ++ [restAt xs b n d kk v]) ((n + 1 : Nat) : Int)) res → Ev (fun k => madrigalref6_Rest.l1 k xs b acc (n : Int) v (kk : Int)) res := by
  induction d with
  | zero =>
    intro kk v h1 h2 hr
    refine Ev.step (fun k => by rw [madrigalref6_Rest.l1]) ?_
    refine ev_neg (by omega) (ev_pos (by omega) ?_)
    rw [wsucc (by omega)]
    exact hr
  | succ d ih =>
    intro kk v h1 h2 hr
    refine Ev.step (fun k => by rw [madrigalref6_Rest.l1]) ?_
    refine ev_pos (by omega) ?_
    rw [restAt] at hr
    by_cases hkn : kk < n
    · rw [if_pos hkn, hb] at hr
      have e0 : wrap64 ((n : Int) - 1) = (n : Int) - 1 := wrap_id (by omega) (by omega)
      have e1 : wrap64 ((n : Int) - 1 - kk) = ((n - 1 - kk : Nat) : Int) := by rw [wrap_id] <;> omega
      rw [e0, e1, wsucc (by omega), rd_nat, rd_nat]
      refine ev_pos (by omega) (ev_pos (by omega) (ev_pos (by omega) (ev_pos (by omega) ?_)))
      refine Ev.bind (rmul_ev _ _ _ (by omega) (by omega)) ?_
      exact ih (kk + 1) _ (by omega) (by omega) hr
    · rw [if_neg hkn, restAt_past _ _ _ _ _ _ (by omega)] at hr
      refine ev_neg (by omega) (ev_pos (by omega) ?_)
      rw [wsucc (by omega)]
      exact hr

theorem rrest_l0 (xs b : List Int) (hb : ∀ j, clamp (b.getD j 0) (-131072) 131072 = b.getD j 0) (hl : xs.length ≤ 1000000) (hbl : b.length ≤ 1000000) (d : Nat) : ∀ (n : Nat), n + d = xs.length →
    Ev (fun k => madrigalref6_Rest.l0 k xs b ((List.range n).map fun j => restAt xs b j b.length 0 (xs.getD j 0)) (n : Int)) (restW xs b) := by
  induction d with
  | zero =>
    intro n h1
    refine Ev.step (fun k => by rw [madrigalref6_Rest.l0]) ?_
    refine ev_neg (by omega) ?_
    rw [show n = xs.length by omega]
    exact Ev.now _
  | succ d ih =>
    intro n h1
    refine Ev.step (fun k => by rw [madrigalref6_Rest.l0]) ?_
    refine ev_pos (by omega) (ev_pos (by omega) ?_)
    rw [rd_nat]
    refine rrest_l1 xs b _ hb hl hbl n (by omega) (by simp; omega) _ b.length 0 _ (by omega) (by omega) ?_
    have h := ih (n + 1) (by omega)
    rw [List.range_succ, List.map_append] at h
    exact h

theorem rrest_ev (l a : List Int) (h1 : l.length ≤ 1000000) (h2 : a.length ≤ 1000000) : Ev (fun k => madrigalref6_Rest.f k l a) (restW (l.map sat) a) := by
  unfold madrigalref6_Rest.f
  refine Ev.bind (clamped_ev l _ _ (by omega)) ?_
  refine Ev.bind (clamped_ev a _ _ (by omega)) ?_
  rw [sat_map]
  have hb : ∀ j, clamp ((a.map fun v => clamp v (-131072) 131072).getD j 0) (-131072) 131072 = (a.map fun v => clamp v (-131072) 131072).getD j 0 := by
    intro j
    by_cases hj : j < a.length
    · have e : (a.map fun v => clamp v (-131072) 131072).getD j 0 = clamp (a.getD j 0) (-131072) 131072 := getD_map hj
      have := clamp_bd (a := a.getD j 0) (lo := -131072) (hi := 131072) (by omega)
      rw [e]; exact clamp_id this.1 this.2
    · rw [getD_out (by simp; omega)]; decide
  have h := rrest_l0 (l.map sat) (a.map fun v => clamp v (-131072) 131072) hb (by simp; omega) (by simp; omega) (l.map sat).length 0 (by omega)
  have e : restW (l.map sat) (a.map fun v => clamp v (-131072) 131072) = restW (l.map sat) a := by
    unfold restW
    refine List.map_congr_left (fun n _ => ?_)
    rw [List.length_map]
    exact restAt_clamped _ _ _ _ _ _ (by omega)
  rw [e] at h
  exact h
end Go.Proofs.Ytgbdkefglmjdoaa.RefA
