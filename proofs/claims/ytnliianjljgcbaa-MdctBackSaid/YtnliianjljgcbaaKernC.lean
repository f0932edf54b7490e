/- The cosines that the kernel reckons are the program's. Condition: angles of one turn. -/
import Derived.Test.YtnliianjljgcbaaKern
namespace Go.Proofs.Ytnliianjljgcbaa.Kern
open Go.RowKit Go.Proofs.YtnliianjljgcbaaW.PrintWords Go.Proofs.YtnliianjljgcbaaW.PrintLast Go.Proofs.YtnliianjljgcbaaW.PrintMore Go.Proofs.Ytnliianjljgcbaa.Core Go.Proofs.Ytnliianjljgcbaa.MA Go.Proofs.Ytnliianjljgcbaa.Base Go.Proofs.Ytnliianjljgcbaa.RefA Go.Proofs.Ytnliianjljgcbaa.Cos Go.Proofs.Ytnliianjljgcbaa.Win Go.Proofs.Ytnliianjljgcbaa.Shape Go.Proofs.Ytnliianjljgcbaa.Sines Go.Proofs.Ytnliianjljgcbaa.Shaped Go.Proofs.Ytnliianjljgcbaa.Dot Go.Proofs.Ytnliianjljgcbaa.Inv Go.Proofs.Ytnliianjljgcbaa.Sums
theorem mulI_nat (x y s : Nat) (hx : x ≤ 2147483648) (hy : y ≤ 2147483648) : mulI (x : Int) (y : Int) (s : Int) = (((x * y + 2 ^ (s - 1)) / 2 ^ s : Nat) : Int) := by
  unfold mulI
  have e1 : fac (x : Int) = x := clamp_id (by omega) (by omega)
  have e2 : fac (y : Int) = y := clamp_id (by omega) (by omega)
  rw [e1, e2, show ((s : Int) - 1).toNat = s - 1 by omega, Int.toNat_natCast, Int.natCast_ediv, Int.natCast_add, Int.natCast_mul, Int.natCast_pow, Int.natCast_pow]
  rfl
theorem stepP (c x t : Nat) (hc : c ≤ 2147483648) (hx : x ≤ 2147483648) (ht : t ≤ 2147483648) (h : x * t ≤ c * 1073741824 + 536870912) :
    wrap64 ((c : Int) + mulI (x : Int) (-(t : Int)) 30) = (((c * 1073741824 + 536870912 - x * t) / 1073741824 : Nat) : Int) := by
  have e0 : mulI (x : Int) (-(t : Int)) 30 = (-((x : Int) * t) + 536870912) / 1073741824 := by
    unfold mulI
    have e1 : fac (x : Int) = x := clamp_id (by omega) (by omega)
    have e2 : fac (-(t : Int)) = -(t : Int) := clamp_id (by omega) (by omega)
    rw [e1, e2, Int.mul_neg]
    rfl
  have e3 : (((c * 1073741824 + 536870912 - x * t) / 1073741824 : Nat) : Int) = (c : Int) + (-((x : Int) * t) + 536870912) / 1073741824 := by
    rw [Int.natCast_ediv, Int.natCast_sub h, Int.natCast_add, Int.natCast_mul, Int.natCast_mul]
    generalize (x : Int) * t = p
    omega
  rw [e0, ← e3]
  have : (c * 1073741824 + 536870912 - x * t) / 1073741824 ≤ 2147483649 := by omega
  exact wrap_id (by omega) (by omega)
theorem stepN (c x s : Nat) (hc : c ≤ 2147483648) (hx : x ≤ 2147483648) (hs : s ≤ 2147483648) (h : (x * s + 536870912) / 1073741824 ≤ c) :
    wrap64 (-(c : Int) + mulI (x : Int) (s : Int) 30) = -(((c - (x * s + 536870912) / 1073741824 : Nat)) : Int) := by
  have e0 : mulI (x : Int) (s : Int) 30 = (((x * s + 536870912) / 1073741824 : Nat) : Int) := mulI_nat x s 30 hx hs
  rw [e0]
  generalize (x * s + 536870912) / 1073741824 = q at *
  rw [Int.natCast_sub h, wrap_id (by omega) (by omega)]
  omega
theorem arcN (v : Nat) (h : v ≤ 8192) : mulI (v : Int) 1686629713 14 = (((v * 1686629713 + 8192) / 16384 : Nat) : Int) ∧ (v * 1686629713 + 8192) / 16384 ≤ 843314857 :=
  ⟨mulI_nat v 1686629713 14 (by omega) (by omega), by omega⟩
theorem sqN (u : Nat) (h : u ≤ 843314857) : mulI (u : Int) (u : Int) 30 = (((u * u + 536870912) / 1073741824 : Nat) : Int) ∧ (u * u + 536870912) / 1073741824 ≤ 662340000 := by
  refine ⟨mulI_nat u u 30 (by omega) (by omega), ?_⟩
  have := Nat.mul_le_mul h h
  omega
theorem oneN (s : Nat) (h : s ≤ 1073741824) : mulI (s : Int) 1 15 = (((s + 16384) / 32768 : Nat) : Int) := by
  have := mulI_nat s 1 15 (by omega) (by omega)
  rw [Nat.mul_one] at this
  exact this
theorem qLow_eq (v : Nat) (h : v ≤ 8192) : quarterW (v : Int) = (qLow v : Int) := by
  unfold quarterW
  rw [if_pos (by omega)]
  obtain ⟨h1, b1⟩ := arcN v h
  obtain ⟨u, hu⟩ : ∃ u, u = (v * 1686629713 + 8192) / 16384 := ⟨_, rfl⟩
  rw [h1]
  have hq : qLow v = (fun u => (fun x => (fun s1 => (fun t2 => (fun s3 => (fun t4 => (fun s5 => (s5 + 16384) / 32768) ((1152921505143717888 - x * t4) / 1073741824)) (536870912 - (x * s3 + 536870912) / 1073741824))
    ((48038396920070144 - x * t2) / 1073741824)) (1491308 - (x * s1 + 536870912) / 1073741824)) ((28595355385856 - 296 * x) / 1073741824)) ((u * u + 536870912) / 1073741824)) ((v * 1686629713 + 8192) / 16384) := rfl
  rw [hq, ← hu]
  rw [← hu] at b1
  obtain ⟨h2, b2⟩ := sqN u b1
  rw [h2]
  obtain ⟨x, hx⟩ : ∃ x, x = (u * u + 536870912) / 1073741824 := ⟨_, rfl⟩
  rw [← hx] at b2 ⊢
  simp only [serW, ← hx]
  clear hq h1 h2 hx hu b1
  have a1 := stepP 26631 x 296 (by omega) (by omega) (by omega) (by omega)
  obtain ⟨s1, hs1⟩ : ∃ s, s = (28595355385856 - 296 * x) / 1073741824 := ⟨_, rfl⟩
  have c1 : (26631 * 1073741824 + 536870912 - x * 296) / 1073741824 = s1 := by rw [hs1, Nat.mul_comm x]
  rw [c1] at a1
  have a1' : wrap64 (26631 + mulI (x : Int) (-296) 30) = s1 := a1
  rw [a1', ← hs1]
  have l1 : s1 ≤ 26631 := by omega
  have m1 : x * s1 ≤ 662340000 * 26631 := Nat.mul_le_mul b2 l1
  clear a1 a1' c1 hs1
  have a2 := stepN 1491308 x s1 (by omega) (by omega) (by omega) (by omega)
  obtain ⟨t2, ht2⟩ : ∃ s, s = 1491308 - (x * s1 + 536870912) / 1073741824 := ⟨_, rfl⟩
  rw [← ht2] at a2 ⊢
  have a2' : wrap64 (-1491308 + mulI (x : Int) (s1 : Int) 30) = -(t2 : Int) := a2
  rw [a2']
  have l2 : t2 ≤ 1491308 := by omega
  have m2 : x * t2 ≤ 662340000 * 1491308 := Nat.mul_le_mul b2 l2
  clear a2 a2' ht2 m1 l1
  have a3 := stepP 44739243 x t2 (by omega) (by omega) (by omega) (by omega)
  obtain ⟨s3, hs3⟩ : ∃ s, s = (48038396920070144 - x * t2) / 1073741824 := ⟨_, rfl⟩
  have c3 : (44739243 * 1073741824 + 536870912 - x * t2) / 1073741824 = s3 := by rw [hs3]
  rw [c3] at a3
  have a3' : wrap64 (44739243 + mulI (x : Int) (-(t2 : Int)) 30) = s3 := a3
  rw [a3', ← hs3]
  have l3 : s3 ≤ 44739243 := by omega
  have m3 : x * s3 ≤ 662340000 * 44739243 := Nat.mul_le_mul b2 l3
  clear a3 a3' c3 hs3 m2 l2
  have a4 := stepN 536870912 x s3 (by omega) (by omega) (by omega) (by omega)
  obtain ⟨t4, ht4⟩ : ∃ s, s = 536870912 - (x * s3 + 536870912) / 1073741824 := ⟨_, rfl⟩
  rw [← ht4] at a4 ⊢
  have a4' : wrap64 (-536870912 + mulI (x : Int) (s3 : Int) 30) = -(t4 : Int) := a4
  rw [a4']
  have l4 : t4 ≤ 536870912 := by omega
  have m4 : x * t4 ≤ 662340000 * 536870912 := Nat.mul_le_mul b2 l4
  clear a4 a4' ht4 m3 l3
  have a5 := stepP 1073741824 x t4 (by omega) (by omega) (by omega) (by omega)
  obtain ⟨s5, hs5⟩ : ∃ s, s = (1152921505143717888 - x * t4) / 1073741824 := ⟨_, rfl⟩
  have c5 : (1073741824 * 1073741824 + 536870912 - x * t4) / 1073741824 = s5 := by rw [hs5]
  rw [c5] at a5
  have a5' : wrap64 (1073741824 + mulI (x : Int) (-(t4 : Int)) 30) = s5 := a5
  rw [a5', ← hs5]
  exact oneN s5 (by omega)
theorem qHigh_eq (y : Nat) (h : y < 8192) : quarterW (16384 - (y : Int)) = (qHigh y : Int) := by
  unfold quarterW
  rw [if_neg (by omega), show (16384 : Int) - (16384 - (y : Int)) = y by omega, wrap_id (n := (y : Int)) (by omega) (by omega)]
  obtain ⟨h1, b1⟩ := arcN y (by omega)
  obtain ⟨u, hu⟩ : ∃ u, u = (y * 1686629713 + 8192) / 16384 := ⟨_, rfl⟩
  rw [h1]
  have hq : qHigh y = (fun u => (fun x => (fun t1 => (fun s2 => (fun t3 => (fun s4 => ((u * s4 + 536870912) / 1073741824 + 16384) / 32768) ((1152921505143717888 - x * t3) / 1073741824)) (178956971 - (x * s2 + 536870912) / 1073741824))
    ((9607680243007488 - x * t1) / 1073741824)) (213044 - (2959 * x + 536870912) / 1073741824)) ((u * u + 536870912) / 1073741824)) ((y * 1686629713 + 8192) / 16384) := rfl
  rw [hq, ← hu]
  rw [← hu] at b1
  obtain ⟨h2, b2⟩ := sqN u b1
  rw [h2]
  obtain ⟨x, hx⟩ : ∃ x, x = (u * u + 536870912) / 1073741824 := ⟨_, rfl⟩
  rw [← hx] at b2 ⊢
  simp only [serW, ← hx]
  clear hq h1 h2 hx hu
  have a1 := stepN 213044 x 2959 (by omega) (by omega) (by omega) (by omega)
  obtain ⟨t1, ht1⟩ : ∃ s, s = 213044 - (2959 * x + 536870912) / 1073741824 := ⟨_, rfl⟩
  have c1 : 213044 - (x * 2959 + 536870912) / 1073741824 = t1 := by rw [ht1, Nat.mul_comm x]
  rw [c1] at a1
  have a1' : wrap64 (-213044 + mulI (x : Int) 2959 30) = -(t1 : Int) := a1
  rw [a1', ← ht1]
  have l1 : t1 ≤ 213044 := by omega
  have m1 : x * t1 ≤ 662340000 * 213044 := Nat.mul_le_mul b2 l1
  clear a1 a1' c1 ht1
  have a2 := stepP 8947849 x t1 (by omega) (by omega) (by omega) (by omega)
  obtain ⟨s2, hs2⟩ : ∃ s, s = (9607680243007488 - x * t1) / 1073741824 := ⟨_, rfl⟩
  have c2 : (8947849 * 1073741824 + 536870912 - x * t1) / 1073741824 = s2 := by rw [hs2]
  rw [c2] at a2
  have a2' : wrap64 (8947849 + mulI (x : Int) (-(t1 : Int)) 30) = s2 := a2
  rw [a2', ← hs2]
  have l2 : s2 ≤ 8947849 := by omega
  have m2 : x * s2 ≤ 662340000 * 8947849 := Nat.mul_le_mul b2 l2
  clear a2 a2' c2 hs2 m1 l1
  have a3 := stepN 178956971 x s2 (by omega) (by omega) (by omega) (by omega)
  obtain ⟨t3, ht3⟩ : ∃ s, s = 178956971 - (x * s2 + 536870912) / 1073741824 := ⟨_, rfl⟩
  rw [← ht3] at a3 ⊢
  have a3' : wrap64 (-178956971 + mulI (x : Int) (s2 : Int) 30) = -(t3 : Int) := a3
  rw [a3']
  have l3 : t3 ≤ 178956971 := by omega
  have m3 : x * t3 ≤ 662340000 * 178956971 := Nat.mul_le_mul b2 l3
  clear a3 a3' ht3 m2 l2
  have a4 := stepP 1073741824 x t3 (by omega) (by omega) (by omega) (by omega)
  obtain ⟨s4, hs4⟩ : ∃ s, s = (1152921505143717888 - x * t3) / 1073741824 := ⟨_, rfl⟩
  have c4 : (1073741824 * 1073741824 + 536870912 - x * t3) / 1073741824 = s4 := by rw [hs4]
  rw [c4] at a4
  have a4' : wrap64 (1073741824 + mulI (x : Int) (-(t3 : Int)) 30) = s4 := a4
  rw [a4', ← hs4]
  have l4 : s4 ≤ 1073741824 := by omega
  have m4 : u * s4 ≤ 843314857 * 1073741824 := Nat.mul_le_mul b1 l4
  have a5 : mulI (u : Int) (s4 : Int) 30 = (((u * s4 + 536870912) / 1073741824 : Nat) : Int) := mulI_nat u s4 30 (by omega) (by omega)
  rw [a5]
  exact oneN _ (by omega)
theorem qN_eq (v : Nat) (h : v ≤ 16384) : quarterW (v : Int) = (qN v : Int) := by
  unfold qN
  by_cases c : v ≤ 8192
  · rw [show Nat.ble v 8192 = true from Nat.ble_eq_true_of_le c, cond_true]
    exact qLow_eq v c
  · rw [show Nat.ble v 8192 = false by rw [Bool.eq_false_iff]; intro hh; exact c (Nat.le_of_ble_eq_true hh), cond_false]
    have := qHigh_eq (16384 - v) (by omega)
    rw [show (16384 : Int) - ((16384 - v : Nat) : Int) = v by omega] at this
    exact this
theorem qN_le (v : Nat) (h : v ≤ 16384) : qN v ≤ 32768 := by
  have h1 := quarter_in (v := (v : Int)) (by omega) (by omega)
  rw [qN_eq v h] at h1
  omega
theorem bleT {a b : Nat} (h : a ≤ b) : Nat.ble a b = true := Nat.ble_eq_true_of_le h
theorem bleF {a b : Nat} (h : ¬ a ≤ b) : Nat.ble a b = false := by rw [Bool.eq_false_iff]; intro hh; exact h (Nat.le_of_ble_eq_true hh)
theorem cN_eq (a : Nat) (h : a ≤ 65536) : (cN a : Int) = cosW (a : Int) + 32768 := by
  unfold cN cosW
  simp only [and_mask]
  by_cases c1 : a ≤ 16384
  · rw [bleT c1, cond_true, show (a : Int) % 65536 = a by omega, if_neg (by omega)]
    unfold cosT
    rw [if_neg (by omega), qN_eq a c1]
    show ((32768 + qN a : Nat) : Int) = _
    omega
  · rw [bleF c1, cond_false]
    by_cases c2 : a ≤ 32768
    · rw [bleT c2, cond_true, show (a : Int) % 65536 = a by omega, if_neg (by omega)]
      unfold cosT
      have hq := qN_le (32768 - a) (by omega)
      rw [if_pos (by omega), wrap_id (n := 32768 - (a : Int)) (by omega) (by omega), show (32768 : Int) - a = ((32768 - a : Nat) : Int) by omega, qN_eq (32768 - a) (by omega)]
      rw [wrap_id (n := -((qN (32768 - a) : Nat) : Int)) (by omega) (by omega)]
      show ((32768 - qN (32768 - a) : Nat) : Int) = _
      omega
    · rw [bleF c2, cond_false]
      by_cases c3 : a ≤ 49151
      · rw [bleT c3, cond_true, show (a : Int) % 65536 = a by omega, if_pos (by omega), wrap_id (n := 65536 - (a : Int)) (by omega) (by omega)]
        unfold cosT
        have hq := qN_le (a - 32768) (by omega)
        rw [if_pos (by omega), wrap_id (n := 32768 - (65536 - (a : Int))) (by omega) (by omega), show (32768 : Int) - (65536 - a) = ((a - 32768 : Nat) : Int) by omega, qN_eq (a - 32768) (by omega)]
        rw [wrap_id (n := -((qN (a - 32768) : Nat) : Int)) (by omega) (by omega)]
        show ((32768 - qN (a - 32768) : Nat) : Int) = _
        omega
      · rw [bleF c3, cond_false]
        have hq := qN_eq (65536 - a) (by omega)
        by_cases c4 : a = 65536
        · subst c4
          rw [show ((65536 : Nat) : Int) % 65536 = 0 by decide, if_neg (by omega)]
          unfold cosT
          rw [if_neg (by omega)]
          rw [show ((65536 - 65536 : Nat) : Int) = 0 by decide] at hq
          rw [hq]
          show ((32768 + qN (65536 - 65536) : Nat) : Int) = _
          omega
        · rw [show (a : Int) % 65536 = a by omega, if_pos (by omega), wrap_id (n := 65536 - (a : Int)) (by omega) (by omega)]
          unfold cosT
          rw [if_neg (by omega), show (65536 : Int) - a = ((65536 - a : Nat) : Int) by omega, hq]
          show ((32768 + qN (65536 - a) : Nat) : Int) = _
          omega
theorem oN_eq {n p : Nat} (hp : p < 8 * n) : (oN n p : Int) = waveP n p + 32768 := by
  have hq : p * 16384 / n < 131072 := Nat.div_lt_of_lt_mul (by omega)
  have e : oN n p = cN ((p * 16384 / n + 1) / 2) := rfl
  rw [e, cN_eq _ (by omega)]
  unfold waveP
  rw [show (((p * 16384 / n + 1) / 2 : Nat) : Int) = ((p : Int) * 16384 / n + 1) / 2 by rw [Int.natCast_ediv, Int.natCast_add, Int.natCast_ediv, Int.natCast_mul]; rfl]
theorem oN_le {n p : Nat} (hp : p < 8 * n) : oN n p ≤ 65536 := by
  have h1 := oN_eq hp
  have h2 := cos_in (((p : Int) * 16384 / n + 1) / 2)
  unfold waveP at h1
  omega
theorem dig_eq {n p : Nat} (hp : p < 8 * n) : dig (T n) p = oN n p := by
  have := pk_digit (oN n) 131072 (by omega) (8 * n) 0 p (fun k _ h => by have := oN_le (n := n) (p := k) (by omega); omega) hp
  rw [Nat.zero_add] at this
  exact this
theorem at_lt {n : Nat} (hn : 0 < n) (j k : Nat) : at_ n j k < 8 * n := Nat.mod_lt _ (show 0 < 8 * n by omega)
/-- the cosine that sample j and frequency k meet at -/
def cw (n j k : Nat) : Int := waveP n (at_ n j k)
theorem dig_at {n : Nat} (hn : 0 < n) (j k : Nat) : (dig (T n) (at_ n j k) : Int) = cw n j k + 32768 := by rw [dig_eq (at_lt hn j k), oN_eq (at_lt hn j k)]; rfl
theorem dig_le {n : Nat} (hn : 0 < n) (j k : Nat) : dig (T n) (at_ n j k) ≤ 65536 := by rw [dig_eq (at_lt hn j k)]; exact oN_le (at_lt hn j k)
theorem cw_in (n j k : Nat) : -32768 ≤ cw n j k ∧ cw n j k ≤ 32768 := cos_in _
theorem dotN_eq {n : Nat} (hn : 0 < n) (h : n ≤ 160) (j m : Nat) : dotN n j m = sm (fun k => dig (T n) (at_ n j k) * dig (T n) (at_ n m (n - 1 - (n - 1 - k)))) n 0 := by
  obtain ⟨N, rfl⟩ : ∃ N, n = N + 1 := ⟨n - 1, by omega⟩
  have := conv_digit (fun k => dig (T (N + 1)) (at_ (N + 1) j k)) (fun k => dig (T (N + 1)) (at_ (N + 1) m (Nat.sub (Nat.sub (N + 1) 1) k))) 1099511627776 65536 N (fun k => dig_le hn j k) (fun k => dig_le hn m _) (by omega)
  exact this
end Go.Proofs.Ytnliianjljgcbaa.Kern
