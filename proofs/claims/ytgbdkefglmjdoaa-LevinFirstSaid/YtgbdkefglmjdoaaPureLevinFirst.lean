/- LevinFirst: a sound of which each sample is a part of the one ahead is foretold by about that part (within 40 of 4096ths). For every part from -3686 to 3686 and every n from 200 to 400; else nothing is asked. -/
import Derived.Test.YtgbdkefglmjdoaaMAx23
import Derived.Test.YtgbdkefglmjdoaaReachC
namespace Go.Proofs.Ytgbdkefglmjdoaa.Pure
open Go.RowKit Go.Proofs.Ytgbdkefglmjdoaa.MA Go.Proofs.YtgbdkefglmjdoaaW.PrintWords Go.Proofs.YtgbdkefglmjdoaaW.PrintLast Go.Proofs.Ytgbdkefglmjdoaa.Core Go.Proofs.Ytgbdkefglmjdoaa.Base Go.Proofs.Ytgbdkefglmjdoaa.Plain Go.Proofs.Ytgbdkefglmjdoaa.Reach Go.Proofs.Ytgbdkefglmjdoaa.Filt Go.Proofs.Ytgbdkefglmjdoaa.ReachB Go.Proofs.Ytgbdkefglmjdoaa.ReachC

/-- the sound -/
def snd (p : Int) : Nat → Int
  | 0 => 30000
  | n + 1 => Int.tdiv (snd p n * p) 4096

theorem tdiv_facts (a : Int) : 4096 * Int.tdiv a 4096 - a ≤ 4095 ∧ a - 4096 * Int.tdiv a 4096 ≤ 4095 ∧ (0 ≤ a → 0 ≤ Int.tdiv a 4096 ∧ 4096 * Int.tdiv a 4096 ≤ a) ∧ (a ≤ 0 → Int.tdiv a 4096 ≤ 0 ∧ a ≤ 4096 * Int.tdiv a 4096) := by
  rcases Int.le_total 0 a with h | h
  · have e : Int.tdiv a 4096 = a / 4096 := Int.tdiv_eq_ediv_of_nonneg h
    rw [e]
    refine ⟨?_, ?_, ?_, ?_⟩ <;> omega
  · have e : Int.tdiv (-a) 4096 = (-a) / 4096 := Int.tdiv_eq_ediv_of_nonneg (by omega)
    rw [Int.neg_tdiv] at e
    refine ⟨?_, ?_, ?_, ?_⟩ <;> omega

theorem sum_last (f : Nat → Int) (n : Nat) : sumFrom f 0 (n + 1) = sumFrom f 0 n + f n := by
  have h := sumFrom_split f n 0 1
  rw [h, Nat.zero_add]
  simp [sumFrom]

/-- how great it is, without its sign -/
def mag (x : Int) : Int := if x < 0 then -x else x

theorem mag_step {x p : Int} (hp : -3686 ≤ p ∧ p ≤ 3686) : 4096 * mag (Int.tdiv (x * p) 4096) ≤ 3686 * mag x := by
  have hm : -(mag x * 3686) ≤ x * p ∧ x * p ≤ mag x * 3686 := mul_le_of (A := mag x) (B := 3686) (by unfold mag; split <;> omega) hp
  have := tdiv_facts (x * p)
  unfold mag at *
  split <;> omega

theorem snd_bd {p : Int} (hp : -3686 ≤ p ∧ p ≤ 3686) (n : Nat) : mag (snd p n) ≤ 30000 := by
  induction n with
  | zero => show mag 30000 ≤ 30000; decide
  | succ n ih =>
    have h := mag_step (x := snd p n) hp
    have : mag (snd p (n + 1)) = mag (Int.tdiv (snd p n * p) 4096) := rfl
    have h0 : 0 ≤ mag (snd p n) := by unfold mag; split <;> omega
    omega

theorem snd_sum {p : Int} (hp : -3686 ≤ p ∧ p ≤ 3686) (n : Nat) : 410 * sumFrom (fun i => mag (snd p i)) 0 n + 4096 * mag (snd p n) ≤ 122880000 := by
  induction n with
  | zero => show 410 * (0 : Int) + 4096 * mag 30000 ≤ 122880000; decide
  | succ n ih =>
    have h := mag_step (x := snd p n) hp
    have e : mag (snd p (n + 1)) = mag (Int.tdiv (snd p n * p) 4096) := rfl
    rw [sum_last]
    omega

theorem snd_dec {p : Int} (hp : -3686 ≤ p ∧ p ≤ 3686) (n : Nat) : (n : Int) * mag (snd p n) ≤ sumFrom (fun i => mag (snd p i)) 0 n := by
  induction n with
  | zero => simp [sumFrom]
  | succ n ih =>
    have h := mag_step (x := snd p n) hp
    have e : mag (snd p (n + 1)) = mag (Int.tdiv (snd p n * p) 4096) := rfl
    have h0 : 0 ≤ mag (snd p n) := by unfold mag; split <;> omega
    rw [sum_last]
    have hle : mag (snd p (n + 1)) ≤ mag (snd p n) := by omega
    have h1 : (n : Int) * mag (snd p (n + 1)) ≤ n * mag (snd p n) := Int.mul_le_mul_of_nonneg_left hle (by omega)
    have e2 : ((n + 1 : Nat) : Int) * mag (snd p (n + 1)) = n * mag (snd p (n + 1)) + mag (snd p (n + 1)) := by
      rw [Int.natCast_add, Int.add_mul]; simp
    rw [e2]; omega

/-- The last one is small. -/
theorem snd_last {p : Int} (hp : -3686 ≤ p ∧ p ≤ 3686) (n : Nat) (hn : 199 ≤ n) : mag (snd p n) ≤ 1506 := by
  have h1 := snd_sum hp n
  have h2 := snd_dec hp n
  have h0 : 0 ≤ mag (snd p n) := by unfold mag; split <;> omega
  have h3 : 199 * mag (snd p n) ≤ n * mag (snd p n) := Int.mul_le_mul_of_nonneg_right (by omega) h0
  omega

theorem mag_sq (x : Int) : x * x = mag x * mag x := by
  unfold mag; split
  · rw [Int.neg_mul_neg]
  · rfl

/-- What is foretold, and what not: 4096 r1 against part times r0. -/
theorem snd_close (p : Int) (n : Nat) :
    4096 * sumFrom (fun i => snd p i * snd p (i + 1)) 0 n - p * sumFrom (fun i => snd p i * snd p i) 0 n ≤ 4096 * sumFrom (fun i => mag (snd p i)) 0 n ∧
    p * sumFrom (fun i => snd p i * snd p i) 0 n - 4096 * sumFrom (fun i => snd p i * snd p (i + 1)) 0 n ≤ 4096 * sumFrom (fun i => mag (snd p i)) 0 n := by
  induction n with
  | zero => simp [sumFrom]
  | succ n ih =>
    rw [sum_last, sum_last, sum_last, Int.mul_add, Int.mul_add]
    have ht := tdiv_facts (snd p n * p)
    have e : snd p (n + 1) = Int.tdiv (snd p n * p) 4096 := rfl
    rw [← e] at ht
    have hd := mul_le_of (x := snd p n) (y := 4096 * snd p (n + 1) - snd p n * p) (A := mag (snd p n)) (B := 4096) (by unfold mag; split <;> omega) (by omega)
    have ex : snd p n * (4096 * snd p (n + 1) - snd p n * p) = 4096 * (snd p n * snd p (n + 1)) - p * (snd p n * snd p n) := by
      rw [Int.mul_sub, ← Int.mul_assoc, Int.mul_comm (snd p n) 4096, Int.mul_assoc, ← Int.mul_assoc (snd p n) (snd p n) p, Int.mul_comm (snd p n * snd p n) p]
    rw [ex] at hd
    omega

/-- the two numbers -/
theorem first_r {p : Int} (hp : -3686 ≤ p ∧ p ≤ 3686) (n : Nat) (h1 : 200 ≤ n) (h2 : n ≤ 400) :
    let xs := (List.range n).map (snd p)
    (autoW (xs.map sat) 1) = [sumFrom (fun i => snd p i * snd p i) 0 n, sumFrom (fun i => snd p i * snd p (i + 1)) 0 (n - 1)] := by
  intro xs
  have hxl : xs.length = n := by simp [xs]
  have hxg : ∀ i, i < n → xs.getD i 0 = snd p i := by
    intro i hi; simp [xs, List.getD, hi]
  have hsg : ∀ i, i < n → (xs.map sat).getD i 0 = snd p i := by
    intro i hi
    rw [getD_map (by omega), hxg i hi]
    have := snd_bd hp i
    exact clamp_id (by unfold mag at this; split at this <;> omega) (by unfold mag at this; split at this <;> omega)
  have hb := sat_getD_bd xs
  have hl : (xs.map sat).length = n := by simp [hxl]
  have er : List.range (1 + 1) = [0, 1] := rfl
  unfold autoW
  rw [er]
  simp only [List.map_cons, List.map_nil]
  have e0 : corrW (xs.map sat) 0 ((xs.map sat).length - 0) 0 0 = sumFrom (fun i => snd p i * snd p i) 0 n := by
    rw [corr_exact hb _ _ _ (by omega), Nat.sub_zero, hl]
    exact sumFrom_congr _ _ (fun i _ hi => by rw [Nat.sub_zero, hsg i (by omega)])
  have e1 : corrW (xs.map sat) 1 ((xs.map sat).length - 1) 1 0 = sumFrom (fun i => snd p i * snd p (i + 1)) 0 (n - 1) := by
    rw [corr_exact hb _ _ _ (by omega), hl]
    have hs := sumFrom_shift (fun i => snd p i * snd p (i + 1)) 1 (n - 1) 0
    rw [← hs]
    exact sumFrom_congr _ _ (fun i h1 h2 => by
      rw [hsg i (by omega), hsg (i - 1) (by omega), show i - 1 + 1 = i by omega, Int.mul_comm])
  rw [e0, e1]

/-- Where the two numbers stand to each other. -/
theorem first_close {p : Int} (hp : -3686 ≤ p ∧ p ≤ 3686) (n : Nat) (h1 : 200 ≤ n) (h2 : n ≤ 400) :
    let r0 := sumFrom (fun i => snd p i * snd p i) 0 n
    let r1 := sumFrom (fun i => snd p i * snd p (i + 1)) 0 (n - 1)
    900000000 ≤ r0 ∧ r0 ≤ 429496729600 ∧ 4096 * r1 - p * r0 ≤ 11 * r0 ∧ p * r0 - 4096 * r1 ≤ 11 * r0 := by
  intro r0 r1
  obtain ⟨m, rfl⟩ : ∃ m, n = m + 1 := ⟨n - 1, by omega⟩
  have hr0 : r0 = sumFrom (fun i => snd p i * snd p i) 0 m + snd p m * snd p m := sum_last _ _
  have hc := snd_close p m
  have hr1 : r1 = sumFrom (fun i => snd p i * snd p (i + 1)) 0 m := rfl
  rw [← hr1] at hc
  have hsum := snd_sum hp m
  have hlast := snd_last hp m (by omega)
  have hmn : 0 ≤ mag (snd p m) := by unfold mag; split <;> omega
  have hq : 0 ≤ snd p m * snd p m ∧ snd p m * snd p m ≤ 2268036 := by
    rw [mag_sq]
    exact ⟨Int.mul_nonneg hmn hmn, by have := mul_le_of (x := mag (snd p m)) (y := mag (snd p m)) (A := 1506) (B := 1506) (by omega) (by omega); omega⟩
  have hpq := mul_le_of (x := p) (y := snd p m * snd p m) (A := 3686) (B := 2268036) hp (by omega)
  have h9 : 900000000 ≤ r0 := by
    have h3 := sumFrom_split (fun i => snd p i * snd p i) 1 0 m
    rw [Nat.add_comm 1 m] at h3
    have h4 := sumFrom_nonneg (f := fun i => snd p i * snd p i) m (0 + 1) (fun i => sq_nonneg _)
    have h5 : sumFrom (fun i => snd p i * snd p i) 0 1 = 900000000 := by simp [sumFrom, snd]
    have : r0 = sumFrom (fun i => snd p i * snd p i) 0 (m + 1) := rfl
    omega
  have hup : r0 ≤ 429496729600 := by
    have := (sumFrom_bd (M := 1073741824) (by omega) (f := fun i => snd p i * snd p i) (fun i => by
      have hb := snd_bd hp i
      have := mul_le_of (x := snd p i) (y := snd p i) (A := 32768) (B := 32768) (by unfold mag at hb; split at hb <;> omega) (by unfold mag at hb; split at hb <;> omega)
      omega) (m + 1) 0).2
    have e : r0 = sumFrom (fun i => snd p i * snd p i) 0 (m + 1) := rfl
    have : ((m + 1 : Nat) : Int) ≤ 400 := by omega
    omega
  have hm : p * r0 = p * sumFrom (fun i => snd p i * snd p i) 0 m + p * (snd p m * snd p m) := by rw [hr0, Int.mul_add]
  refine ⟨h9, hup, ?_, ?_⟩
  · rw [hm]; omega
  · rw [hm]; omega

/-- Halving keeps them close. -/
theorem halve_close {p : Int} (hp : -3686 ≤ p ∧ p ≤ 3686) (f : Nat) : ∀ (a b : Int), 536870912 ≤ a → 4096 * b - p * a ≤ 11 * a + 8000 → p * a - 4096 * b ≤ 11 * a + 8000 → (halveW f [a, b]).getD 0 0 < 1073741824 →
    ∃ a' b', halveW f [a, b] = [a', b'] ∧ 536870912 ≤ a' ∧ a' < 1073741824 ∧ 4096 * b' - p * a' ≤ 11 * a' + 8000 ∧ p * a' - 4096 * b' ≤ 11 * a' + 8000 := by
  induction f with
  | zero => intro a b h1 h2 h3 h4; exact ⟨a, b, rfl, h1, by simpa [halveW] using h4, h2, h3⟩
  | succ f ih =>
    intro a b h1 h2 h3 h4
    rw [halveW] at h4 ⊢
    by_cases c : ([a, b] : List Int).getD 0 0 ≥ 1073741824
    · rw [if_pos c] at h4 ⊢
      have c' : a ≥ 1073741824 := c
      refine ih (a / 2) (b / 2) (by omega) ?_ ?_ h4
      · have ha : a = 2 * (a / 2) + a % 2 := by omega
        have hpa : p * a = 2 * (p * (a / 2)) + p * (a % 2) := by
          rw [← Int.mul_assoc, Int.mul_comm 2 p, Int.mul_assoc, ← Int.mul_add, ← ha]
        have hpe := mul_le_of (x := p) (y := a % 2) (A := 3686) (B := 1) hp (by omega)
        rw [hpa] at h2 h3
        omega
      · have ha : a = 2 * (a / 2) + a % 2 := by omega
        have hpa : p * a = 2 * (p * (a / 2)) + p * (a % 2) := by
          rw [← Int.mul_assoc, Int.mul_comm 2 p, Int.mul_assoc, ← Int.mul_add, ← ha]
        have hpe := mul_le_of (x := p) (y := a % 2) (A := 3686) (B := 1) hp (by omega)
        rw [hpa] at h2 h3
        omega
    · rw [if_neg c] at h4 ⊢
      exact ⟨a, b, rfl, h1, h4, h2, h3⟩

/-- The quotient is near the part. -/
theorem quot_close {p a b e D A : Int} (hp : -3686 ≤ p ∧ p ≤ 3686) (h1 : 536870912 ≤ a) (h2 : a < 1073741824) (h3 : 4096 * b - p * a ≤ 11 * a + 8000) (h4 : p * a - 4096 * b ≤ 11 * a + 8000) (he : e = a + (a / 1024 + 1))
    (hD : D = b * 16777216 / e) (hA : A = (D + 2048) / 4096) : -15264000 ≤ D ∧ D ≤ 15264000 ∧ A - p ≤ 40 ∧ -40 ≤ A - p := by
  have hepos : 0 < e := by omega
  have d1 : D * e ≤ b * 16777216 := by rw [hD]; exact Int.ediv_mul_le _ (by omega)
  have d2 : b * 16777216 < (D + 1) * e := by rw [hD]; exact Int.lt_ediv_add_one_mul_self _ hepos
  have hpa := mul_le_of (x := p) (y := a) (A := 3686) (B := 1073741824) hp (by omega)
  have pd := mul_le_of (x := p) (y := a / 1024 + 1) (A := 3686) (B := a / 1024 + 1) hp (by omega)
  have pe : p * e = p * a + p * (a / 1024 + 1) := by rw [he, Int.mul_add]
  have up : A - p ≤ 40 := by
    by_cases h : A - p ≤ 40
    · exact h
    · exfalso
      have hDl : 4096 * p + 165888 ≤ D := by omega
      have h5 : (4096 * p + 165888) * e ≤ D * e := Int.mul_le_mul_of_nonneg_right hDl (by omega)
      rw [Int.add_mul, Int.mul_assoc, pe] at h5
      omega
  have lo : -40 ≤ A - p := by
    by_cases h : -40 ≤ A - p
    · exact h
    · exfalso
      have hDl : D + 1 ≤ 4096 * p - 165888 := by omega
      have h5 : (D + 1) * e ≤ (4096 * p - 165888) * e := Int.mul_le_mul_of_nonneg_right hDl (by omega)
      rw [Int.sub_mul, Int.mul_assoc, pe] at h5
      omega
  clear d1 d2 pe pd hpa h3 h4 hD
  exact ⟨by omega, by omega, up, lo⟩

theorem fac_id {a : Int} (h : -2147483648 ≤ a ∧ a ≤ 2147483648) : fac a = a := clamp_id h.1 h.2

/-- A filter of one number below 4092 is as it is. -/
theorem fit_one {a : Int} (h : -4000 ≤ a ∧ a ≤ 4000) : fitW [a] = [a] := by
  have hc : clamp a (-131072) 131072 = a := clamp_id (by omega) (by omega)
  unfold fitW
  rw [if_neg (by simp)]
  simp only [List.map_cons, List.map_nil, hc]
  have hs : stableW [a] = true := by
    unfold stableW
    rw [if_neg (by simp)]
    simp only [List.map_cons, List.map_nil, hc, List.length_singleton]
    have hw : wrap64 (4096 * a) = 4096 * a := wrap_id (by omega) (by omega)
    rw [hw, stabW]
    have hg : ([4096 * a] : List Int).getD 0 0 = 4096 * a := rfl
    rw [hg, if_neg (by omega), stabW]
  rw [fitL, if_pos hs]

theorem solve_close {p r0 r1 : Int} (hp : -3686 ≤ p ∧ p ≤ 3686) (h1 : 900000000 ≤ r0) (h2 : r0 ≤ 429496729600) (h3 : 4096 * r1 - p * r0 ≤ 11 * r0) (h4 : p * r0 - 4096 * r1 ≤ 11 * r0) :
    ∃ A, solveW [r0, r1] = [A] ∧ A - p ≤ 40 ∧ -40 ≤ A - p := by
  have hpr := mul_le_of (x := p) (y := r0) (A := 3686) (B := 429496729600) hp (by omega)
  have c0 : clamp r0 (-2199023255552) 2199023255552 = r0 := clamp_id (by omega) (by omega)
  have c1 : clamp r1 (-2199023255552) 2199023255552 = r1 := clamp_id (by omega) (by omega)
  have hm : ([r0, r1].map fun v => clamp v (-2199023255552) 2199023255552) = [r0, r1] := by simp only [List.map_cons, List.map_nil, c0, c1]
  have hd : dblW 64 [r0, r1] = [r0, r1] := by
    have hg : ([r0, r1] : List Int).getD 0 0 = r0 := rfl
    rw [dblW, hg, if_neg (by omega)]
  have hmid := (scaled_mid [r0, r1] (by simp) (show (1 : Int) ≤ r0 by omega)).2
  rw [hm, hd] at hmid
  obtain ⟨a, b, hab, ha1, ha2, hb1, hb2⟩ := halve_close hp 64 r0 r1 (by omega) (by omega) (by omega) hmid
  have hsc : scaledW [r0, r1] = [a + (a / 1024 + 1), b] := by
    unfold scaledW
    rw [hm, hd, hab]
    have hg : ([a, b] : List Int).getD 0 0 = a := rfl
    have ht : Int.tdiv a 1024 = a / 1024 := Int.tdiv_eq_ediv_of_nonneg (by omega)
    simp only [hg, ht]
    rw [wrap_id (n := a / 1024) (by omega) (by omega), wrap_id (n := a / 1024 + 1) (by omega) (by omega), wrap_id (n := a + (a / 1024 + 1)) (by omega) (by omega)]
    rfl
  have hpa := mul_le_of (x := p) (y := a) (A := 3686) (B := 1073741824) hp (by omega)
  have q := quot_close (e := a + (a / 1024 + 1)) (D := b * 16777216 / (a + (a / 1024 + 1))) (A := (b * 16777216 / (a + (a / 1024 + 1)) + 2048) / 4096) hp ha1 ha2 hb1 hb2 rfl rfl rfl
  have hk : kOf [a + (a / 1024 + 1), b] [] 0 (a + (a / 1024 + 1)) = b * 16777216 / (a + (a / 1024 + 1)) := by
    unfold kOf
    rw [tSum]
    have hg : ([a + (a / 1024 + 1), b] : List Int).getD (0 + 1) 0 = b := rfl
    rw [hg]
    unfold divI
    rw [fac_id (a := b) (by omega), fac_id (a := a + (a / 1024 + 1)) (by omega), if_neg (by omega), if_neg (by omega)]
    have : (2 : Int) ^ (24 : Int).toNat = 16777216 := by decide
    rw [this]
    exact clamp_id (by omega) (by omega)
  refine ⟨(b * 16777216 / (a + (a / 1024 + 1)) + 2048) / 4096, ?_, q.2.2.1, q.2.2.2⟩
  unfold solveW
  have hg : ([r0, r1] : List Int).getD 0 0 = r0 := rfl
  rw [hg, if_neg (by omega), hsc]
  have hg2 : ([a + (a / 1024 + 1), b] : List Int).getD 0 0 = a + (a / 1024 + 1) := rfl
  have hl : ([r0, r1] : List Int).length - 1 = 0 + 1 := rfl
  rw [hg2, hl, levinW, levinW, hk]
  simp only [List.range_zero, List.map_nil, List.nil_append, List.map_cons]
  have hmul : mulI (b * 16777216 / (a + (a / 1024 + 1))) 1 12 = (b * 16777216 / (a + (a / 1024 + 1)) + 2048) / 4096 := by
    unfold mulI
    rw [fac_id (by omega), fac_id (a := 1) (by omega), Int.mul_one]
    rfl
  rw [hmul]
  exact fit_one (by omega)

theorem first_l0 (p n : Int) (hp : -3686 ≤ p ∧ p ≤ 3686) (h1 : 200 ≤ n) (h2 : n ≤ 400) (d : Nat) : ∀ (i : Nat), (i : Int) + d = n →
    Ev (fun k => madrigallaw12_LevinFirst.l0 k p n (snd p i) ((List.range i).map (snd p)) (i : Int)) true := by
  induction d with
  | zero =>
    intro i hi
    refine Ev.step (fun k => by rw [madrigallaw12_LevinFirst.l0]) ?_
    refine ev_neg (by omega) ?_
    refine Ev.bind (auto_ev _ 1 (by simp; omega) (by omega) (by omega)) ?_
    have hr := first_r hp i (by omega) (by omega)
    have hc := first_close hp i (by omega) (by omega)
    simp only [] at hr hc
    have e1 : (1 : Int).toNat = 1 := rfl
    rw [e1, hr]
    refine Ev.bind (solve_ev _ (by simp) (by simp)) ?_
    obtain ⟨A, hA, ha1, ha2⟩ := solve_close hp hc.1 hc.2.1 hc.2.2.1 hc.2.2.2
    rw [hA]
    refine ev_pos rfl (ev_pos rfl (ev_pos rfl (ev_pos (by simp) ?_)))
    have hw : wrap64 (rd [A] 0 - p) = A - p := by
      have : rd [A] 0 = A := rfl
      rw [this]; exact wrap_id (by omega) (by omega)
    rw [hw, decide_eq_true (show A - p ≥ -40 from ha2)]
    exact ev_pos ha1 (Ev.now _)
  | succ d ih =>
    intro i hi
    refine Ev.step (fun k => by rw [madrigallaw12_LevinFirst.l0]) ?_
    refine ev_pos (by omega) (ev_pos (by simp; omega) ?_)
    have hb := snd_bd hp i
    have hx := mul_le_of (x := snd p i) (y := p) (A := 30000) (B := 3686) (by unfold mag at hb; split at hb <;> omega) hp
    have hb2 := snd_bd hp (i + 1)
    have e1 : wrap64 (snd p i * p) = snd p i * p := wrap_id (by omega) (by omega)
    have e2 : wrap64 (Int.tdiv (snd p i * p) 4096) = snd p (i + 1) := by
      have : snd p (i + 1) = Int.tdiv (snd p i * p) 4096 := rfl
      rw [← this]
      exact wrap_id (by unfold mag at hb2; split at hb2 <;> omega) (by unfold mag at hb2; split at hb2 <;> omega)
    have e3 : (List.range i).map (snd p) ++ [snd p i] = (List.range (i + 1)).map (snd p) := by
      rw [List.range_succ, List.map_append]; rfl
    rw [e1, e2, e3, wsucc (by omega)]
    exact ih (i + 1) (by omega)

theorem LevinFirst : madrigallaw12_LevinFirst.Pure := by
  intro p n _ _
  refine Ev.rounds ?_
  unfold madrigallaw12_LevinFirst.f madrigallaw12_awake.f
  refine ev_some (ev_pos rfl ?_)
  have hj : Ev (fun k => madrigallaw12_LevinFirst.j0 k p n true) true := by
    refine Ev.step (fun k => by rw [madrigallaw12_LevinFirst.j0]) ?_
    exact ev_pos rfl (Ev.now _)
  by_cases h1 : p < -3686
  · exact ev_pos h1 hj
  · refine ev_neg h1 ?_
    by_cases h2 : p > 3686
    · exact ev_pos h2 hj
    · refine ev_neg h2 ?_
      by_cases h3 : n < 200
      · exact ev_pos h3 hj
      · refine ev_neg h3 ?_
        by_cases h4 : n > 400
        · rw [decide_eq_true h4]; exact hj
        · rw [decide_eq_false h4]
          refine Ev.step (fun k => by rw [madrigallaw12_LevinFirst.j0]) ?_
          refine ev_neg (by decide) ?_
          exact first_l0 p n (by omega) (by omega) (by omega) n.toNat 0 (by omega)

end Go.Proofs.Ytgbdkefglmjdoaa.Pure
