/- A constant stays one behind sixteen samples: the plain law. No condition. -/
import Derived.Test.YtocnpnpedmapbaaConstW
import Derived.Test.YtocnpnpedmapbaaRunP
import Derived.DataShut
namespace Go.Proofs.Ytocnpnpedmapbaa.Pure
open Go.RowKit Go.Proofs.YtocnpnpedmapbaaW.PrintWords Go.Proofs.YtocnpnpedmapbaaW.PrintLast Go.Proofs.YtocnpnpedmapbaaW.PrintMore Go.Proofs.Ytocnpnpedmapbaa.MA Go.Proofs.Ytocnpnpedmapbaa.Core Go.Proofs.Ytocnpnpedmapbaa.Base Go.Proofs.Ytocnpnpedmapbaa.Tabl Go.Proofs.Ytocnpnpedmapbaa.RunP

theorem rclamp_ev (a lo hi : Int) : Ev (fun k => madrigalref1_Clamp.f k a lo hi) (clamp a lo hi) := by
  refine ⟨1, fun k hk => ?_⟩
  obtain ⟨k, rfl⟩ : ∃ m, k = m + 1 := ⟨k - 1, by omega⟩
  simp only [madrigalref1_Clamp.f, madrigalref1_Clamp.j0, clamp]
  by_cases h1 : lo > hi
  · by_cases h2 : a < lo
    · simp [h1, h2]
    · simp [h1, h2]
  · by_cases h2 : a < lo
    · simp [h1, h2]
    · by_cases h3 : a > hi
      · simp [h1, h2, h3]
      · simp [h1, h2, h3]
theorem rsat_ev (v : Int) : Ev (fun k => madrigalref1_Sat16.f k v) (satI v) := by
  unfold madrigalref1_Sat16.f
  exact Ev.bind (rclamp_ev _ _ _) (Ev.now _)

theorem wrap_in (n : Int) : -9223372036854775808 ≤ wrap64 n ∧ wrap64 n ≤ 9223372036854775807 := by unfold wrap64; omega
theorem accW_in (z : List Int) : ∀ (fs : List Int) (s : Int) (i : Nat), (-9223372036854775808 ≤ s ∧ s ≤ 9223372036854775807) → -9223372036854775808 ≤ accW z fs s i ∧ accW z fs s i ≤ 9223372036854775807
  | [], s, i, h => h
  | f :: fs, s, i, h => by rw [accW]; exact accW_in z fs _ _ (wrap_in _)

theorem const_z (v : Int) (N j : Nat) (h1 : 16 ≤ j) (h2 : j < 16 + N) : (List.replicate 16 (0 : Int) ++ (List.replicate N v).map satI).getD j 0 = satI v := by
  rw [List.getD_eq_getElem?_getD, List.getElem?_append_right (by simpa using h1), List.length_replicate, List.getElem?_map, List.getElem?_replicate, if_pos (by omega), Option.map_some, Option.getD_some]

theorem const_out {a b : Int} {L M : Nat} {F : Nat → List Int} (hL : 1 ≤ L ∧ L ≤ 6) (hF : ∀ p, p < L → FilterIs a b p (F p)) (v : Int) (n i : Nat) (hi : i < L * n) (hb : 17 ≤ i * M / L) : outP L M F (List.replicate 16 0 ++ (List.replicate (M * n) v).map satI) i = satI v := by
  have hG := hF (i * M % L) (Nat.mod_lt _ (by omega))
  have hB : i * M / L < M * n := by
    refine Nat.div_lt_of_lt_mul ?_
    by_cases hM : M = 0
    · subst hM; rw [Nat.mul_zero, Nat.zero_div] at hb; omega
    · have := Nat.mul_lt_mul_of_pos_right hi (show 0 < M by omega)
      rwa [Nat.mul_assoc, Nat.mul_comm n M] at this
  unfold outP
  generalize F (i * M % L) = G at *
  generalize i * M / L = B at *
  have hs := satI_in v
  have hc := accW_const (List.replicate 16 (0 : Int) ++ (List.replicate (M * n) v).map satI) (satI v) G 16384 (B + 1) (fun j h1 h2 => const_z v (M * n) j (by omega) (by rw [hG.1] at h2; omega))
  have hin := accW_in (List.replicate 16 (0 : Int) ++ (List.replicate (M * n) v).map satI) G 16384 (B + 1) (by decide)
  obtain ⟨m, hm⟩ := hc
  rw [hG.2.2.2.1] at hm
  rw [hm] at hin ⊢
  generalize satI v = y at *
  have h0 : m = 0 := by omega
  subst h0
  rw [show (16384 + 32768 * y + 0 * 18446744073709551616) / 32768 = y by omega]
  exact clamp_id hs.1 hs.2

theorem rate_div {A B L M i : Nat} (h : A * L = B * M) (hL : 1 ≤ L) (hB : 1 ≤ B) : i * A / B = i * M / L := by
  rw [← Nat.mul_div_mul_right (i * A) B (show 0 < L by omega), Nat.mul_assoc, h, ← Nat.mul_div_mul_left (i * M) L (show 0 < B by omega)]
  congr 1
  rw [Nat.mul_left_comm]

theorem const_l1 (A B L M n : Nat) (F : Nat → List Int) (v : Int) (hL : 1 ≤ L ∧ L ≤ 6) (hF : ∀ p, p < L → FilterIs (A : Int) (B : Int) p (F p)) (hAB : A * L = B * M) (hA : A ≤ 48000) (hB : 1 ≤ B) (hn : n ≤ 400) (d : Nat) : ∀ (i : Nat), i + d = L * n →
    Ev (fun k => madrigallaw22_ResampConstant.l1 k (A : Int) (B : Int) (outW L M F (List.replicate 16 0 ++ (List.replicate (M * n) v).map satI) (L * n)) (satI v) (i : Int)) true := by
  have hl := outW_length L M F (List.replicate 16 0 ++ (List.replicate (M * n) v).map satI) (L * n)
  have hLn : L * n ≤ 2400 := Nat.mul_le_mul hL.2 hn
  induction d with
  | zero =>
    intro i h
    refine Ev.step (fun k => by rw [madrigallaw22_ResampConstant.l1]) ?_
    exact ev_neg (by omega) (Ev.now _)
  | succ d ih =>
    intro i h
    have hn1 := ih (i + 1) (by omega)
    have hiA : i * A ≤ 2400 * 48000 := Nat.mul_le_mul (by omega) hA
    have e1 : wrap64 ((i : Int) * (A : Int)) = ((i * A : Nat) : Int) := by
      rw [← Int.natCast_mul]; clear ih hn1; generalize i * A = y at *; exact wrap_id (by omega) (by omega)
    have hd := Nat.div_le_self (i * A) B
    have e2 : wrap64 (Int.tdiv ((i * A : Nat) : Int) (B : Int)) = ((i * A / B : Nat) : Int) := by
      have : Int.tdiv ((i * A : Nat) : Int) (B : Int) = ((i * A / B : Nat) : Int) := rfl
      rw [this]; clear ih hn1 this e1; generalize i * A / B = y at *; generalize i * A = y2 at *; exact wrap_id (by omega) (by omega)
    have e3 : wrap64 ((i : Int) + 1) = ((i + 1 : Nat) : Int) := by clear ih hn1 e1 e2; exact wsucc (by omega)
    refine Ev.step (fun k => by rw [madrigallaw22_ResampConstant.l1, e1, e2, e3, rd_nat]) ?_
    clear e1 e2 e3 ih
    refine ev_pos (by omega) (ev_neg (by omega) ?_)
    by_cases c : ((i * A / B : Nat) : Int) ≥ 17
    · have hv : (outW L M F (List.replicate 16 0 ++ (List.replicate (M * n) v).map satI) (L * n)).getD i 0 = satI v := by
        unfold outW
        rw [List.getD_eq_getElem?_getD, List.getElem?_map, List.getElem?_range (by omega), Option.map_some, Option.getD_some]
        refine const_out hL hF v n i (by omega) ?_
        rw [← rate_div (i := i) hAB hL.1 hB]
        omega
      rw [hv, Int.sub_self, show wrap64 0 = 0 from wrap_id (by decide) (by decide)]
      exact ev_pos c (ev_pos (by omega) (ev_neg (by decide) (ev_neg (by decide) hn1)))
    · exact ev_neg c hn1

theorem const_l0 (A B L M n : Nat) (F : Nat → List Int) (v : Int) (hL : 1 ≤ L ∧ L ≤ 6) (hM : 1 ≤ M ∧ M ≤ 6) (hF : ∀ p, p < L → FilterIs (A : Int) (B : Int) p (F p)) (hp : ∀ k, resamp_parts.f (k + 60) (A : Int) (B : Int) = some ((L : Int), (M : Int))) (hAB : A * L = B * M) (hA : A ≤ 48000) (hB : 1 ≤ B) (hn : n ≤ 400) (d : Nat) : ∀ (i : Nat), i + d = M * n →
    Ev (fun k => madrigallaw22_ResampConstant.l0 k (A : Int) (B : Int) v (n : Int) (M : Int) (List.replicate 16 0) (List.replicate i v) (i : Int)) true := by
  have hMn : M * n ≤ 2400 := Nat.mul_le_mul hM.2 hn
  have e1 : wrap64 ((n : Int) * (M : Int)) = ((M * n : Nat) : Int) := by
    rw [← Int.natCast_mul, Nat.mul_comm]; generalize M * n = y at *; exact wrap_id (by omega) (by omega)
  induction d with
  | zero =>
    intro i h
    obtain rfl : i = M * n := by omega
    refine Ev.step (fun k => by rw [madrigallaw22_ResampConstant.l0, e1]) ?_
    clear e1
    refine ev_neg (by omega) (ev_neg (by simp; omega) ?_)
    refine Ev.bind (run_ev (A : Int) (B : Int) L M F hL hM hF hp (List.replicate 16 0) (List.replicate (M * n) v) n (by simp) (by simp) (by omega)) (ev_pos rfl ?_)
    refine Ev.bind (rsat_ev v) ?_
    exact const_l1 A B L M n F v hL hF hAB hA hB hn (L * n) 0 (by omega)
  | succ d ih =>
    intro i h
    have hn1 := ih (i + 1) (by omega)
    have e3 : wrap64 ((i : Int) + 1) = ((i + 1 : Nat) : Int) := by clear ih hn1 e1; exact wsucc (by omega)
    refine Ev.step (fun k => by rw [madrigallaw22_ResampConstant.l0, e1, e3]) ?_
    clear e1 e3 ih
    refine ev_pos (by omega) (ev_pos (by simp; omega) ?_)
    rw [show List.replicate (i + 1) v = List.replicate i v ++ [v] from List.replicate_succ'] at hn1
    exact hn1

theorem ResampConstant : madrigallaw22_ResampConstant.Pure := by
  intro a b v n _ _ _ _
  refine Ev.rounds ?_
  unfold madrigallaw22_ResampConstant.f madrigallaw22_awake.f
  refine ev_some (ev_pos rfl ?_)
  have hj : Ev (fun k => madrigallaw22_ResampConstant.j0 k a b v n true) true := by
    refine Ev.step (fun k => by rw [madrigallaw22_ResampConstant.j0]) ?_
    exact ev_pos rfl (Ev.now _)
  obtain ⟨s, h1, k1⟩ := rate_some a
  obtain ⟨t, h2, k2⟩ := rate_some b
  refine ev_bind' k1 ?_
  cases s with
  | false => exact ev_neg (by decide) hj
  | true =>
    refine ev_pos rfl (ev_bind' k2 ?_)
    cases t with
    | false => exact ev_neg (by decide) hj
    | true =>
      refine ev_pos rfl ?_
      by_cases c1 : n < 24
      · exact ev_pos c1 hj
      · refine ev_neg c1 ?_
        by_cases c2 : n > 400
        · rw [decide_eq_true c2]; exact hj
        · rw [decide_eq_false c2]
          obtain ⟨L, M, hr⟩ := rates h1 h2
          obtain ⟨F, hF⟩ := filters hr
          obtain ⟨hL, hM, hab, hbd, hp, hq, _⟩ := hr
          obtain ⟨N, rfl⟩ : ∃ N : Nat, n = N := ⟨n.toNat, by omega⟩
          obtain ⟨A, rfl⟩ : ∃ A : Nat, a = A := ⟨a.toNat, by omega⟩
          obtain ⟨B, rfl⟩ : ∃ B : Nat, b = B := ⟨b.toNat, by omega⟩
          refine Ev.step (fun k => by rw [madrigallaw22_ResampConstant.j0]) ?_
          refine ev_neg (by decide) (Ev.bind (ev60 hq) (ev_pos (by decide) (ev_pos rfl ?_)))
          exact const_l0 A B L M N F v hL hM hF hp (by exact_mod_cast hab) (by omega) (by omega) (by omega) (M * N) 0 (by omega)

end Go.Proofs.Ytocnpnpedmapbaa.Pure
