/- A sound that is cut in two comes to the same, in plain lists. Condition: rates that are good. -/
import Derived.Test.YtocnpnpedmapbaaRunP
import Derived.Test.YtocnpnpedmapbaaPureResampFilters
namespace Go.Proofs.Ytocnpnpedmapbaa.CutsP
open Go.RowKit Go.Proofs.YtocnpnpedmapbaaW.PrintWords Go.Proofs.YtocnpnpedmapbaaW.PrintLast Go.Proofs.YtocnpnpedmapbaaW.PrintMore Go.Proofs.Ytocnpnpedmapbaa.MA Go.Proofs.Ytocnpnpedmapbaa.Core Go.Proofs.Ytocnpnpedmapbaa.Base Go.Proofs.Ytocnpnpedmapbaa.Tabl Go.Proofs.Ytocnpnpedmapbaa.RunP

theorem accW_congr (z z' : List Int) : ∀ (fs : List Int) (s : Int) (i i' : Nat), (∀ t, t < fs.length → z.getD (i + t) 0 = z'.getD (i' + t) 0) → accW z fs s i = accW z' fs s i'
  | [], s, i, i', _ => rfl
  | f :: fs, s, i, i', h => by
    have h0 := h 0 (by rw [List.length_cons]; omega)
    rw [Nat.add_zero, Nat.add_zero] at h0
    rw [accW, accW, h0]
    exact accW_congr z z' fs _ (i + 1) (i' + 1) (fun t ht => by
      have := h (t + 1) (by rw [List.length_cons]; omega)
      rwa [show i + 1 + t = i + (t + 1) by omega, show i' + 1 + t = i' + (t + 1) by omega])

section
variable (a b : Int) (L M q K : Nat) (F : Nat → List Int) (hL : 1 ≤ L ∧ L ≤ 6) (hM : 1 ≤ M) (hF : ∀ p, p < L → FilterIs a b p (F p)) (s : List Int) (hs : s.length = M * q) (hK : K ≤ q)
include hL hM hF hs hK

omit hs in
theorem cut_out (k0 : List Int) (h0 : k0.length = 16) :
    outW L M F (k0 ++ s) (L * q) = outW L M F (k0 ++ s.take (M * K)) (L * K) ++ outW L M F ((k0 ++ s).drop (M * K)) (L * (q - K)) := by
  have hMK : M * K ≤ M * q := Nat.mul_le_mul_left _ hK
  have hLK : L * K + L * (q - K) = L * q := by rw [← Nat.mul_add]; congr 1; omega
  apply List.ext_getElem?
  intro j
  by_cases h1 : j < L * K
  · rw [List.getElem?_append_left (by rw [outW_length]; exact h1)]
    unfold outW
    rw [List.getElem?_map, List.getElem?_map, List.getElem?_range (by omega), List.getElem?_range h1, Option.map_some, Option.map_some]
    congr 1
    unfold outP
    have hb : j * M / L < M * K := by
      refine Nat.div_lt_of_lt_mul ?_
      have := Nat.mul_lt_mul_of_pos_right h1 (show 0 < M by omega)
      rwa [Nat.mul_assoc, Nat.mul_comm K M] at this
    rw [accW_congr (k0 ++ s) (k0 ++ s.take (M * K)) (F (j * M % L)) 16384 (j * M / L + 1) (j * M / L + 1) (fun t ht => by
      have hl := (hF _ (Nat.mod_lt (j * M) (show 0 < L by omega))).1
      rw [hl] at ht
      generalize j * M / L = B at *
      rw [List.getD_eq_getElem?_getD, List.getD_eq_getElem?_getD]
      by_cases c : B + 1 + t < 16
      · rw [List.getElem?_append_left (by omega), List.getElem?_append_left (by omega)]
      · rw [List.getElem?_append_right (by omega), List.getElem?_append_right (by omega), List.getElem?_take, if_pos (by omega)])]
  · rw [List.getElem?_append_right (by rw [outW_length]; omega), outW_length]
    by_cases h2 : j < L * q
    · unfold outW
      rw [List.getElem?_map, List.getElem?_map, List.getElem?_range h2, List.getElem?_range (by omega), Option.map_some, Option.map_some]
      congr 1
      obtain ⟨i, rfl⟩ : ∃ i, j = L * K + i := ⟨j - L * K, by omega⟩
      rw [show L * K + i - L * K = i by omega]
      unfold outP
      have e1 : (L * K + i) * M = i * M + L * (M * K) := by rw [Nat.add_mul, Nat.mul_assoc, Nat.mul_comm K M]; omega
      rw [e1, Nat.add_mul_mod_self_left, Nat.add_mul_div_left _ _ (by omega)]
      rw [accW_congr (k0 ++ s) ((k0 ++ s).drop (M * K)) (F (i * M % L)) 16384 (i * M / L + M * K + 1) (i * M / L + 1) (fun t _ => by
        rw [List.getD_eq_getElem?_getD, List.getD_eq_getElem?_getD, List.getElem?_drop]
        congr 2; omega)]
    · rw [List.getElem?_eq_none (by rw [outW_length]; omega), List.getElem?_eq_none (by rw [outW_length]; omega)]

omit hL hM hF in
theorem cut_z (k0 : List Int) (h0 : k0.length = 16) :
    (k0 ++ s.take (M * K)).drop ((k0 ++ s.take (M * K)).length - 16) ++ s.drop (M * K) = (k0 ++ s).drop (M * K) := by
  have hMK : M * K ≤ M * q := Nat.mul_le_mul_left _ hK
  have hl : (k0 ++ s.take (M * K)).length = 16 + M * K := by rw [List.length_append, List.length_take]; omega
  rw [hl, show 16 + M * K - 16 = M * K by omega, ← List.drop_append_of_le_length (by omega), List.append_assoc, List.take_append_drop]

omit hL hM hF in
theorem cut_kept (k0 : List Int) (h0 : k0.length = 16) :
    ((k0 ++ s).drop (M * K)).drop (((k0 ++ s).drop (M * K)).length - 16) = (k0 ++ s).drop ((k0 ++ s).length - 16) := by
  have hMK : M * K ≤ M * q := Nat.mul_le_mul_left _ hK
  rw [List.drop_drop]
  congr 1
  rw [List.length_drop, List.length_append]
  omega
end

theorem cuts_ex {a b : Int} {L M : Nat} (hr : RateIs a b L M) (x : List Int) (q K : Nat) (hx : x.length = q * M) (hq : q * M ≤ 4800) (hK : K ≤ q) :
    ∃ (k1 k2 k3 ks : Nat) (r1 r2 r3 z1 z2 z3 : List Int), resamp_Sampler_Run.f k1 a b (List.replicate 16 0) x = some (r1, 0, z1) ∧ resamp_Sampler_Run.f k2 a b (List.replicate 16 0) (x.take (K * M)) = some (r2, 0, z2) ∧
      resamp_Sampler_Run.f k3 a b (z2.drop (z2.length - 16)) (x.drop (K * M)) = some (r3, 0, z3) ∧ r2 ++ r3 = r1 ∧ z3.drop (z3.length - 16) = z1.drop (z1.length - 16) ∧ r1.length = L * q ∧ L * q ≤ 30000 ∧ madrigallaw22_same.f ks r1 r1 = some true := by
  obtain ⟨F, hF⟩ := filters hr
  obtain ⟨hL, hM, _, _, hp, _, _⟩ := hr
  have e1 : q * M = M * q := Nat.mul_comm _ _
  have e2 : K * M = M * K := Nat.mul_comm _ _
  rw [e1] at hx hq
  rw [e2]
  have hMK : M * K ≤ M * q := Nat.mul_le_mul_left _ hK
  have hLq : L * q ≤ 30000 := by
    have h1 : q ≤ M * q := Nat.le_mul_of_pos_left _ (by omega)
    have h2 : L * q ≤ 6 * q := Nat.mul_le_mul_right _ hL.2
    omega
  have hs : (x.map satI).length = M * q := by rw [List.length_map, hx]
  have h0 : (List.replicate 16 (0 : Int)).length = 16 := rfl
  have ht : (x.take (M * K)).map satI = (x.map satI).take (M * K) := List.map_take
  have hd : (x.drop (M * K)).map satI = (x.map satI).drop (M * K) := List.map_drop
  have hl2 : (x.take (M * K)).length = M * K := by rw [List.length_take, hx]; omega
  have hl3 : (x.drop (M * K)).length = M * (q - K) := by rw [List.length_drop, hx, Nat.mul_sub]
  have hz2 : ((List.replicate 16 (0 : Int)) ++ (x.take (M * K)).map satI).length = 16 + M * K := by rw [List.length_append, List.length_map, hl2, h0]
  have hk3 : ((List.replicate 16 (0 : Int) ++ (x.take (M * K)).map satI).drop ((List.replicate 16 (0 : Int) ++ (x.take (M * K)).map satI).length - 16)).length = 16 := by rw [List.length_drop, hz2]; omega
  have hq3 : M * (q - K) ≤ 4800 := by have : M * (q - K) ≤ M * q := Nat.mul_le_mul_left _ (Nat.sub_le _ _); omega
  obtain ⟨k1, g1⟩ := (run_ev a b L M F hL hM hF hp (List.replicate 16 0) x q h0 hx hq).rounds
  obtain ⟨k2, g2⟩ := (run_ev a b L M F hL hM hF hp (List.replicate 16 0) (x.take (M * K)) K h0 hl2 (by omega)).rounds
  obtain ⟨k3, g3⟩ := (run_ev a b L M F hL hM hF hp _ (x.drop (M * K)) (q - K) hk3 hl3 hq3).rounds
  have hz : (List.replicate 16 (0 : Int) ++ (x.take (M * K)).map satI).drop ((List.replicate 16 (0 : Int) ++ (x.take (M * K)).map satI).length - 16) ++ (x.drop (M * K)).map satI = (List.replicate 16 0 ++ x.map satI).drop (M * K) := by
    rw [ht, hd]
    exact cut_z M q K (x.map satI) hs hK _ h0
  have hout : outW L M F (List.replicate 16 0 ++ (x.take (M * K)).map satI) (L * K) ++ outW L M F ((List.replicate 16 (0 : Int) ++ (x.take (M * K)).map satI).drop ((List.replicate 16 (0 : Int) ++ (x.take (M * K)).map satI).length - 16) ++ (x.drop (M * K)).map satI) (L * (q - K)) = outW L M F (List.replicate 16 0 ++ x.map satI) (L * q) := by
    rw [hz, ht]
    exact (cut_out a b L M q K F hL hM.1 hF (x.map satI) hK _ h0).symm
  obtain ⟨ks, g4⟩ := (Pure.same_ev (outW L M F (List.replicate 16 0 ++ x.map satI) (L * q)) (by rw [outW_length]; omega)).rounds
  refine ⟨k1, k2, k3, ks, _, _, _, _, _, _, g1, g2, g3, hout, ?_, outW_length _ _ _ _ _, hLq, g4⟩
  rw [hz]
  exact cut_kept M q K (x.map satI) hs hK _ h0

end Go.Proofs.Ytocnpnpedmapbaa.CutsP
