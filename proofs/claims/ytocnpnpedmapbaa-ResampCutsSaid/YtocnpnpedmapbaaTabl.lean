/- The filters of all rates and phases: the program's, the reference's, and their sums, reckoned by the kernel. Condition: rates that are good. -/
import Derived.Test.YtocnpnpedmapbaaMAx2
import Derived.Test.YtocnpnpedmapbaaMAx5
import Derived.KernelRfl
namespace Go.Proofs.Ytocnpnpedmapbaa.Tabl
open Go.RowKit Go.Proofs.YtocnpnpedmapbaaW.PrintWords Go.Proofs.YtocnpnpedmapbaaW.PrintLast Go.Proofs.YtocnpnpedmapbaaW.PrintMore Go.Proofs.Ytocnpnpedmapbaa.MA
def lsum : List Int → Int
  | [] => 0
  | x :: xs => x + lsum xs
def delta : List Int := [0, 0, 0, 0, 0, 0, 0, 32768, 0, 0, 0, 0, 0, 0, 0, 0]
/-- What a filter is: sixteen numbers, the same for the program and the reference; one together. -/
def FilterIs (a b : Int) (p : Nat) (F : List Int) : Prop :=
  F.length = 16 ∧ (∀ k, resamp_Filter.f (k + 60) a b (p : Int) = some F) ∧ (∀ k, madrigalref10_Phase.f (k + 60) a b (p : Int) = some F) ∧ lsum F = 32768 ∧ (∀ k, madrigallaw22_sum.f (k + 60) F = some 32768) ∧ (∀ x ∈ F, -40000 ≤ x ∧ x ≤ 40000) ∧ (a = b → F = delta)
def RateIs (a b : Int) (L M : Nat) : Prop :=
  (1 ≤ L ∧ L ≤ 6) ∧ (1 ≤ M ∧ M ≤ 6) ∧ a * L = b * M ∧ (8000 ≤ a ∧ a ≤ 48000 ∧ 8000 ≤ b ∧ b ≤ 48000) ∧ (∀ k, resamp_parts.f (k + 60) a b = some ((L : Int), (M : Int))) ∧ (∀ k, madrigalref10_Parts.f (k + 60) a b = some ((L : Int), (M : Int))) ∧ ∀ p, p < L → ∃ F, FilterIs a b p F
set_option maxRecDepth 100000 in
theorem rate_8000_8000 : RateIs 8000 8000 1 1 := by
  refine ⟨by decide, by decide, by decide, by decide, fun k => by kernel_rfl, fun k => by kernel_rfl, fun p hp => ?_⟩
  obtain rfl : p = 0 := by omega
  exact ⟨[0, 0, 0, 0, 0, 0, 0, 32768, 0, 0, 0, 0, 0, 0, 0, 0], rfl, fun k => by kernel_rfl, fun k => by kernel_rfl, by decide, fun k => by kernel_rfl, by decide, fun _ => rfl⟩
set_option maxRecDepth 100000 in
theorem rate_8000_12000 : RateIs 8000 12000 3 2 := by
  refine ⟨by decide, by decide, by decide, by decide, fun k => by kernel_rfl, fun k => by kernel_rfl, fun p hp => ?_⟩
  rcases (by omega : p = 0 ∨ p = 1 ∨ p = 2) with rfl | rfl | rfl
  · exact ⟨[0, 0, 0, 0, 0, 0, 0, 32768, 0, 0, 0, 0, 0, 0, 0, 0], rfl, fun k => by kernel_rfl, fun k => by kernel_rfl, by decide, fun k => by kernel_rfl, by decide, fun h => absurd h (by decide)⟩
  · exact ⟨[(-21), 147, (-423), 906, (-1706), 3114, (-6321), 26976, 13318, (-4860), 2540, (-1393), 717, (-312), 91, (-5)], rfl, fun k => by kernel_rfl, fun k => by kernel_rfl, by decide, fun k => by kernel_rfl, by decide, fun h => absurd h (by decide)⟩
  · exact ⟨[(-5), 91, (-312), 717, (-1393), 2540, (-4860), 13314, 26981, (-6321), 3114, (-1706), 906, (-424), 147, (-21)], rfl, fun k => by kernel_rfl, fun k => by kernel_rfl, by decide, fun k => by kernel_rfl, by decide, fun h => absurd h (by decide)⟩
set_option maxRecDepth 100000 in
theorem rate_8000_16000 : RateIs 8000 16000 2 1 := by
  refine ⟨by decide, by decide, by decide, by decide, fun k => by kernel_rfl, fun k => by kernel_rfl, fun p hp => ?_⟩
  rcases (by omega : p = 0 ∨ p = 1) with rfl | rfl
  · exact ⟨[0, 0, 0, 0, 0, 0, 0, 32768, 0, 0, 0, 0, 0, 0, 0, 0], rfl, fun k => by kernel_rfl, fun k => by kernel_rfl, by decide, fun k => by kernel_rfl, by decide, fun h => absurd h (by decide)⟩
  · exact ⟨[(-13), 135, (-422), 933, (-1781), 3245, (-6368), 20651, 20659, (-6368), 3245, (-1781), 933, (-422), 135, (-13)], rfl, fun k => by kernel_rfl, fun k => by kernel_rfl, by decide, fun k => by kernel_rfl, by decide, fun h => absurd h (by decide)⟩
set_option maxRecDepth 100000 in
theorem rate_8000_24000 : RateIs 8000 24000 3 1 := by
  refine ⟨by decide, by decide, by decide, by decide, fun k => by kernel_rfl, fun k => by kernel_rfl, fun p hp => ?_⟩
  rcases (by omega : p = 0 ∨ p = 1 ∨ p = 2) with rfl | rfl | rfl
  · exact ⟨[0, 0, 0, 0, 0, 0, 0, 32768, 0, 0, 0, 0, 0, 0, 0, 0], rfl, fun k => by kernel_rfl, fun k => by kernel_rfl, by decide, fun k => by kernel_rfl, by decide, fun h => absurd h (by decide)⟩
  · exact ⟨[(-21), 147, (-423), 906, (-1706), 3114, (-6321), 26976, 13318, (-4860), 2540, (-1393), 717, (-312), 91, (-5)], rfl, fun k => by kernel_rfl, fun k => by kernel_rfl, by decide, fun k => by kernel_rfl, by decide, fun h => absurd h (by decide)⟩
  · exact ⟨[(-5), 91, (-312), 717, (-1393), 2540, (-4860), 13314, 26981, (-6321), 3114, (-1706), 906, (-424), 147, (-21)], rfl, fun k => by kernel_rfl, fun k => by kernel_rfl, by decide, fun k => by kernel_rfl, by decide, fun h => absurd h (by decide)⟩
set_option maxRecDepth 100000 in
theorem rate_8000_48000 : RateIs 8000 48000 6 1 := by
  refine ⟨by decide, by decide, by decide, by decide, fun k => by kernel_rfl, fun k => by kernel_rfl, fun p hp => ?_⟩
  rcases (by omega : p = 0 ∨ p = 1 ∨ p = 2 ∨ p = 3 ∨ p = 4 ∨ p = 5) with rfl | rfl | rfl | rfl | rfl | rfl
  · exact ⟨[0, 0, 0, 0, 0, 0, 0, 32768, 0, 0, 0, 0, 0, 0, 0, 0], rfl, fun k => by kernel_rfl, fun k => by kernel_rfl, by decide, fun k => by kernel_rfl, by decide, fun h => absurd h (by decide)⟩
  · exact ⟨[(-19), 105, (-282), 585, (-1089), 1997, (-4240), 31257, 6092, (-2492), 1327, (-725), 366, (-152), 39, (-1)], rfl, fun k => by kernel_rfl, fun k => by kernel_rfl, by decide, fun k => by kernel_rfl, by decide, fun h => absurd h (by decide)⟩
  · exact ⟨[(-21), 147, (-423), 906, (-1706), 3114, (-6321), 26976, 13318, (-4860), 2540, (-1393), 717, (-312), 91, (-5)], rfl, fun k => by kernel_rfl, fun k => by kernel_rfl, by decide, fun k => by kernel_rfl, by decide, fun h => absurd h (by decide)⟩
  · exact ⟨[(-13), 135, (-422), 933, (-1781), 3245, (-6368), 20651, 20659, (-6368), 3245, (-1781), 933, (-422), 135, (-13)], rfl, fun k => by kernel_rfl, fun k => by kernel_rfl, by decide, fun k => by kernel_rfl, by decide, fun h => absurd h (by decide)⟩
  · exact ⟨[(-5), 91, (-312), 717, (-1393), 2540, (-4860), 13314, 26981, (-6321), 3114, (-1706), 906, (-424), 147, (-21)], rfl, fun k => by kernel_rfl, fun k => by kernel_rfl, by decide, fun k => by kernel_rfl, by decide, fun h => absurd h (by decide)⟩
  · exact ⟨[(-1), 39, (-152), 366, (-725), 1327, (-2492), 6093, 31256, (-4240), 1996, (-1088), 585, (-282), 105, (-19)], rfl, fun k => by kernel_rfl, fun k => by kernel_rfl, by decide, fun k => by kernel_rfl, by decide, fun h => absurd h (by decide)⟩
set_option maxRecDepth 100000 in
theorem rate_12000_8000 : RateIs 12000 8000 2 3 := by
  refine ⟨by decide, by decide, by decide, by decide, fun k => by kernel_rfl, fun k => by kernel_rfl, fun p hp => ?_⟩
  rcases (by omega : p = 0 ∨ p = 1) with rfl | rfl
  · exact ⟨[49, 0, (-558), 1129, 0, (-3855), 8688, 21862, 8688, (-3855), 0, 1129, (-558), 0, 49, 0], rfl, fun k => by kernel_rfl, fun k => by kernel_rfl, by decide, fun k => by kernel_rfl, by decide, fun h => absurd h (by decide)⟩
  · exact ⟨[0, 117, (-365), 0, 1542, (-2811), 0, 17911, 17891, 0, (-2811), 1542, 0, (-365), 117, 0], rfl, fun k => by kernel_rfl, fun k => by kernel_rfl, by decide, fun k => by kernel_rfl, by decide, fun h => absurd h (by decide)⟩
set_option maxRecDepth 100000 in
theorem rate_12000_12000 : RateIs 12000 12000 1 1 := by
  refine ⟨by decide, by decide, by decide, by decide, fun k => by kernel_rfl, fun k => by kernel_rfl, fun p hp => ?_⟩
  obtain rfl : p = 0 := by omega
  exact ⟨[0, 0, 0, 0, 0, 0, 0, 32768, 0, 0, 0, 0, 0, 0, 0, 0], rfl, fun k => by kernel_rfl, fun k => by kernel_rfl, by decide, fun k => by kernel_rfl, by decide, fun _ => rfl⟩
set_option maxRecDepth 100000 in
theorem rate_12000_16000 : RateIs 12000 16000 4 3 := by
  refine ⟨by decide, by decide, by decide, by decide, fun k => by kernel_rfl, fun k => by kernel_rfl, fun p hp => ?_⟩
  rcases (by omega : p = 0 ∨ p = 1 ∨ p = 2 ∨ p = 3) with rfl | rfl | rfl | rfl
  · exact ⟨[0, 0, 0, 0, 0, 0, 0, 32768, 0, 0, 0, 0, 0, 0, 0, 0], rfl, fun k => by kernel_rfl, fun k => by kernel_rfl, by decide, fun k => by kernel_rfl, by decide, fun h => absurd h (by decide)⟩
  · exact ⟨[(-22), 134, (-371), 782, (-1464), 2678, (-5553), 29430, 9621, (-3737), 1972, (-1080), 551, (-235), 64, (-2)], rfl, fun k => by kernel_rfl, fun k => by kernel_rfl, by decide, fun k => by kernel_rfl, by decide, fun h => absurd h (by decide)⟩
  · exact ⟨[(-13), 135, (-422), 933, (-1781), 3245, (-6368), 20651, 20659, (-6368), 3245, (-1781), 933, (-422), 135, (-13)], rfl, fun k => by kernel_rfl, fun k => by kernel_rfl, by decide, fun k => by kernel_rfl, by decide, fun h => absurd h (by decide)⟩
  · exact ⟨[(-2), 64, (-235), 551, (-1080), 1972, (-3737), 9622, 29429, (-5553), 2678, (-1464), 782, (-371), 134, (-22)], rfl, fun k => by kernel_rfl, fun k => by kernel_rfl, by decide, fun k => by kernel_rfl, by decide, fun h => absurd h (by decide)⟩
set_option maxRecDepth 100000 in
theorem rate_12000_24000 : RateIs 12000 24000 2 1 := by
  refine ⟨by decide, by decide, by decide, by decide, fun k => by kernel_rfl, fun k => by kernel_rfl, fun p hp => ?_⟩
  rcases (by omega : p = 0 ∨ p = 1) with rfl | rfl
  · exact ⟨[0, 0, 0, 0, 0, 0, 0, 32768, 0, 0, 0, 0, 0, 0, 0, 0], rfl, fun k => by kernel_rfl, fun k => by kernel_rfl, by decide, fun k => by kernel_rfl, by decide, fun h => absurd h (by decide)⟩
  · exact ⟨[(-13), 135, (-422), 933, (-1781), 3245, (-6368), 20651, 20659, (-6368), 3245, (-1781), 933, (-422), 135, (-13)], rfl, fun k => by kernel_rfl, fun k => by kernel_rfl, by decide, fun k => by kernel_rfl, by decide, fun h => absurd h (by decide)⟩
set_option maxRecDepth 100000 in
theorem rate_12000_48000 : RateIs 12000 48000 4 1 := by
  refine ⟨by decide, by decide, by decide, by decide, fun k => by kernel_rfl, fun k => by kernel_rfl, fun p hp => ?_⟩
  rcases (by omega : p = 0 ∨ p = 1 ∨ p = 2 ∨ p = 3) with rfl | rfl | rfl | rfl
  · exact ⟨[0, 0, 0, 0, 0, 0, 0, 32768, 0, 0, 0, 0, 0, 0, 0, 0], rfl, fun k => by kernel_rfl, fun k => by kernel_rfl, by decide, fun k => by kernel_rfl, by decide, fun h => absurd h (by decide)⟩
  · exact ⟨[(-22), 134, (-371), 782, (-1464), 2678, (-5553), 29430, 9621, (-3737), 1972, (-1080), 551, (-235), 64, (-2)], rfl, fun k => by kernel_rfl, fun k => by kernel_rfl, by decide, fun k => by kernel_rfl, by decide, fun h => absurd h (by decide)⟩
  · exact ⟨[(-13), 135, (-422), 933, (-1781), 3245, (-6368), 20651, 20659, (-6368), 3245, (-1781), 933, (-422), 135, (-13)], rfl, fun k => by kernel_rfl, fun k => by kernel_rfl, by decide, fun k => by kernel_rfl, by decide, fun h => absurd h (by decide)⟩
  · exact ⟨[(-2), 64, (-235), 551, (-1080), 1972, (-3737), 9622, 29429, (-5553), 2678, (-1464), 782, (-371), 134, (-22)], rfl, fun k => by kernel_rfl, fun k => by kernel_rfl, by decide, fun k => by kernel_rfl, by decide, fun h => absurd h (by decide)⟩
set_option maxRecDepth 100000 in
theorem rate_16000_8000 : RateIs 16000 8000 1 2 := by
  refine ⟨by decide, by decide, by decide, by decide, fun k => by kernel_rfl, fun k => by kernel_rfl, fun p hp => ?_⟩
  obtain rfl : p = 0 := by omega
  exact ⟨[(-57), 0, 644, 0, (-2404), 0, 10033, 16336, 10033, 0, (-2404), 0, 644, 0, (-57), 0], rfl, fun k => by kernel_rfl, fun k => by kernel_rfl, by decide, fun k => by kernel_rfl, by decide, fun h => absurd h (by decide)⟩
set_option maxRecDepth 100000 in
theorem rate_16000_12000 : RateIs 16000 12000 3 4 := by
  refine ⟨by decide, by decide, by decide, by decide, fun k => by kernel_rfl, fun k => by kernel_rfl, fun p hp => ?_⟩
  rcases (by omega : p = 0 ∨ p = 1 ∨ p = 2) with rfl | rfl | rfl
  · exact ⟨[(-40), 255, (-456), 0, 1699, (-4452), 7094, 24568, 7094, (-4452), 1699, 0, (-456), 255, (-40), 0], rfl, fun k => by kernel_rfl, fun k => by kernel_rfl, by decide, fun k => by kernel_rfl, by decide, fun h => absurd h (by decide)⟩
  · exact ⟨[(-24), 120, 0, (-740), 1969, (-2543), 0, 22017, 15379, (-3969), 0, 1137, (-829), 255, 0, (-4)], rfl, fun k => by kernel_rfl, fun k => by kernel_rfl, by decide, fun k => by kernel_rfl, by decide, fun h => absurd h (by decide)⟩
  · exact ⟨[(-4), 0, 254, (-829), 1137, 0, (-3969), 15367, 22030, 0, (-2543), 1969, (-740), 0, 120, (-24)], rfl, fun k => by kernel_rfl, fun k => by kernel_rfl, by decide, fun k => by kernel_rfl, by decide, fun h => absurd h (by decide)⟩
set_option maxRecDepth 100000 in
theorem rate_16000_16000 : RateIs 16000 16000 1 1 := by
  refine ⟨by decide, by decide, by decide, by decide, fun k => by kernel_rfl, fun k => by kernel_rfl, fun p hp => ?_⟩
  obtain rfl : p = 0 := by omega
  exact ⟨[0, 0, 0, 0, 0, 0, 0, 32768, 0, 0, 0, 0, 0, 0, 0, 0], rfl, fun k => by kernel_rfl, fun k => by kernel_rfl, by decide, fun k => by kernel_rfl, by decide, fun _ => rfl⟩
set_option maxRecDepth 100000 in
theorem rate_16000_24000 : RateIs 16000 24000 3 2 := by
  refine ⟨by decide, by decide, by decide, by decide, fun k => by kernel_rfl, fun k => by kernel_rfl, fun p hp => ?_⟩
  rcases (by omega : p = 0 ∨ p = 1 ∨ p = 2) with rfl | rfl | rfl
  · exact ⟨[0, 0, 0, 0, 0, 0, 0, 32768, 0, 0, 0, 0, 0, 0, 0, 0], rfl, fun k => by kernel_rfl, fun k => by kernel_rfl, by decide, fun k => by kernel_rfl, by decide, fun h => absurd h (by decide)⟩
  · exact ⟨[(-21), 147, (-423), 906, (-1706), 3114, (-6321), 26976, 13318, (-4860), 2540, (-1393), 717, (-312), 91, (-5)], rfl, fun k => by kernel_rfl, fun k => by kernel_rfl, by decide, fun k => by kernel_rfl, by decide, fun h => absurd h (by decide)⟩
  · exact ⟨[(-5), 91, (-312), 717, (-1393), 2540, (-4860), 13314, 26981, (-6321), 3114, (-1706), 906, (-424), 147, (-21)], rfl, fun k => by kernel_rfl, fun k => by kernel_rfl, by decide, fun k => by kernel_rfl, by decide, fun h => absurd h (by decide)⟩
set_option maxRecDepth 100000 in
theorem rate_16000_48000 : RateIs 16000 48000 3 1 := by
  refine ⟨by decide, by decide, by decide, by decide, fun k => by kernel_rfl, fun k => by kernel_rfl, fun p hp => ?_⟩
  rcases (by omega : p = 0 ∨ p = 1 ∨ p = 2) with rfl | rfl | rfl
  · exact ⟨[0, 0, 0, 0, 0, 0, 0, 32768, 0, 0, 0, 0, 0, 0, 0, 0], rfl, fun k => by kernel_rfl, fun k => by kernel_rfl, by decide, fun k => by kernel_rfl, by decide, fun h => absurd h (by decide)⟩
  · exact ⟨[(-21), 147, (-423), 906, (-1706), 3114, (-6321), 26976, 13318, (-4860), 2540, (-1393), 717, (-312), 91, (-5)], rfl, fun k => by kernel_rfl, fun k => by kernel_rfl, by decide, fun k => by kernel_rfl, by decide, fun h => absurd h (by decide)⟩
  · exact ⟨[(-5), 91, (-312), 717, (-1393), 2540, (-4860), 13314, 26981, (-6321), 3114, (-1706), 906, (-424), 147, (-21)], rfl, fun k => by kernel_rfl, fun k => by kernel_rfl, by decide, fun k => by kernel_rfl, by decide, fun h => absurd h (by decide)⟩
set_option maxRecDepth 100000 in
theorem rate_24000_8000 : RateIs 24000 8000 1 3 := by
  refine ⟨by decide, by decide, by decide, by decide, fun k => by kernel_rfl, fun k => by kernel_rfl, fun p hp => ?_⟩
  obtain rfl : p = 0 := by omega
  exact ⟨[49, 0, (-558), (-1129), 0, 3855, 8688, 10958, 8688, 3855, 0, (-1129), (-558), 0, 49, 0], rfl, fun k => by kernel_rfl, fun k => by kernel_rfl, by decide, fun k => by kernel_rfl, by decide, fun h => absurd h (by decide)⟩
set_option maxRecDepth 100000 in
theorem rate_24000_12000 : RateIs 24000 12000 1 2 := by
  refine ⟨by decide, by decide, by decide, by decide, fun k => by kernel_rfl, fun k => by kernel_rfl, fun p hp => ?_⟩
  obtain rfl : p = 0 := by omega
  exact ⟨[(-57), 0, 644, 0, (-2404), 0, 10033, 16336, 10033, 0, (-2404), 0, 644, 0, (-57), 0], rfl, fun k => by kernel_rfl, fun k => by kernel_rfl, by decide, fun k => by kernel_rfl, by decide, fun h => absurd h (by decide)⟩
set_option maxRecDepth 100000 in
theorem rate_24000_16000 : RateIs 24000 16000 2 3 := by
  refine ⟨by decide, by decide, by decide, by decide, fun k => by kernel_rfl, fun k => by kernel_rfl, fun p hp => ?_⟩
  rcases (by omega : p = 0 ∨ p = 1) with rfl | rfl
  · exact ⟨[49, 0, (-558), 1129, 0, (-3855), 8688, 21862, 8688, (-3855), 0, 1129, (-558), 0, 49, 0], rfl, fun k => by kernel_rfl, fun k => by kernel_rfl, by decide, fun k => by kernel_rfl, by decide, fun h => absurd h (by decide)⟩
  · exact ⟨[0, 117, (-365), 0, 1542, (-2811), 0, 17911, 17891, 0, (-2811), 1542, 0, (-365), 117, 0], rfl, fun k => by kernel_rfl, fun k => by kernel_rfl, by decide, fun k => by kernel_rfl, by decide, fun h => absurd h (by decide)⟩
set_option maxRecDepth 100000 in
theorem rate_24000_24000 : RateIs 24000 24000 1 1 := by
  refine ⟨by decide, by decide, by decide, by decide, fun k => by kernel_rfl, fun k => by kernel_rfl, fun p hp => ?_⟩
  obtain rfl : p = 0 := by omega
  exact ⟨[0, 0, 0, 0, 0, 0, 0, 32768, 0, 0, 0, 0, 0, 0, 0, 0], rfl, fun k => by kernel_rfl, fun k => by kernel_rfl, by decide, fun k => by kernel_rfl, by decide, fun _ => rfl⟩
set_option maxRecDepth 100000 in
theorem rate_24000_48000 : RateIs 24000 48000 2 1 := by
  refine ⟨by decide, by decide, by decide, by decide, fun k => by kernel_rfl, fun k => by kernel_rfl, fun p hp => ?_⟩
  rcases (by omega : p = 0 ∨ p = 1) with rfl | rfl
  · exact ⟨[0, 0, 0, 0, 0, 0, 0, 32768, 0, 0, 0, 0, 0, 0, 0, 0], rfl, fun k => by kernel_rfl, fun k => by kernel_rfl, by decide, fun k => by kernel_rfl, by decide, fun h => absurd h (by decide)⟩
  · exact ⟨[(-13), 135, (-422), 933, (-1781), 3245, (-6368), 20651, 20659, (-6368), 3245, (-1781), 933, (-422), 135, (-13)], rfl, fun k => by kernel_rfl, fun k => by kernel_rfl, by decide, fun k => by kernel_rfl, by decide, fun h => absurd h (by decide)⟩
set_option maxRecDepth 100000 in
theorem rate_48000_8000 : RateIs 48000 8000 1 6 := by
  refine ⟨by decide, by decide, by decide, by decide, fun k => by kernel_rfl, fun k => by kernel_rfl, fun p hp => ?_⟩
  obtain rfl : p = 0 := by omega
  exact ⟨[(-28), 0, 322, 1129, 2403, 3855, 5017, 7373, 5016, 3855, 2403, 1129, 322, 0, (-28), 0], rfl, fun k => by kernel_rfl, fun k => by kernel_rfl, by decide, fun k => by kernel_rfl, by decide, fun h => absurd h (by decide)⟩
set_option maxRecDepth 100000 in
theorem rate_48000_12000 : RateIs 48000 12000 1 4 := by
  refine ⟨by decide, by decide, by decide, by decide, fun k => by kernel_rfl, fun k => by kernel_rfl, fun p hp => ?_⟩
  obtain rfl : p = 0 := by omega
  exact ⟨[(-40), (-255), (-456), 0, 1699, 4451, 7094, 7782, 7094, 4451, 1699, 0, (-456), (-255), (-40), 0], rfl, fun k => by kernel_rfl, fun k => by kernel_rfl, by decide, fun k => by kernel_rfl, by decide, fun h => absurd h (by decide)⟩
set_option maxRecDepth 100000 in
theorem rate_48000_16000 : RateIs 48000 16000 1 3 := by
  refine ⟨by decide, by decide, by decide, by decide, fun k => by kernel_rfl, fun k => by kernel_rfl, fun p hp => ?_⟩
  obtain rfl : p = 0 := by omega
  exact ⟨[49, 0, (-558), (-1129), 0, 3855, 8688, 10958, 8688, 3855, 0, (-1129), (-558), 0, 49, 0], rfl, fun k => by kernel_rfl, fun k => by kernel_rfl, by decide, fun k => by kernel_rfl, by decide, fun h => absurd h (by decide)⟩
set_option maxRecDepth 100000 in
theorem rate_48000_24000 : RateIs 48000 24000 1 2 := by
  refine ⟨by decide, by decide, by decide, by decide, fun k => by kernel_rfl, fun k => by kernel_rfl, fun p hp => ?_⟩
  obtain rfl : p = 0 := by omega
  exact ⟨[(-57), 0, 644, 0, (-2404), 0, 10033, 16336, 10033, 0, (-2404), 0, 644, 0, (-57), 0], rfl, fun k => by kernel_rfl, fun k => by kernel_rfl, by decide, fun k => by kernel_rfl, by decide, fun h => absurd h (by decide)⟩
set_option maxRecDepth 100000 in
theorem rate_48000_48000 : RateIs 48000 48000 1 1 := by
  refine ⟨by decide, by decide, by decide, by decide, fun k => by kernel_rfl, fun k => by kernel_rfl, fun p hp => ?_⟩
  obtain rfl : p = 0 := by omega
  exact ⟨[0, 0, 0, 0, 0, 0, 0, 32768, 0, 0, 0, 0, 0, 0, 0, 0], rfl, fun k => by kernel_rfl, fun k => by kernel_rfl, by decide, fun k => by kernel_rfl, by decide, fun _ => rfl⟩
theorem rate_of {a : Int} (h : resamp_rate.f a = some true) : a = 8000 ∨ a = 12000 ∨ a = 16000 ∨ a = 24000 ∨ a = 48000 := by
  unfold resamp_rate.f at h
  repeat' split at h
  all_goals first | omega | (exact absurd h (by decide))
theorem rates {a b : Int} (h1 : resamp_rate.f a = some true) (h2 : resamp_rate.f b = some true) : ∃ L M, RateIs a b L M := by
  rcases rate_of h1 with rfl | rfl | rfl | rfl | rfl <;> rcases rate_of h2 with rfl | rfl | rfl | rfl | rfl
  · exact ⟨_, _, rate_8000_8000⟩
  · exact ⟨_, _, rate_8000_12000⟩
  · exact ⟨_, _, rate_8000_16000⟩
  · exact ⟨_, _, rate_8000_24000⟩
  · exact ⟨_, _, rate_8000_48000⟩
  · exact ⟨_, _, rate_12000_8000⟩
  · exact ⟨_, _, rate_12000_12000⟩
  · exact ⟨_, _, rate_12000_16000⟩
  · exact ⟨_, _, rate_12000_24000⟩
  · exact ⟨_, _, rate_12000_48000⟩
  · exact ⟨_, _, rate_16000_8000⟩
  · exact ⟨_, _, rate_16000_12000⟩
  · exact ⟨_, _, rate_16000_16000⟩
  · exact ⟨_, _, rate_16000_24000⟩
  · exact ⟨_, _, rate_16000_48000⟩
  · exact ⟨_, _, rate_24000_8000⟩
  · exact ⟨_, _, rate_24000_12000⟩
  · exact ⟨_, _, rate_24000_16000⟩
  · exact ⟨_, _, rate_24000_24000⟩
  · exact ⟨_, _, rate_24000_48000⟩
  · exact ⟨_, _, rate_48000_8000⟩
  · exact ⟨_, _, rate_48000_12000⟩
  · exact ⟨_, _, rate_48000_16000⟩
  · exact ⟨_, _, rate_48000_24000⟩
  · exact ⟨_, _, rate_48000_48000⟩
theorem rate_some (a : Int) : ∃ t, resamp_rate.f a = some t ∧ madrigalref10_Known.f a = some t := by
  unfold resamp_rate.f madrigalref10_Known.f
  by_cases h1 : a = 8000
  · exact ⟨true, by rw [if_pos h1], by rw [if_pos h1]⟩
  · by_cases h2 : a = 12000
    · exact ⟨true, by rw [if_neg h1, if_pos h2], by rw [if_neg h1, if_pos h2]⟩
    · by_cases h3 : a = 16000
      · exact ⟨true, by rw [if_neg h1, if_neg h2, if_pos h3], by rw [if_neg h1, if_neg h2, if_pos h3]⟩
      · by_cases h4 : a = 24000
        · exact ⟨true, by rw [if_neg h1, if_neg h2, if_neg h3, if_pos h4], by rw [if_neg h1, if_neg h2, if_neg h3, if_pos h4]⟩
        · by_cases h5 : a = 48000
          · exact ⟨true, by rw [if_neg h1, if_neg h2, if_neg h3, if_neg h4, if_pos h5], by rw [if_neg h1, if_neg h2, if_neg h3, if_neg h4]; simp [h5]⟩
          · exact ⟨false, by rw [if_neg h1, if_neg h2, if_neg h3, if_neg h4, if_neg h5], by rw [if_neg h1, if_neg h2, if_neg h3, if_neg h4]; simp [h5]⟩
theorem good_of (a b : Int) {s t : Bool} (h1 : resamp_rate.f a = some s) (h2 : resamp_rate.f b = some t) : resamp_Good.f a b = some (s && t) := by
  unfold resamp_Good.f
  rw [h1, h2]
  cases s <;> rfl
end Go.Proofs.Ytocnpnpedmapbaa.Tabl
