/- The law ResampFilters walked. The code comes to the plain function's answer. No condition. -/
import Derived.Laws.Cover3
import Derived.Laws.Tables
import Derived.Laws.CopyOwn
import Derived.Deep.MidRow
import Derived.Test.YtocnpnpedmapbaaAwake
namespace Go.Proofs.Ytocnpnpedmapbaa.MA
open Go.RowKit Go.Proofs.YtocnpnpedmapbaaW.PrintWords Go.Proofs.YtocnpnpedmapbaaW.PrintLast Go.Proofs.YtocnpnpedmapbaaW.PrintMore
attribute [local go_sem] max2_int min2_int max_two min_two max_three min_three max_four min_four
set_option linter.unusedVariables false
set_option linter.unusedSimpArgs false
/-! ### madrigallaw22_ResampFilters: function 4 -/
mutual
def madrigallaw22_ResampFilters.j0 : Nat → Int → Int → Int → List Int → Bool → Option (Bool)
 | 0, _, _, _, _, _ => none
 | k + 1, x0, x1, x2, x7, x8 => (resamp_Good.f x0 x1).bind fun t240 => (if (t240 != x8) = true then (some false) else (if x8 = true then ((madrigalref10_Parts.f k x0 x1).bind fun bt241 => (if x2 ≥ 0 then (madrigallaw22_ResampFilters.j1 k x0 x1 x2 x7 (decide (x2 < bt241.1))) else (madrigallaw22_ResampFilters.j1 k x0 x1 x2 x7 false))) else (madrigallaw22_ResampFilters.j1 k x0 x1 x2 x7 x8)))
def madrigallaw22_ResampFilters.j1 : Nat → Int → Int → Int → List Int → Bool → Option (Bool)
 | 0, _, _, _, _, _ => none
 | k + 1, x0, x1, x2, x7, x8 => if x8 = true then ((madrigalref10_Phase.f k x0 x1 x2).bind fun t243 => ((madrigallaw22_same.f k x7 t243).bind fun t246 => (if t246 = true then ((madrigallaw22_sum.f k x7).bind fun t247 => (some (t247 == 32768))) else (some false)))) else (some ((x7.length : Int) == 0))
end
def madrigallaw22_ResampFilters.f (k : Nat) (a0 : Int) (a1 : Int) (a2 : Int) : Option (Bool) := (madrigallaw22_awake.f).bind fun t234 => (if t234 = true then ((resamp_Filter.f k a0 a1 a2).bind fun t235 => ((madrigalref10_Known.f a0).bind fun t238 => (if t238 = true then ((madrigalref10_Known.f a1).bind fun t239 => (madrigallaw22_ResampFilters.j0 k a0 a1 a2 t235 t239)) else (madrigallaw22_ResampFilters.j0 k a0 a1 a2 t235 false)))) else (some false))
set_option maxHeartbeats 8000000 in
set_option maxRecDepth 100000 in
theorem madrigallaw22_ResampFilters.calls (k : Nat) (a0 : Int) (a1 : Int) (a2 : Int) (r : Bool) (w : World) (hrt : r = true) (h : madrigallaw22_ResampFilters.f k a0 a1 a2 = some r) :
  Calls Try.prog 4 #[.int .i64 a0, .int .i64 a1, .int .i64 a2] w fun e w' => e = .returned (.bool r) ∧ Below w.heap.size w w' := by
 have HRT := Aside0.mk hrt; clear hrt
 have HB := Aside0.mk (Below.refl w.heap.size w)
 have H : ((madrigallaw22_awake.f).bind fun t234 => (if t234 = true then ((resamp_Filter.f k a0 a1 a2).bind fun t235 => ((madrigalref10_Known.f a0).bind fun t238 => (if t238 = true then ((madrigalref10_Known.f a1).bind fun t239 => (madrigallaw22_ResampFilters.j0 k a0 a1 a2 t235 t239)) else (madrigallaw22_ResampFilters.j0 k a0 a1 a2 t235 false)))) else (some false))) = some r := h
 clear h; replace H := Option.bind_eq_some_iff.mp H; obtain ⟨t234, A40, H⟩ := H
 replace H : (if t234 = true then ((resamp_Filter.f k a0 a1 a2).bind fun t235 => ((madrigalref10_Known.f a0).bind fun t238 => (if t238 = true then ((madrigalref10_Known.f a1).bind fun t239 => (madrigallaw22_ResampFilters.j0 k a0 a1 a2 t235 t239)) else (madrigallaw22_ResampFilters.j0 k a0 a1 a2 t235 false)))) else (some false)) = some r := H
 have A4 := Aside0.mk A40; clear A40
 by_cases c5 : t234 = true
 ·
  subst c5
  have H1 : ((resamp_Filter.f k a0 a1 a2).bind fun t235 => ((madrigalref10_Known.f a0).bind fun t238 => (if t238 = true then ((madrigalref10_Known.f a1).bind fun t239 => (madrigallaw22_ResampFilters.j0 k a0 a1 a2 t235 t239)) else (madrigallaw22_ResampFilters.j0 k a0 a1 a2 t235 false)))) = some r := by rw [if_pos rfl] at H; exact H
  clear H; have H := H1; clear H1; replace H := Option.bind_eq_some_iff.mp H; obtain ⟨t235, A60, H⟩ := H
  replace H : ((madrigalref10_Known.f a0).bind fun t238 => (if t238 = true then ((madrigalref10_Known.f a1).bind fun t239 => (madrigallaw22_ResampFilters.j0 k a0 a1 a2 t235 t239)) else (madrigallaw22_ResampFilters.j0 k a0 a1 a2 t235 false))) = some r := H
  have A6 := Aside0.mk A60; clear A60; have HC7 := Aside0.mk H; clear H
  go_enter Try.func4, Try.ntmps4
  go_upto_region 4 with (first | ((with_reducible refine gate_callee (f := 8) rfl ?_); refine goesL_ (some 11) rfl rfl Try.func8 (by kernel_rfl) rfl #[] rfl (by (try simp only [List.map_toArray, List.map_cons, List.map_nil]); first | done | rfl | (simp only [List.length_drop, List.length_take]; rfl)) ?_; (with_reducible refine (madrigallaw22_awake.calls  true _ A4.out).mono ?_); rintro e w8 ⟨rfl, hb⟩; refine ⟨_, rfl, ?_⟩; have n0_ := Aside0.mk (below_step (by repeat (with_reducible first | exact HB.out | apply below_alloc | apply pw_below_drewN | apply below_drew1)) hb); clear HB; have HB := n0_; clear n0_; (try clear hb); (try clear hb2); (try clear hk); (try clear hi)) | ((with_reducible refine gate_callee (f := 11) rfl ?_); refine goesL_ (some 16) rfl rfl Try.func11 (by kernel_rfl) rfl #[.int .i64 a0, .int .i64 a1, .int .i64 a2] rfl (by (try simp only [List.map_toArray, List.map_cons, List.map_nil]); first | done | rfl | (simp only [List.length_drop, List.length_take]; rfl)) ?_; (with_reducible refine (resamp_Filter.calls k a0 a1 a2 t235 _ A6.out).mono ?_); rintro e w9 ⟨v236, rfl, ho0, hb⟩; refine ⟨_, rfl, ?_⟩; have n0_ := Aside0.mk (Kd.R_lower ho0 (below_size (by repeat (with_reducible first | exact HB.out | apply below_alloc | apply pw_below_drewN | apply below_drew1)))); have n1_ := Aside0.mk (below_step (by repeat (with_reducible first | exact HB.out | apply below_alloc | apply pw_below_drewN | apply below_drew1)) hb); clear HB; have HO237 := n0_; have HB := n1_; clear n0_ n1_; (try clear hb); (try clear hb2); (try clear hk); (try clear hi); (try clear ho0)))
  (try simp only [Act.put, List.setIfInBounds_toArray, List.set_cons_zero, List.set_cons_succ])
  go_cut [8] (fun v8 wc => ∃ (kq : Nat) (x8_6 : Bool), v8 = .bool x8_6 ∧ Aside0 (madrigallaw22_ResampFilters.j0 kq a0 a1 a2 t235 x8_6 = some r) ∧ Aside0 (kq ≤ k) ∧ Aside0 (Kd.R (Kd.int .i64) 2 wc w.heap.size (fun _ => True) v236 t235) ∧ Aside0 (Below w.heap.size w wc))
  case first =>
   have H := HC7.out; clear HC7; replace H := Option.bind_eq_some_iff.mp H; obtain ⟨t238, A100, H⟩ := H
   replace H : (if t238 = true then ((madrigalref10_Known.f a1).bind fun t239 => (madrigallaw22_ResampFilters.j0 k a0 a1 a2 t235 t239)) else (madrigallaw22_ResampFilters.j0 k a0 a1 a2 t235 false)) = some r := H
   have A10 := Aside0.mk A100; clear A100
   by_cases c11 : t238 = true
   ·
    subst c11
    have H1 : ((madrigalref10_Known.f a1).bind fun t239 => (madrigallaw22_ResampFilters.j0 k a0 a1 a2 t235 t239)) = some r := by rw [if_pos rfl] at H; exact H
    clear H; have H := H1; clear H1; replace H := Option.bind_eq_some_iff.mp H; obtain ⟨t239, A120, H⟩ := H
    replace H : (madrigallaw22_ResampFilters.j0 k a0 a1 a2 t235 t239) = some r := H
    have A12 := Aside0.mk A120; clear A120; have H' := Aside0.mk H; clear H
    go_wp2_with (first | ((with_reducible refine gate_callee (f := 12) rfl ?_); refine goesL_ (some 18) rfl rfl Try.func12 (by kernel_rfl) rfl #[.int .i64 a0] rfl (by (try simp only [List.map_toArray, List.map_cons, List.map_nil]); first | done | rfl | (simp only [List.length_drop, List.length_take]; rfl)) ?_; (with_reducible refine (madrigalref10_Known.calls a0 true _ A10.out).mono ?_); rintro e w' ⟨rfl, ⟨nd, rfl⟩⟩; refine ⟨_, rfl, ?_⟩) | (go_at_call 12; (with_reducible refine (madrigalref10_Known.calls a1 t239 _ A12.out).mono ?_); rintro e w' ⟨rfl, ⟨nd, rfl⟩⟩))
    go_meet
    case rel => exact ⟨_, (t239), (by first | rfl | (simp; done) | (simp [*]; done)), H', ⟨by first | omega | exact Nat.le_refl _⟩, ⟨by (with_reducible repeat first | apply Kd.R_alloc | apply Kd.R_drewN | apply Kd.R_drew); exact HO237.out⟩, ⟨by repeat (with_reducible first | exact HB.out | apply below_alloc | apply pw_below_drewN | apply below_drew1)⟩⟩
   ·
    replace c11 := Bool.eq_false_iff.mpr c11
    subst c11
    have H1 : (madrigallaw22_ResampFilters.j0 k a0 a1 a2 t235 false) = some r := by rw [if_neg (show ¬ (false = true) by decide)] at H; exact H
    clear H; have H := H1; clear H1; have H' := Aside0.mk H; clear H
    go_wp2_with (first | ((with_reducible refine gate_callee (f := 12) rfl ?_); refine goesL_ (some 18) rfl rfl Try.func12 (by kernel_rfl) rfl #[.int .i64 a0] rfl (by (try simp only [List.map_toArray, List.map_cons, List.map_nil]); first | done | rfl | (simp only [List.length_drop, List.length_take]; rfl)) ?_; (with_reducible refine (madrigalref10_Known.calls a0 false _ A10.out).mono ?_); rintro e w' ⟨rfl, ⟨nd, rfl⟩⟩; refine ⟨_, rfl, ?_⟩))
    go_meet
    case rel => exact ⟨_, (false), (by first | rfl | (simp; done) | (simp [*]; done)), H', ⟨by first | omega | exact Nat.le_refl _⟩, ⟨by (with_reducible repeat first | apply Kd.R_alloc | apply Kd.R_drewN | apply Kd.R_drew); exact HO237.out⟩, ⟨by repeat (with_reducible first | exact HB.out | apply below_alloc | apply pw_below_drewN | apply below_drew1)⟩⟩
  case rest =>
   clear HC7; (try clear c1); (try clear p2); (try clear c4); (try clear c5); (try clear c8); (try clear c11); (try clear c12)
   obtain ⟨kq, x8_6, rfl, HA, HJ6, HO_7, HB⟩ := hcut
   cases kq with
   | zero => exact absurd HA.out (by simp [madrigallaw22_ResampFilters.j0])
   | succ kj6 =>
    have H := HA.out; clear HA
    simp only [madrigallaw22_ResampFilters.j0] at H
    replace H := Option.bind_eq_some_iff.mp H; obtain ⟨t240, A130, H⟩ := H
    replace H : (if (t240 != x8_6) = true then (some false) else (if x8_6 = true then ((madrigalref10_Parts.f kj6 a0 a1).bind fun bt241 => (if a2 ≥ 0 then (madrigallaw22_ResampFilters.j1 kj6 a0 a1 a2 t235 (decide (a2 < bt241.1))) else (madrigallaw22_ResampFilters.j1 kj6 a0 a1 a2 t235 false))) else (madrigallaw22_ResampFilters.j1 kj6 a0 a1 a2 t235 x8_6))) = some r := H
    have A13 := Aside0.mk A130; clear A130
    by_cases c14 : (t240 != x8_6) = true
    ·
     rw [if_pos c14] at H
     have c14b0 : (t240 != x8_6) = true := c14
     (try (have c14b1 : decide (t240 = x8_6) = false := by simpa using c14)); (try (have c14b2 : (t240 == x8_6) = false := by simpa using c14)); (try (have c14b3 : ¬ (t240 = x8_6) := by simpa using c14)); clear c14
     exact absurd ((Option.some.inj H).trans HRT.out) (by simp)
    ·
     rw [if_neg c14] at H
     have c14b0 : (t240 != x8_6) = false := by simpa using c14
     (try (have c14b1 : decide (t240 = x8_6) = true := by simpa using c14)); (try (have c14b2 : (t240 == x8_6) = true := by simpa using c14)); clear c14; have HC15 := Aside0.mk H; clear H
     go_upto_if 28 with (first | ((with_reducible refine gate_callee (f := 13) rfl ?_); refine goesL_ (some 25) rfl rfl Try.func13 (by kernel_rfl) rfl #[.int .i64 a0, .int .i64 a1] rfl (by (try simp only [List.map_toArray, List.map_cons, List.map_nil]); first | done | rfl | (simp only [List.length_drop, List.length_take]; rfl)) ?_; (with_reducible refine (resamp_Good.calls a0 a1 t240 _ A13.out).mono ?_); rintro e w' ⟨rfl, ⟨nd, rfl⟩⟩; refine ⟨_, rfl, ?_⟩))
     (try simp only [Act.put, List.setIfInBounds_toArray, List.set_cons_zero, List.set_cons_succ])
     go_cut [8] (fun v8 wc => ∃ (kq : Nat) (x8_14 : Bool), v8 = .bool x8_14 ∧ Aside0 (madrigallaw22_ResampFilters.j1 kq a0 a1 a2 t235 x8_14 = some r) ∧ Aside0 (kq ≤ kj6) ∧ Aside0 (Kd.R (Kd.int .i64) 2 wc w.heap.size (fun _ => True) v236 t235) ∧ Aside0 (Below w.heap.size w wc))
     case first =>
      have H := HC15.out; clear HC15
      by_cases c16 : x8_6 = true
      ·
       subst c16
       have H1 : ((madrigalref10_Parts.f kj6 a0 a1).bind fun bt241 => (if a2 ≥ 0 then (madrigallaw22_ResampFilters.j1 kj6 a0 a1 a2 t235 (decide (a2 < bt241.1))) else (madrigallaw22_ResampFilters.j1 kj6 a0 a1 a2 t235 false))) = some r := by rw [if_pos rfl] at H; exact H
       clear H; have H := H1; clear H1; replace H := Option.bind_eq_some_iff.mp H; obtain ⟨⟨t241, t242⟩, A170, H⟩ := H
       replace H : (if a2 ≥ 0 then (madrigallaw22_ResampFilters.j1 kj6 a0 a1 a2 t235 (decide (a2 < t241))) else (madrigallaw22_ResampFilters.j1 kj6 a0 a1 a2 t235 false)) = some r := H
       have A17 := Aside0.mk A170; clear A170
       by_cases c18 : a2 ≥ 0
       ·
        rw [if_pos c18] at H; have c18b0 : decide (0 ≤ a2) = true := decide_eq_true c18; clear c18
        (first | rw [c18b0] | (simp only [i64_w, i32_w]; rw [c18b0]) | skip)
        have H' := Aside0.mk H; clear H
        go_wp2_with (first | ((with_reducible refine gate_callee (f := 14) rfl ?_); refine goesL_ (some 32) rfl rfl Try.func14 (by kernel_rfl) rfl #[.int .i64 a0, .int .i64 a1] rfl (by (try simp only [List.map_toArray, List.map_cons, List.map_nil]); first | done | rfl | (simp only [List.length_drop, List.length_take]; rfl)) ?_; (with_reducible refine (madrigalref10_Parts.calls kj6 a0 a1 t241 t242 _ A17.out).mono ?_); rintro e w' ⟨rfl, ⟨nd, rfl⟩⟩; refine ⟨_, rfl, ?_⟩))
        go_meet
        case rel => exact ⟨_, (decide (a2 < t241)), (by first | rfl | (simp; done) | (simp [*]; done)), H', ⟨by have := HJ6.out; first | omega | exact Nat.le_refl _⟩, ⟨by (with_reducible repeat first | apply Kd.R_alloc | apply Kd.R_drewN | apply Kd.R_drew); exact HO_7.out⟩, ⟨by repeat (with_reducible first | exact HB.out | apply below_alloc | apply pw_below_drewN | apply below_drew1)⟩⟩
       ·
        rw [if_neg c18] at H; have c18b0 : decide (0 ≤ a2) = false := decide_eq_false c18; clear c18
        (first | rw [c18b0] | (simp only [i64_w, i32_w]; rw [c18b0]) | skip)
        have H' := Aside0.mk H; clear H
        go_wp2_with (first | ((with_reducible refine gate_callee (f := 14) rfl ?_); refine goesL_ (some 32) rfl rfl Try.func14 (by kernel_rfl) rfl #[.int .i64 a0, .int .i64 a1] rfl (by (try simp only [List.map_toArray, List.map_cons, List.map_nil]); first | done | rfl | (simp only [List.length_drop, List.length_take]; rfl)) ?_; (with_reducible refine (madrigalref10_Parts.calls kj6 a0 a1 t241 t242 _ A17.out).mono ?_); rintro e w' ⟨rfl, ⟨nd, rfl⟩⟩; refine ⟨_, rfl, ?_⟩))
        go_meet
        case rel => exact ⟨_, (false), (by first | rfl | (simp; done) | (simp [*]; done)), H', ⟨by have := HJ6.out; first | omega | exact Nat.le_refl _⟩, ⟨by (with_reducible repeat first | apply Kd.R_alloc | apply Kd.R_drewN | apply Kd.R_drew); exact HO_7.out⟩, ⟨by repeat (with_reducible first | exact HB.out | apply below_alloc | apply pw_below_drewN | apply below_drew1)⟩⟩
      ·
       replace c16 := Bool.eq_false_iff.mpr c16
       subst c16
       have H1 : (madrigallaw22_ResampFilters.j1 kj6 a0 a1 a2 t235 false) = some r := by rw [if_neg (show ¬ (false = true) by decide)] at H; exact H
       clear H; have H := H1; clear H1; have H' := Aside0.mk H; clear H
       go_wp2
       go_meet
       case rel => exact ⟨_, (false), (by first | rfl | (simp; done) | (simp [*]; done)), H', ⟨by have := HJ6.out; first | omega | exact Nat.le_refl _⟩, ⟨by (with_reducible repeat first | apply Kd.R_alloc | apply Kd.R_drewN | apply Kd.R_drew); exact HO_7.out⟩, ⟨by repeat (with_reducible first | exact HB.out | apply below_alloc | apply pw_below_drewN | apply below_drew1)⟩⟩
     case rest =>
      clear HC15; (try clear c1); (try clear p2); (try clear c4); (try clear c5); (try clear c8); (try clear c11); (try clear c12); (try clear c13); (try clear c14); (try clear c14b0); (try clear c14b0z0); (try clear c14b1); (try clear c14b1z0); (try clear c14b2); (try clear c14b2z0); (try clear c16); (try clear c18); (try clear c18b0); (try clear c18b0z0); (try clear p2)
      obtain ⟨kq, x8_14, rfl, HA, HJ14, HO_7, HB⟩ := hcut
      cases kq with
      | zero => exact absurd HA.out (by simp [madrigallaw22_ResampFilters.j1])
      | succ kj14 =>
       have H := HA.out; clear HA
       simp only [madrigallaw22_ResampFilters.j1] at H
       by_cases c19 : x8_14 = true
       ·
        subst c19
        have H1 : ((madrigalref10_Phase.f kj14 a0 a1 a2).bind fun t243 => ((madrigallaw22_same.f kj14 t235 t243).bind fun t246 => (if t246 = true then ((madrigallaw22_sum.f kj14 t235).bind fun t247 => (some (t247 == 32768))) else (some false)))) = some r := by rw [if_pos rfl] at H; exact H
        clear H; have H := H1; clear H1; replace H := Option.bind_eq_some_iff.mp H; obtain ⟨t243, A200, H⟩ := H
        replace H : ((madrigallaw22_same.f kj14 t235 t243).bind fun t246 => (if t246 = true then ((madrigallaw22_sum.f kj14 t235).bind fun t247 => (some (t247 == 32768))) else (some false))) = some r := H
        have A20 := Aside0.mk A200; clear A200; replace H := Option.bind_eq_some_iff.mp H; obtain ⟨t246, A210, H⟩ := H
        replace H : (if t246 = true then ((madrigallaw22_sum.f kj14 t235).bind fun t247 => (some (t247 == 32768))) else (some false)) = some r := H
        have A21 := Aside0.mk A210; clear A210
        by_cases c22 : t246 = true
        ·
         subst c22
         have H1 : ((madrigallaw22_sum.f kj14 t235).bind fun t247 => (some (t247 == 32768))) = some r := by rw [if_pos rfl] at H; exact H
         clear H; have H := H1; clear H1; replace H := Option.bind_eq_some_iff.mp H; obtain ⟨t247, A230, H⟩ := H
         replace H : (some (t247 == 32768)) = some r := H
         have A23 := Aside0.mk A230; clear A230
         obtain rfl := Option.some.inj H
         go_wp2_with (first | ((with_reducible refine gate_callee (f := 16) rfl ?_); refine goesL_ (some 51) rfl rfl Try.func16 (by kernel_rfl) rfl #[.int .i64 a0, .int .i64 a1, .int .i64 a2] rfl (by (try simp only [List.map_toArray, List.map_cons, List.map_nil]); first | done | rfl | (simp only [List.length_drop, List.length_take]; rfl)) ?_; (with_reducible refine (madrigalref10_Phase.calls kj14 a0 a1 a2 t243 _ A20.out).mono ?_); rintro e w24 ⟨v244, rfl, ho0, hb⟩; refine ⟨_, rfl, ?_⟩; have n0_ := Aside0.mk (Kd.R_elder' (by (with_reducible repeat first | apply Kd.R_alloc | apply Kd.R_drewN | apply Kd.R_drew); exact HO_7.out) (Kd.R_base ho0) hb); have n1_ := Aside0.mk (Kd.R_lower (Kd.R_new' ho0 (Kd.R_lt (by (with_reducible repeat first | apply Kd.R_alloc | apply Kd.R_drewN | apply Kd.R_drew); exact HO_7.out))) (below_size (by repeat (with_reducible first | exact HB.out | apply below_alloc | apply pw_below_drewN | apply below_drew1)))); have n2_ := Aside0.mk (below_step (by repeat (with_reducible first | exact HB.out | apply below_alloc | apply pw_below_drewN | apply below_drew1)) hb); clear HO_7; clear HB; have HO_7 := n0_; have HO245 := n1_; have HB := n2_; clear n0_ n1_ n2_; (try clear hb); (try clear hb2); (try clear hk); (try clear hi); (try clear ho0); obtain ⟨Ao25, co25, eo25⟩ := Kd.R_slice HO_7.out; subst eo25; obtain ⟨Ao26, co26, eo26⟩ := Kd.R_slice HO245.out; subst eo26) | ((with_reducible refine gate_callee (f := 15) rfl ?_); refine goesL_ (some 52) rfl rfl Try.func15 (by kernel_rfl) rfl #[.slice Ao25 t235.length co25, .slice Ao26 t243.length co26] rfl (by (try simp only [List.map_toArray, List.map_cons, List.map_nil]); first | done | rfl | (simp only [List.length_drop, List.length_take]; rfl)) ?_; (with_reducible refine (madrigallaw22_same.calls kj14 _ _ t235 _ _ t243 true _ ?side1 ?side2 ?side3 ?side4 A21.out).mono ?_); (case side1 => repeat (first | exact (Kd.R_reads' HO_7.out).2.2 | (with_reducible refine Kd.C_alloc ?_ _) | (with_reducible refine Kd.C_drewN ?_ _) | (with_reducible refine Kd.C_drew ?_))); (case side2 => exact (Kd.R_reads' HO_7.out).2.1); (case side3 => repeat (first | exact (Kd.R_reads' HO245.out).2.2 | (with_reducible refine Kd.C_alloc ?_ _) | (with_reducible refine Kd.C_drewN ?_ _) | (with_reducible refine Kd.C_drew ?_))); (case side4 => exact (Kd.R_reads' HO245.out).2.1); rintro e w' ⟨rfl, ⟨nd, rfl⟩⟩; refine ⟨_, rfl, ?_⟩) | (go_at_call 17; (with_reducible refine (madrigallaw22_sum.calls kj14 _ _ t235 t247 _ ?side1 ?side2 A23.out).mono ?_); (case side1 => repeat (first | exact (Kd.R_reads' HO_7.out).2.2 | (with_reducible refine Kd.C_alloc ?_ _) | (with_reducible refine Kd.C_drewN ?_ _) | (with_reducible refine Kd.C_drew ?_))); (case side2 => exact (Kd.R_reads' HO_7.out).2.1); rintro e w' ⟨rfl, ⟨nd, rfl⟩⟩))
         go_ret
         exact ⟨by first | rfl | (simp [errW_none, errW_some] <;> rfl) | (simp [*, errW_none, errW_some] <;> rfl), by repeat (with_reducible first | exact HB.out | apply below_alloc | apply pw_below_drewN | apply below_drew1)⟩
        ·
         replace c22 := Bool.eq_false_iff.mpr c22
         subst c22
         have H1 : (some false) = some r := by rw [if_neg (show ¬ (false = true) by decide)] at H; exact H
         clear H; have H := H1; clear H1
         exact absurd ((Option.some.inj H).trans HRT.out) (by simp)
       ·
        replace c19 := Bool.eq_false_iff.mpr c19
        subst c19
        have H1 : (some ((t235.length : Int) == 0)) = some r := by rw [if_neg (show ¬ (false = true) by decide)] at H; exact H
        clear H; have H := H1; clear H1
        obtain rfl := Option.some.inj H
        obtain ⟨Ao27, co27, eo27⟩ := Kd.R_slice HO_7.out
        subst eo27
        go_wp2
        go_ret
        exact ⟨by first | rfl | (simp [errW_none, errW_some] <;> rfl) | (simp [*, errW_none, errW_some] <;> rfl), by repeat (with_reducible first | exact HB.out | apply below_alloc | apply pw_below_drewN | apply below_drew1)⟩
 ·
  replace c5 := Bool.eq_false_iff.mpr c5
  subst c5
  have H1 : (some false) = some r := by rw [if_neg (show ¬ (false = true) by decide)] at H; exact H
  clear H; have H := H1; clear H1
  exact absurd ((Option.some.inj H).trans HRT.out) (by simp)

/-- THE ONE PURE STATEMENT of madrigallaw22_ResampFilters: yours. -/
def madrigallaw22_ResampFilters.Pure : Prop := ∀ (a0 : Int) (a1 : Int) (a2 : Int), (Lit.int .i64 a0).wf = true → (Lit.int .i64 a1).wf = true → (Lit.int .i64 a2).wf = true → ∃ k, madrigallaw22_ResampFilters.f k a0 a1 a2 = some true
theorem madrigallaw22_ResampFilters.walk (P : madrigallaw22_ResampFilters.Pure) (a0 : Int) (a1 : Int) (a2 : Int) (w : World) (w0 : (Lit.int .i64 a0).wf = true) (w1 : (Lit.int .i64 a1).wf = true) (w2 : (Lit.int .i64 a2).wf = true) :
  Calls Try.prog 4 #[.int .i64 a0, .int .i64 a1, .int .i64 a2] w fun e w' => e = .returned (.bool true) ∧ Below w.heap.size w w' := by
 obtain ⟨k, h⟩ := P a0 a1 a2 w0 w1 w2
 refine (madrigallaw22_ResampFilters.calls k a0 a1 a2 true w rfl h).mono ?_
 rintro e w' ⟨rfl, hd⟩
 exact ⟨rfl, hd⟩

end Go.Proofs.Ytocnpnpedmapbaa.MA
