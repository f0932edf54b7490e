/- Functions of the program as plain Lean functions, and that the code comes to their answers. No condition. -/
import Derived.Test.YtocnpnpedmapbaaMAx0
namespace Go.Proofs.Ytocnpnpedmapbaa.MA
open Go.RowKit Go.Proofs.YtocnpnpedmapbaaW.PrintWords Go.Proofs.YtocnpnpedmapbaaW.PrintLast Go.Proofs.YtocnpnpedmapbaaW.PrintMore
attribute [local go_sem] max2_int min2_int max_two min_two max_three min_three max_four min_four
set_option linter.unusedVariables false
set_option linter.unusedSimpArgs false

/-! ### resamp_rate: function 28 -/
def resamp_rate.f (a0 : Int) : Option (Bool) := if a0 = 8000 then (some true) else (if a0 = 12000 then (some true) else (if a0 = 16000 then (some true) else (if a0 = 24000 then (some true) else (if a0 = 48000 then (some true) else (some false)))))
set_option maxHeartbeats 8000000 in
set_option maxRecDepth 100000 in
theorem resamp_rate.calls (a0 : Int) (r : Bool) (w : World) (h : resamp_rate.f a0 = some r) :
  Calls Try.prog 28 #[.int .i64 a0] w fun e w' => e = .returned (.bool r) ∧ Drawn0 w w' := by
 have H : (if a0 = 8000 then (some true) else (if a0 = 12000 then (some true) else (if a0 = 16000 then (some true) else (if a0 = 24000 then (some true) else (if a0 = 48000 then (some true) else (some false)))))) = some r := h
 clear h
 by_cases c2 : a0 = 8000
 ·
  rw [if_pos c2] at H; have c2b0 : (a0 == 8000) = true := beq_iff_eq.mpr c2; have c2b1 : (a0 != 8000) = false := bne_eq_false_iff_eq.mpr c2; clear c2
  obtain rfl := Option.some.inj H
  go_enter Try.func28, Try.ntmps28
  go_wp2
  go_ret
  exact ⟨by first | rfl | (simp; done) | (simp [*]; done), by repeat (first | exact Drawn0.refl _ | apply Drawn0.step)⟩
 ·
  rw [if_neg c2] at H; have c2b0 : (a0 == 8000) = false := beq_eq_false_iff_ne.mpr c2; have c2b1 : (a0 != 8000) = true := bne_iff_ne.mpr c2
  by_cases c3 : a0 = 12000
  ·
   rw [if_pos c3] at H; have c3b0 : (a0 == 12000) = true := beq_iff_eq.mpr c3; have c3b1 : (a0 != 12000) = false := bne_eq_false_iff_eq.mpr c3; clear c3
   obtain rfl := Option.some.inj H
   go_enter Try.func28, Try.ntmps28
   go_wp2
   go_ret
   exact ⟨by first | rfl | (simp; done) | (simp [*]; done), by repeat (first | exact Drawn0.refl _ | apply Drawn0.step)⟩
  ·
   rw [if_neg c3] at H; have c3b0 : (a0 == 12000) = false := beq_eq_false_iff_ne.mpr c3; have c3b1 : (a0 != 12000) = true := bne_iff_ne.mpr c3
   by_cases c4 : a0 = 16000
   ·
    rw [if_pos c4] at H; have c4b0 : (a0 == 16000) = true := beq_iff_eq.mpr c4; have c4b1 : (a0 != 16000) = false := bne_eq_false_iff_eq.mpr c4; clear c4
    obtain rfl := Option.some.inj H
    go_enter Try.func28, Try.ntmps28
    go_wp2
    go_ret
    exact ⟨by first | rfl | (simp; done) | (simp [*]; done), by repeat (first | exact Drawn0.refl _ | apply Drawn0.step)⟩
   ·
    rw [if_neg c4] at H; have c4b0 : (a0 == 16000) = false := beq_eq_false_iff_ne.mpr c4; have c4b1 : (a0 != 16000) = true := bne_iff_ne.mpr c4
    by_cases c5 : a0 = 24000
    ·
     rw [if_pos c5] at H; have c5b0 : (a0 == 24000) = true := beq_iff_eq.mpr c5; have c5b1 : (a0 != 24000) = false := bne_eq_false_iff_eq.mpr c5; clear c5
     obtain rfl := Option.some.inj H
     go_enter Try.func28, Try.ntmps28
     go_wp2
     go_ret
     exact ⟨by first | rfl | (simp; done) | (simp [*]; done), by repeat (first | exact Drawn0.refl _ | apply Drawn0.step)⟩
    ·
     rw [if_neg c5] at H; have c5b0 : (a0 == 24000) = false := beq_eq_false_iff_ne.mpr c5; have c5b1 : (a0 != 24000) = true := bne_iff_ne.mpr c5
     by_cases c6 : a0 = 48000
     ·
      rw [if_pos c6] at H; have c6b0 : (a0 == 48000) = true := beq_iff_eq.mpr c6; have c6b1 : (a0 != 48000) = false := bne_eq_false_iff_eq.mpr c6; clear c6
      obtain rfl := Option.some.inj H
      go_enter Try.func28, Try.ntmps28
      go_wp2
      go_ret
      exact ⟨by first | rfl | (simp; done) | (simp [*]; done), by repeat (first | exact Drawn0.refl _ | apply Drawn0.step)⟩
     ·
      rw [if_neg c6] at H; have c6b0 : (a0 == 48000) = false := beq_eq_false_iff_ne.mpr c6; have c6b1 : (a0 != 48000) = true := bne_iff_ne.mpr c6
      obtain rfl := Option.some.inj H
      go_enter Try.func28, Try.ntmps28
      go_wp2
      go_ret
      exact ⟨by first | rfl | (simp; done) | (simp [*]; done), by repeat (first | exact Drawn0.refl _ | apply Drawn0.step)⟩

/-! ### resamp_Good: function 13 -/
def resamp_Good.f (a0 : Int) (a1 : Int) : Option (Bool) := (resamp_rate.f a0).bind fun t101 => (if t101 = true then ((resamp_rate.f a1).bind fun t102 => (some t102)) else (some false))
set_option maxHeartbeats 8000000 in
set_option maxRecDepth 100000 in
theorem resamp_Good.calls (a0 : Int) (a1 : Int) (r : Bool) (w : World) (h : resamp_Good.f a0 a1 = some r) :
  Calls Try.prog 13 #[.int .i64 a0, .int .i64 a1] w fun e w' => e = .returned (.bool r) ∧ Drawn0 w w' := by
 have H : ((resamp_rate.f a0).bind fun t101 => (if t101 = true then ((resamp_rate.f a1).bind fun t102 => (some t102)) else (some false))) = some r := h
 clear h; replace H := Option.bind_eq_some_iff.mp H; obtain ⟨t101, A30, H⟩ := H
 replace H : (if t101 = true then ((resamp_rate.f a1).bind fun t102 => (some t102)) else (some false)) = some r := H
 have A3 := Aside0.mk A30; clear A30
 by_cases c4 : t101 = true
 ·
  subst c4
  have H1 : ((resamp_rate.f a1).bind fun t102 => (some t102)) = some r := by rw [if_pos rfl] at H; exact H
  clear H; have H := H1; clear H1; replace H := Option.bind_eq_some_iff.mp H; obtain ⟨t102, A50, H⟩ := H
  replace H : (some t102) = some r := H
  have A5 := Aside0.mk A50; clear A50
  obtain rfl := Option.some.inj H
  go_enter Try.func13, Try.ntmps13
  go_wp2_with (first | ((with_reducible refine gate_callee (f := 28) rfl ?_); refine goesL_ (some 6) rfl rfl Try.func28 (by kernel_rfl) rfl #[.int .i64 a0] rfl (by (try simp only [List.map_toArray, List.map_cons, List.map_nil]); first | done | rfl | (simp only [List.length_drop, List.length_take]; rfl)) ?_; (with_reducible refine (resamp_rate.calls a0 true _ A3.out).mono ?_); rintro e w' ⟨rfl, ⟨nd, rfl⟩⟩; refine ⟨_, rfl, ?_⟩) | (go_at_call 28; (with_reducible refine (resamp_rate.calls a1 t102 _ A5.out).mono ?_); rintro e w' ⟨rfl, ⟨nd, rfl⟩⟩))
  go_ret
  exact ⟨by first | rfl | (simp; done) | (simp [*]; done), by repeat (first | exact Drawn0.refl _ | apply Drawn0.step)⟩
 ·
  replace c4 := Bool.eq_false_iff.mpr c4
  subst c4
  have H1 : (some false) = some r := by rw [if_neg (show ¬ (false = true) by decide)] at H; exact H
  clear H; have H := H1; clear H1
  obtain rfl := Option.some.inj H
  go_enter Try.func13, Try.ntmps13
  go_wp2_with (first | ((with_reducible refine gate_callee (f := 28) rfl ?_); refine goesL_ (some 6) rfl rfl Try.func28 (by kernel_rfl) rfl #[.int .i64 a0] rfl (by (try simp only [List.map_toArray, List.map_cons, List.map_nil]); first | done | rfl | (simp only [List.length_drop, List.length_take]; rfl)) ?_; (with_reducible refine (resamp_rate.calls a0 false _ A3.out).mono ?_); rintro e w' ⟨rfl, ⟨nd, rfl⟩⟩; refine ⟨_, rfl, ?_⟩))
  go_ret
  exact ⟨by first | rfl | (simp; done) | (simp [*]; done), by repeat (first | exact Drawn0.refl _ | apply Drawn0.step)⟩

-- NOT PRINTED: function 9 (resamp_New)

/-! ### resamp_parts: function 22 -/
def resamp_parts.l0 : Nat → Int → Int → Int → Int → Option (Int × Int)
 | 0, _, _, _, _ => none
 | k + 1, x0, x1, x6, x7 => if x7 > 0 then (if x7 = 0 then (none) else (resamp_parts.l0 k x0 x1 x7 (Int.tmod x6 x7))) else (if x6 = 0 then (none) else (some (wrap64 (Int.tdiv x1 x6), wrap64 (Int.tdiv x0 x6))))
def resamp_parts.f (k : Nat) (a0 : Int) (a1 : Int) : Option (Int × Int) := resamp_parts.l0 k a0 a1 a0 a1
set_option maxHeartbeats 8000000 in
set_option maxRecDepth 100000 in
theorem resamp_parts.calls (k : Nat) (a0 : Int) (a1 : Int) (r1 : Int) (r2 : Int) (w : World) (h : resamp_parts.f k a0 a1 = some (r1, r2)) :
  Calls Try.prog 22 #[.int .i64 a0, .int .i64 a1] w fun e w' => e = .returned (.tuple #[.int .i64 r1, .int .i64 r2]) ∧ Drawn0 w w' := by
 have H : (resamp_parts.l0 k a0 a1 a0 a1) = some (r1, r2) := h
 clear h; have H' := Aside0.mk H; clear H
 go_enter Try.func22, Try.ntmps22
 go_wp2
 repeat (go_quiet (fail); try go_wp2)
 go_loopg [6, 7] k (fun kq v6 v7 w' => ∃ (x6_1 : Int) (x7_1 : Int), v6 = .int .i64 x6_1 ∧ v7 = .int .i64 x7_1 ∧ Aside0 (resamp_parts.l0 kq a0 a1 x6_1 x7_1 = some (r1, r2)) ∧ Aside0 (kq ≤ k) ∧ Drawn0 w w')
 case atStart => exact ⟨(a0), (a1), (by first | rfl | (simp; done) | (simp [*]; done)), (by first | rfl | (simp; done) | (simp [*]; done)), H', ⟨Nat.le_refl _⟩, by repeat (first | exact Drawn0.refl _ | apply Drawn0.step)⟩
 case round =>
  clear H'
  (try clear c2); (try clear p2)
  obtain ⟨x6_1, x7_1, rfl, rfl, HA, HK1, ⟨m1, rfl⟩⟩ := hrel
  cases gk with
  | zero => exact absurd HA.out (by simp [resamp_parts.l0])
  | succ k1 =>
   have H := HA.out; clear HA
   simp only [resamp_parts.l0] at H
   by_cases c3 : x7_1 > 0
   ·
    rw [if_pos c3] at H; have c3b0 : decide (0 < x7_1) = true := decide_eq_true c3; clear c3
    by_cases c4 : x7_1 = 0
    ·
     rw [if_pos c4] at H; exact absurd H (by simp)
    ·
     rw [if_neg c4] at H; have c4b0 : (x7_1 == 0) = false := beq_eq_false_iff_ne.mpr c4; have c4b1 : (x7_1 != 0) = true := bne_iff_ne.mpr c4; have H' := Aside0.mk H; clear H
     go_wp2
     repeat (go_quiet (fail); try go_wp2)
     go_roundg k1
     case measure => have := HK1.out; omega
     case rel => exact ⟨(x7_1), (Int.tmod x6_1 x7_1), (by first | rfl | (simp; done) | (simp [*]; done)), (by first | rfl | (simp; done) | (simp [*]; done)), H', ⟨by have := HK1.out; omega⟩, by repeat (first | exact Drawn0.refl _ | apply Drawn0.step)⟩
   ·
    rw [if_neg c3] at H; have c3b0 : decide (0 < x7_1) = false := decide_eq_false c3; clear c3
    by_cases c5 : x6_1 = 0
    ·
     rw [if_pos c5] at H; exact absurd H (by simp)
    ·
     rw [if_neg c5] at H; have c5b0 : (x6_1 == 0) = false := beq_eq_false_iff_ne.mpr c5; have c5b1 : (x6_1 != 0) = true := bne_iff_ne.mpr c5
     simp only [Option.some.injEq, Prod.mk.injEq] at H
     obtain ⟨rfl, rfl⟩ := H
     go_wp2
     repeat (go_quiet (fail); try go_wp2)
     go_ret2
     exact ⟨by first | rfl | (simp; done) | (simp [*]; done), by repeat (first | exact Drawn0.refl _ | apply Drawn0.step)⟩

/-! ### resamp_down: function 24 -/
def resamp_down.f (a0 : Int) (a1 : Int) : Option (Int) := if a1 = 0 then (none) else (if (Int.tmod a0 a1) = 0 then (some (wrap64 (Int.tdiv a0 a1))) else (if ((decide (a0 < 0)) != (decide (a1 < 0))) = true then (some (wrap64 ((wrap64 (Int.tdiv a0 a1)) - 1))) else (some (wrap64 (Int.tdiv a0 a1)))))
set_option maxHeartbeats 8000000 in
set_option maxRecDepth 100000 in
theorem resamp_down.calls (a0 : Int) (a1 : Int) (r : Int) (w : World) (h : resamp_down.f a0 a1 = some r) :
  Calls Try.prog 24 #[.int .i64 a0, .int .i64 a1] w fun e w' => e = .returned (.int .i64 r) ∧ Drawn0 w w' := by
 have H : (if a1 = 0 then (none) else (if (Int.tmod a0 a1) = 0 then (some (wrap64 (Int.tdiv a0 a1))) else (if ((decide (a0 < 0)) != (decide (a1 < 0))) = true then (some (wrap64 ((wrap64 (Int.tdiv a0 a1)) - 1))) else (some (wrap64 (Int.tdiv a0 a1)))))) = some r := h
 clear h
 by_cases c3 : a1 = 0
 ·
  rw [if_pos c3] at H; exact absurd H (by simp)
 ·
  rw [if_neg c3] at H; have c3b0 : (a1 == 0) = false := beq_eq_false_iff_ne.mpr c3; have c3b1 : (a1 != 0) = true := bne_iff_ne.mpr c3
  by_cases c4 : (Int.tmod a0 a1) = 0
  ·
   rw [if_pos c4] at H; have c4b0 : ((Int.tmod a0 a1) == 0) = true := beq_iff_eq.mpr c4; have c4b1 : ((Int.tmod a0 a1) != 0) = false := bne_eq_false_iff_eq.mpr c4; clear c4
   obtain rfl := Option.some.inj H
   go_enter Try.func24, Try.ntmps24
   go_wp2
   go_ret
   exact ⟨by first | rfl | (simp; done) | (simp [*]; done), by repeat (first | exact Drawn0.refl _ | apply Drawn0.step)⟩
  ·
   rw [if_neg c4] at H; have c4b0 : ((Int.tmod a0 a1) == 0) = false := beq_eq_false_iff_ne.mpr c4; have c4b1 : ((Int.tmod a0 a1) != 0) = true := bne_iff_ne.mpr c4
   by_cases c5 : ((decide (a0 < 0)) != (decide (a1 < 0))) = true
   ·
    rw [if_pos c5] at H
    have c5b0 : ((decide (a0 < 0)) != (decide (a1 < 0))) = true := c5
    (try (have c5b1 : decide ((decide (a0 < 0)) = (decide (a1 < 0))) = false := by simpa using c5)); (try (have c5b2 : ((decide (a0 < 0)) == (decide (a1 < 0))) = false := by simpa using c5)); (try (have c5b3 : ¬ ((decide (a0 < 0)) = (decide (a1 < 0))) := by simpa using c5)); clear c5
    obtain rfl := Option.some.inj H
    go_enter Try.func24, Try.ntmps24
    go_wp2
    go_ret
    exact ⟨by first | rfl | (simp; done) | (simp [*]; done), by repeat (first | exact Drawn0.refl _ | apply Drawn0.step)⟩
   ·
    rw [if_neg c5] at H
    have c5b0 : ((decide (a0 < 0)) != (decide (a1 < 0))) = false := by simpa using c5
    (try (have c5b1 : decide ((decide (a0 < 0)) = (decide (a1 < 0))) = true := by simpa using c5)); (try (have c5b2 : ((decide (a0 < 0)) == (decide (a1 < 0))) = true := by simpa using c5)); clear c5
    obtain rfl := Option.some.inj H
    go_enter Try.func24, Try.ntmps24
    go_wp2
    go_ret
    exact ⟨by first | rfl | (simp; done) | (simp [*]; done), by repeat (first | exact Drawn0.refl _ | apply Drawn0.step)⟩

/-! ### fix_Clamp: function 35 -/
def fix_Clamp.j0 : Nat → Int → Int → Int → Bool → Option (Int)
 | 0, _, _, _, _ => none
 | k + 1, x0, x1, x2, x7 => if x7 = true then (some x1) else (if x0 > x2 then (some x2) else (some x0))
def fix_Clamp.f (k : Nat) (a0 : Int) (a1 : Int) (a2 : Int) : Option (Int) := if a1 > a2 then (fix_Clamp.j0 k a0 a1 a2 true) else (fix_Clamp.j0 k a0 a1 a2 (decide (a0 < a1)))
set_option maxHeartbeats 8000000 in
set_option maxRecDepth 100000 in
theorem fix_Clamp.calls (k : Nat) (a0 : Int) (a1 : Int) (a2 : Int) (r : Int) (w : World) (h : fix_Clamp.f k a0 a1 a2 = some r) :
  Calls Try.prog 35 #[.int .i64 a0, .int .i64 a1, .int .i64 a2] w fun e w' => e = .returned (.int .i64 r) ∧ Drawn0 w w' := by
 have H : (if a1 > a2 then (fix_Clamp.j0 k a0 a1 a2 true) else (fix_Clamp.j0 k a0 a1 a2 (decide (a0 < a1)))) = some r := h
 clear h; have HC4 := Aside0.mk H; clear H
 go_enter Try.func35, Try.ntmps35
 go_upto_region 1 with (fail)
 go_cut [7] (fun v7 wc => ∃ (kq : Nat) (x7_3 : Bool), v7 = .bool x7_3 ∧ Aside0 (fix_Clamp.j0 kq a0 a1 a2 x7_3 = some r) ∧ Aside0 (kq ≤ k) ∧ Drawn0 w wc)
 case first =>
  have H := HC4.out; clear HC4
  by_cases c5 : a1 > a2
  ·
   rw [if_pos c5] at H; have c5b0 : decide (a2 < a1) = true := decide_eq_true c5; clear c5
   (first | rw [c5b0] | (simp only [i64_w, i32_w]; rw [c5b0]) | skip)
   have H' := Aside0.mk H; clear H
   go_wp2
   go_meet
   case rel => exact ⟨_, (true), (by first | rfl | (simp; done) | (simp [*]; done)), H', ⟨by first | omega | exact Nat.le_refl _⟩, by repeat (first | exact Drawn0.refl _ | apply Drawn0.step)⟩
  ·
   rw [if_neg c5] at H; have c5b0 : decide (a2 < a1) = false := decide_eq_false c5; clear c5
   (first | rw [c5b0] | (simp only [i64_w, i32_w]; rw [c5b0]) | skip)
   have H' := Aside0.mk H; clear H
   go_wp2
   go_meet
   case rel => exact ⟨_, (decide (a0 < a1)), (by first | rfl | (simp; done) | (simp [*]; done)), H', ⟨by first | omega | exact Nat.le_refl _⟩, by repeat (first | exact Drawn0.refl _ | apply Drawn0.step)⟩
 case rest =>
  clear HC4; (try clear p2); (try clear c3); (try clear c5); (try clear c5b0); (try clear c5b0z0)
  obtain ⟨kq, x7_3, rfl, HA, HJ3, ⟨mc3, rfl⟩⟩ := hcut
  cases kq with
  | zero => exact absurd HA.out (by simp [fix_Clamp.j0])
  | succ kj3 =>
   have H := HA.out; clear HA
   simp only [fix_Clamp.j0] at H
   by_cases c6 : x7_3 = true
   ·
    subst c6
    have H1 : (some a1) = some r := by rw [if_pos rfl] at H; exact H
    clear H; have H := H1; clear H1
    obtain rfl := Option.some.inj H
    go_wp2
    go_ret
    exact ⟨by first | rfl | (simp; done) | (simp [*]; done), by repeat (first | exact Drawn0.refl _ | apply Drawn0.step)⟩
   ·
    replace c6 := Bool.eq_false_iff.mpr c6
    subst c6
    have H1 : (if a0 > a2 then (some a2) else (some a0)) = some r := by rw [if_neg (show ¬ (false = true) by decide)] at H; exact H
    clear H; have H := H1; clear H1
    by_cases c7 : a0 > a2
    ·
     rw [if_pos c7] at H; have c7b0 : decide (a2 < a0) = true := decide_eq_true c7; clear c7
     obtain rfl := Option.some.inj H
     go_wp2
     go_ret
     exact ⟨by first | rfl | (simp; done) | (simp [*]; done), by repeat (first | exact Drawn0.refl _ | apply Drawn0.step)⟩
    ·
     rw [if_neg c7] at H; have c7b0 : decide (a2 < a0) = false := decide_eq_false c7; clear c7
     obtain rfl := Option.some.inj H
     go_wp2
     go_ret
     exact ⟨by first | rfl | (simp; done) | (simp [*]; done), by repeat (first | exact Drawn0.refl _ | apply Drawn0.step)⟩

/-! ### fix_factor: function 36 -/
def fix_factor.f (k : Nat) (a0 : Int) : Option (Int) := (fix_Clamp.f k a0 (-2147483648) 2147483648).bind fun t103 => (some t103)
set_option maxHeartbeats 8000000 in
set_option maxRecDepth 100000 in
theorem fix_factor.calls (k : Nat) (a0 : Int) (r : Int) (w : World) (h : fix_factor.f k a0 = some r) :
  Calls Try.prog 36 #[.int .i64 a0] w fun e w' => e = .returned (.int .i64 r) ∧ Drawn0 w w' := by
 have H : ((fix_Clamp.f k a0 (-2147483648) 2147483648).bind fun t103 => (some t103)) = some r := h
 clear h; replace H := Option.bind_eq_some_iff.mp H; obtain ⟨t103, A20, H⟩ := H
 replace H : (some t103) = some r := H
 have A2 := Aside0.mk A20; clear A20
 obtain rfl := Option.some.inj H
 go_enter Try.func36, Try.ntmps36
 go_wp2_with (first | ((with_reducible refine gate_callee (f := 35) rfl ?_); refine goesL_ (some 4) rfl rfl Try.func35 (by kernel_rfl) rfl #[.int .i64 a0, .int .i64 (-2147483648), .int .i64 2147483648] rfl (by (try simp only [List.map_toArray, List.map_cons, List.map_nil]); first | done | rfl | (simp only [List.length_drop, List.length_take]; rfl)) ?_; (with_reducible refine (fix_Clamp.calls k a0 (-2147483648) 2147483648 t103 _ A2.out).mono ?_); rintro e w' ⟨rfl, ⟨nd, rfl⟩⟩; refine ⟨_, rfl, ?_⟩))
 go_ret
 exact ⟨by first | rfl | (simp; done) | (simp [*]; done), by repeat (first | exact Drawn0.refl _ | apply Drawn0.step)⟩

/-! ### fix_Mul: function 26 -/
def fix_Mul.f (k : Nat) (a0 : Int) (a1 : Int) (a2 : Int) : Option (Int) := (fix_factor.f k a0).bind fun t104 => ((fix_factor.f k a1).bind fun t105 => (if a2 = 0 then (some (wrap64 (t104 * t105))) else (if a2 < 0 then (some 0) else (if a2 > 62 then (some 0) else (if 0 ≤ (wrap64 (a2 - 1)) then (if 0 ≤ a2 then (some (shr .i64 (wrap64 ((wrap64 (t104 * t105)) + (shl .i64 1 (wrap64 (a2 - 1))))) a2)) else (none)) else (none))))))
set_option maxHeartbeats 8000000 in
set_option maxRecDepth 100000 in
theorem fix_Mul.calls (k : Nat) (a0 : Int) (a1 : Int) (a2 : Int) (r : Int) (w : World) (h : fix_Mul.f k a0 a1 a2 = some r) :
  Calls Try.prog 26 #[.int .i64 a0, .int .i64 a1, .int .i64 a2] w fun e w' => e = .returned (.int .i64 r) ∧ Drawn0 w w' := by
 have H : ((fix_factor.f k a0).bind fun t104 => ((fix_factor.f k a1).bind fun t105 => (if a2 = 0 then (some (wrap64 (t104 * t105))) else (if a2 < 0 then (some 0) else (if a2 > 62 then (some 0) else (if 0 ≤ (wrap64 (a2 - 1)) then (if 0 ≤ a2 then (some (shr .i64 (wrap64 ((wrap64 (t104 * t105)) + (shl .i64 1 (wrap64 (a2 - 1))))) a2)) else (none)) else (none))))))) = some r := h
 clear h; replace H := Option.bind_eq_some_iff.mp H; obtain ⟨t104, A40, H⟩ := H
 replace H : ((fix_factor.f k a1).bind fun t105 => (if a2 = 0 then (some (wrap64 (t104 * t105))) else (if a2 < 0 then (some 0) else (if a2 > 62 then (some 0) else (if 0 ≤ (wrap64 (a2 - 1)) then (if 0 ≤ a2 then (some (shr .i64 (wrap64 ((wrap64 (t104 * t105)) + (shl .i64 1 (wrap64 (a2 - 1))))) a2)) else (none)) else (none)))))) = some r := H
 have A4 := Aside0.mk A40; clear A40; replace H := Option.bind_eq_some_iff.mp H; obtain ⟨t105, A50, H⟩ := H
 replace H : (if a2 = 0 then (some (wrap64 (t104 * t105))) else (if a2 < 0 then (some 0) else (if a2 > 62 then (some 0) else (if 0 ≤ (wrap64 (a2 - 1)) then (if 0 ≤ a2 then (some (shr .i64 (wrap64 ((wrap64 (t104 * t105)) + (shl .i64 1 (wrap64 (a2 - 1))))) a2)) else (none)) else (none))))) = some r := H
 have A5 := Aside0.mk A50; clear A50
 by_cases c6 : a2 = 0
 ·
  rw [if_pos c6] at H; have c6b0 : (a2 == 0) = true := beq_iff_eq.mpr c6; have c6b1 : (a2 != 0) = false := bne_eq_false_iff_eq.mpr c6; clear c6
  obtain rfl := Option.some.inj H
  go_enter Try.func26, Try.ntmps26
  go_wp2_with (first | ((with_reducible refine gate_callee (f := 36) rfl ?_); refine goesL_ (some 9) rfl rfl Try.func36 (by kernel_rfl) rfl #[.int .i64 a0] rfl (by (try simp only [List.map_toArray, List.map_cons, List.map_nil]); first | done | rfl | (simp only [List.length_drop, List.length_take]; rfl)) ?_; (with_reducible refine (fix_factor.calls k a0 t104 _ A4.out).mono ?_); rintro e w' ⟨rfl, ⟨nd, rfl⟩⟩; refine ⟨_, rfl, ?_⟩) | ((with_reducible refine gate_callee (f := 36) rfl ?_); refine goesL_ (some 11) rfl rfl Try.func36 (by kernel_rfl) rfl #[.int .i64 a1] rfl (by (try simp only [List.map_toArray, List.map_cons, List.map_nil]); first | done | rfl | (simp only [List.length_drop, List.length_take]; rfl)) ?_; (with_reducible refine (fix_factor.calls k a1 t105 _ A5.out).mono ?_); rintro e w' ⟨rfl, ⟨nd, rfl⟩⟩; refine ⟨_, rfl, ?_⟩))
  go_ret
  exact ⟨by first | rfl | (simp; done) | (simp [*]; done), by repeat (first | exact Drawn0.refl _ | apply Drawn0.step)⟩
 ·
  rw [if_neg c6] at H; have c6b0 : (a2 == 0) = false := beq_eq_false_iff_ne.mpr c6; have c6b1 : (a2 != 0) = true := bne_iff_ne.mpr c6
  by_cases c7 : a2 < 0
  ·
   rw [if_pos c7] at H; have c7b0 : decide (a2 < 0) = true := decide_eq_true c7; clear c7
   obtain rfl := Option.some.inj H
   go_enter Try.func26, Try.ntmps26
   go_wp2_with (first | ((with_reducible refine gate_callee (f := 36) rfl ?_); refine goesL_ (some 9) rfl rfl Try.func36 (by kernel_rfl) rfl #[.int .i64 a0] rfl (by (try simp only [List.map_toArray, List.map_cons, List.map_nil]); first | done | rfl | (simp only [List.length_drop, List.length_take]; rfl)) ?_; (with_reducible refine (fix_factor.calls k a0 t104 _ A4.out).mono ?_); rintro e w' ⟨rfl, ⟨nd, rfl⟩⟩; refine ⟨_, rfl, ?_⟩) | ((with_reducible refine gate_callee (f := 36) rfl ?_); refine goesL_ (some 11) rfl rfl Try.func36 (by kernel_rfl) rfl #[.int .i64 a1] rfl (by (try simp only [List.map_toArray, List.map_cons, List.map_nil]); first | done | rfl | (simp only [List.length_drop, List.length_take]; rfl)) ?_; (with_reducible refine (fix_factor.calls k a1 t105 _ A5.out).mono ?_); rintro e w' ⟨rfl, ⟨nd, rfl⟩⟩; refine ⟨_, rfl, ?_⟩))
   go_ret
   exact ⟨by first | rfl | (simp; done) | (simp [*]; done), by repeat (first | exact Drawn0.refl _ | apply Drawn0.step)⟩
  ·
   rw [if_neg c7] at H; have c7b0 : decide (a2 < 0) = false := decide_eq_false c7; clear c7
   by_cases c8 : a2 > 62
   ·
    rw [if_pos c8] at H; have c8b0 : decide (62 < a2) = true := decide_eq_true c8; clear c8
    obtain rfl := Option.some.inj H
    go_enter Try.func26, Try.ntmps26
    go_wp2_with (first | ((with_reducible refine gate_callee (f := 36) rfl ?_); refine goesL_ (some 9) rfl rfl Try.func36 (by kernel_rfl) rfl #[.int .i64 a0] rfl (by (try simp only [List.map_toArray, List.map_cons, List.map_nil]); first | done | rfl | (simp only [List.length_drop, List.length_take]; rfl)) ?_; (with_reducible refine (fix_factor.calls k a0 t104 _ A4.out).mono ?_); rintro e w' ⟨rfl, ⟨nd, rfl⟩⟩; refine ⟨_, rfl, ?_⟩) | ((with_reducible refine gate_callee (f := 36) rfl ?_); refine goesL_ (some 11) rfl rfl Try.func36 (by kernel_rfl) rfl #[.int .i64 a1] rfl (by (try simp only [List.map_toArray, List.map_cons, List.map_nil]); first | done | rfl | (simp only [List.length_drop, List.length_take]; rfl)) ?_; (with_reducible refine (fix_factor.calls k a1 t105 _ A5.out).mono ?_); rintro e w' ⟨rfl, ⟨nd, rfl⟩⟩; refine ⟨_, rfl, ?_⟩))
    go_ret
    exact ⟨by first | rfl | (simp; done) | (simp [*]; done), by repeat (first | exact Drawn0.refl _ | apply Drawn0.step)⟩
   ·
    rw [if_neg c8] at H; have c8b0 : decide (62 < a2) = false := decide_eq_false c8; clear c8
    obtain ⟨ji9, hji9⟩ : ∃ j_ : Int, (wrap64 (a2 - 1)) = j_ := ⟨_, rfl⟩
    replace H : (if 0 ≤ (ji9) then (if 0 ≤ a2 then (some (shr .i64 (wrap64 ((wrap64 (t104 * t105)) + (shl .i64 1 (ji9)))) a2)) else (none)) else (none)) = some r := by first | (rw [hji9] at H; exact H) | (simp only [hji9] at H ⊢; exact H)
    (try rw [hji9] at A4); (try rw [hji9] at A5)
    have hji9w : (IntKind.i64.wrap (a2 - 1)) = ji9 := (i64_w _).trans hji9
    by_cases c10 : 0 ≤ (ji9); rotate_left
    · rw [if_neg c10] at H; exact absurd H (by simp)
    rw [if_pos c10] at H; have c10b0 := eq_true c10; have c10b1 : decide (0 ≤ (ji9)) = true := decide_eq_true c10; clear c10
    obtain ⟨ji11, hji11⟩ : ∃ j_ : Int, (shl .i64 1 (ji9)) = j_ := ⟨_, rfl⟩
    replace H : (if 0 ≤ a2 then (some (shr .i64 (wrap64 ((wrap64 (t104 * t105)) + (ji11))) a2)) else (none)) = some r := by first | (rw [hji11] at H; exact H) | (simp only [hji11] at H ⊢; exact H)
    (try rw [hji11] at A4); (try rw [hji11] at A5)
    have hji11_ : (IntKind.i64.wrap (1 * 2 ^ min (ji9).toNat 64)) = ji11 := hji11
    have hji11z : (ji9) ≤ 64 → (IntKind.i64.wrap (1 * 2 ^ (ji9).toNat)) = ji11 := shl_small hji11
    have hji11u : (IntKind.i64.wrap (2 ^ min (ji9).toNat 64)) = ji11 := by have h_ := hji11_; rw [Int.one_mul] at h_; exact h_
    have hji11v : (ji9) ≤ 64 → (IntKind.i64.wrap (2 ^ (ji9).toNat)) = ji11 := fun hle_ => by have h_ := hji11z hle_; rw [Int.one_mul] at h_; exact h_
    have hji11y : (wrap64 (1 * 2 ^ min (ji9).toNat 64)) = ji11 := (i64_w _).symm.trans hji11_
    have hji11x : (ji9) ≤ 64 → (wrap64 (1 * 2 ^ (ji9).toNat)) = ji11 := fun h_ => (i64_w _).symm.trans (hji11z h_)
    by_cases c12 : 0 ≤ a2; rotate_left
    · rw [if_neg c12] at H; exact absurd H (by simp)
    rw [if_pos c12] at H; have c12b0 := eq_true c12; have c12b1 : decide (0 ≤ a2) = true := decide_eq_true c12; clear c12
    obtain ⟨ji13, hji13⟩ : ∃ j_ : Int, (shr .i64 (wrap64 ((wrap64 (t104 * t105)) + (ji11))) a2) = j_ := ⟨_, rfl⟩
    replace H : (some ji13) = some r := by first | (rw [hji13] at H; exact H) | (simp only [hji13] at H ⊢; exact H)
    (try rw [hji13] at A4); (try rw [hji13] at A5)
    have hji13_ : ((wrap64 ((wrap64 (t104 * t105)) + (ji11))) / 2 ^ min a2.toNat 64) = ji13 := hji13
    have hji13z : a2 ≤ 64 → ((wrap64 ((wrap64 (t104 * t105)) + (ji11))) / 2 ^ a2.toNat) = ji13 := shr_small hji13
    obtain rfl := Option.some.inj H
    go_enter Try.func26, Try.ntmps26
    go_wp2_with (first | ((with_reducible refine gate_callee (f := 36) rfl ?_); refine goesL_ (some 9) rfl rfl Try.func36 (by kernel_rfl) rfl #[.int .i64 a0] rfl (by (try simp only [List.map_toArray, List.map_cons, List.map_nil]); first | done | rfl | (simp only [List.length_drop, List.length_take]; rfl)) ?_; (with_reducible refine (fix_factor.calls k a0 t104 _ A4.out).mono ?_); rintro e w' ⟨rfl, ⟨nd, rfl⟩⟩; refine ⟨_, rfl, ?_⟩) | ((with_reducible refine gate_callee (f := 36) rfl ?_); refine goesL_ (some 11) rfl rfl Try.func36 (by kernel_rfl) rfl #[.int .i64 a1] rfl (by (try simp only [List.map_toArray, List.map_cons, List.map_nil]); first | done | rfl | (simp only [List.length_drop, List.length_take]; rfl)) ?_; (with_reducible refine (fix_factor.calls k a1 t105 _ A5.out).mono ?_); rintro e w' ⟨rfl, ⟨nd, rfl⟩⟩; refine ⟨_, rfl, ?_⟩))
    go_ret
    exact ⟨by first | rfl | (simp; done) | (simp only [← hji9, ← hji11, ← hji13] <;> (first | rfl | simp)) | (simp [*]; done), by repeat (first | exact Drawn0.refl _ | apply Drawn0.step)⟩

/-! ### fix_series: function 37 -/
def fix_series.l0 : Nat → Int → Int → List Int → Int → Int → Option (Int)
 | 0, _, _, _, _, _ => none
 | k + 1, x0, x5, x12, x13, x14 => if x14 < x13 then (if 0 ≤ x14 then (if x14 < (x12.length : Int) then ((fix_Mul.f k x0 x5 30).bind fun t109 => (fix_series.l0 k x0 (wrap64 ((rd x12 x14) + t109)) x12 x13 (wrap64 (x14 + 1)))) else (none)) else (none)) else (some x5)
def fix_series.f (k : Nat) (a0 : Int) (l1 : List Int) : Option (Int) := if 0 < (l1.length : Int) then (if 1 ≤ (l1.length : Int) then (fix_series.l0 k a0 (rd l1 0) (l1.drop 1) ((l1.drop 1).length : Int) 0) else (none)) else (none)
set_option maxHeartbeats 8000000 in
set_option maxRecDepth 100000 in
theorem fix_series.calls (k : Nat) (a0 : Int) (A1 : Option Addr) (c1 : Nat) (l1 : List Int) (r : Int) (w : World) (hr1 : Kd.C (Kd.int .i64) w A1 l1.length l1) (hc1 : l1.length ≤ c1) (h : fix_series.f k a0 l1 = some r) :
  Calls Try.prog 37 #[.int .i64 a0, .slice A1 l1.length c1] w fun e w' => e = .returned (.int .i64 r) ∧ Drawn0 w w' := by
 have HR1 := Aside0.mk hr1; have HC1 := Aside0.mk hc1; clear hr1 hc1
 have H : (if 0 < (l1.length : Int) then (if 1 ≤ (l1.length : Int) then (fix_series.l0 k a0 (rd l1 0) (l1.drop 1) ((l1.drop 1).length : Int) 0) else (none)) else (none)) = some r := h
 clear h
 by_cases c3 : 0 < (l1.length : Int); rotate_left
 · rw [if_neg c3] at H; exact absurd H (by simp)
 rw [if_pos c3] at H; have c3b0 : decide (0 < (l1.length : Int)) = true := decide_eq_true c3; have c3b1 : decide (0 < l1.length) = true := decide_eq_true (by omega); clear c3
 by_cases c4 : 1 ≤ (l1.length : Int); rotate_left
 · rw [if_neg c4] at H; exact absurd H (by simp)
 rw [if_pos c4] at H; have c4b0 := eq_true c4; have c4b1 : decide (1 ≤ (l1.length : Int)) = true := decide_eq_true c4; clear c4; have H' := Aside0.mk H; clear H
 have p106 : 0 ≤ (0 : Int) := (by omega)
 have q106 : 0 < (l1.length : Int) := of_decide_eq_true (by first | (with_reducible assumption) | assumption)
 obtain ⟨ad106, e106, hx106_0⟩ := Kd.at_int HR1.out 0 p106 q106
 cases e106
 have qi106 : (0 < l1.length) = True := eq_true (by omega)
 (try rw [show ((0 : Int)).toNat = 0 from rfl] at hx106_0); (try rw [Addr.add_zero'] at hx106_0); replace p106 := eq_true p106; replace q106 := eq_true q106
 obtain ⟨i05, hi05, _, hsz5, _⟩ := info_parts info2
 obtain ⟨A5, hcut5, hA5, hC5⟩ := print_drop_of (P := Try.prog) (Value.int .i64) 0 27 2 .i64 Try.underlying27 hi05 hsz5 (some ad106) c1 l1 1 (by omega) (of_decide_eq_true (by first | (with_reducible assumption) | assumption)) HC1.out
 have HR107 := Aside0.mk (Kd.C_of_reads (h1 := fun _ => rfl) (hA5 _ (Kd.reads_of_C HR1.out)))
 have HC107 := Aside0.mk hC5; clear hA5 hC5 hi05 hsz5
 go_enter Try.func37, Try.ntmps37
 go_wp2
 go_loopg [5, 14] k (fun kq v5 v14 w' => ∃ (x5_1 : Int) (x14_1 : Int), v5 = .int .i64 x5_1 ∧ v14 = .int .i64 x14_1 ∧ Aside0 (fix_series.l0 kq a0 x5_1 (l1.drop 1) ((l1.drop 1).length : Int) x14_1 = some r) ∧ Aside0 (kq ≤ k) ∧ Drawn0 w w')
 case atStart => exact ⟨(rd l1 0), (0), (by first | rfl | (simp; done) | (simp [*]; done)), (by first | rfl | (simp; done) | (simp [*]; done)), H', ⟨Nat.le_refl _⟩, by repeat (first | exact Drawn0.refl _ | apply Drawn0.step)⟩
 case round =>
  clear H'
  (try clear c1); (try clear p1); (try clear q1); (try clear hx1); (try clear qi1); (try clear p2); (try clear c3); (try clear c3b0); (try clear c3b0z0); (try clear c3b1); (try clear c3b1z0); (try clear c4); (try clear c4b0); (try clear c4b0z0); (try clear c4b1); (try clear c4b1z0); (try clear hx106_0); (try clear p106); (try clear q106)
  obtain ⟨x5_1, x14_1, rfl, rfl, HA, HK1, ⟨m1, rfl⟩⟩ := hrel
  cases gk with
  | zero => exact absurd HA.out (by simp [fix_series.l0])
  | succ k1 =>
   have H := HA.out; clear HA
   simp only [fix_series.l0] at H
   by_cases c6 : x14_1 < ((l1.drop 1).length : Int)
   ·
    rw [if_pos c6] at H; have c6b0 : decide (x14_1 < ((l1.drop 1).length : Int)) = true := decide_eq_true c6
    (try (have c6b0s := c6b0; simp only [List.length_drop] at c6b0s))
    clear c6
    by_cases c7 : 0 ≤ x14_1; rotate_left
    · rw [if_neg c7] at H; exact absurd H (by simp)
    rw [if_pos c7] at H; have c7b0 : decide (0 ≤ x14_1) = true := decide_eq_true c7; clear c7
    by_cases c8 : x14_1 < ((l1.drop 1).length : Int); rotate_left
    · rw [if_neg c8] at H; exact absurd H (by simp)
    rw [if_pos c8] at H; have c8b0 : decide (x14_1 < ((l1.drop 1).length : Int)) = true := decide_eq_true c8
    (try (have c8b0s := c8b0; simp only [List.length_drop] at c8b0s))
    clear c8; replace H := Option.bind_eq_some_iff.mp H; obtain ⟨t109, A90, H⟩ := H
    replace H : (fix_series.l0 k1 a0 (wrap64 ((rd (l1.drop 1) x14_1) + t109)) (l1.drop 1) ((l1.drop 1).length : Int) (wrap64 (x14_1 + 1))) = some r := H
    have A9 := Aside0.mk A90; clear A90; have H' := Aside0.mk H; clear H; have p108 : 0 ≤ (x14_1 : Int) := of_decide_eq_true (by first | (with_reducible assumption) | assumption); have q108 : x14_1 < ((l1.drop 1).length : Int) := of_decide_eq_true (by first | (with_reducible assumption) | assumption)
    obtain ⟨ad108, e108, hx108_0⟩ := Kd.at_int HR107.out x14_1 p108 q108
    cases e108; replace p108 := eq_true p108; replace q108 := eq_true q108
    (try (have q108s := q108; simp only [List.length_drop, eq_self_iff_true] at q108s))
    go_wp2_with (first | ((with_reducible refine gate_callee (f := 26) rfl ?_); refine goesL_ (some 21) rfl rfl Try.func26 (by kernel_rfl) rfl #[.int .i64 a0, .int .i64 x5_1, .int .i64 30] rfl (by (try simp only [List.map_toArray, List.map_cons, List.map_nil]); first | done | rfl | (simp only [List.length_drop, List.length_take]; rfl)) ?_; (with_reducible refine (fix_Mul.calls k1 a0 x5_1 30 t109 _ A9.out).mono ?_); rintro e w' ⟨rfl, ⟨nd, rfl⟩⟩; refine ⟨_, rfl, ?_⟩))
    go_roundg k1
    case measure => have := HK1.out; omega
    case rel => exact ⟨(wrap64 ((rd (l1.drop 1) x14_1) + t109)), (wrap64 (x14_1 + 1)), (by first | rfl | (simp; done) | (simp [*]; done)), (by first | rfl | (simp; done) | (simp [*]; done)), H', ⟨by have := HK1.out; omega⟩, by repeat (first | exact Drawn0.refl _ | apply Drawn0.step)⟩
   ·
    rw [if_neg c6] at H; have c6b0 : decide (x14_1 < ((l1.drop 1).length : Int)) = false := decide_eq_false c6
    (try (have c6b0s := c6b0; simp only [List.length_drop] at c6b0s))
    clear c6
    obtain rfl := Option.some.inj H
    go_wp2
    go_ret
    exact ⟨by first | rfl | (simp; done) | (simp [*]; done), by repeat (first | exact Drawn0.refl _ | apply Drawn0.step)⟩

/-! ### fix_Cos: function 27 -/
def fix_Cos.j0 : Nat → Int → Option (Int)
 | 0, _ => none
 | k + 1, x0 => if x0 > 16384 then (if (wrap64 (32768 - x0)) ≤ 8192 then ((fix_Mul.f k (wrap64 (32768 - x0)) 1686629713 14).bind fun t110 => ((fix_Mul.f k t110 t110 30).bind fun t111 => ((fix_series.f k t111 (([(-296), 26631, (-1491308), 44739243, (-536870912), 1073741824] : List Int))).bind fun t115 => ((fix_Mul.f k t115 1 15).bind fun t116 => (some (wrap64 (-t116))))))) else ((fix_Mul.f k (wrap64 (16384 - (wrap64 (32768 - x0)))) 1686629713 14).bind fun t117 => ((fix_Mul.f k t117 t117 30).bind fun t118 => ((fix_series.f k t118 (([2959, (-213044), 8947849, (-178956971), 1073741824] : List Int))).bind fun t122 => ((fix_Mul.f k t117 t122 30).bind fun t123 => ((fix_Mul.f k t123 1 15).bind fun t124 => (some (wrap64 (-t124))))))))) else (if x0 ≤ 8192 then ((fix_Mul.f k x0 1686629713 14).bind fun t125 => ((fix_Mul.f k t125 t125 30).bind fun t126 => ((fix_series.f k t126 (([(-296), 26631, (-1491308), 44739243, (-536870912), 1073741824] : List Int))).bind fun t130 => ((fix_Mul.f k t130 1 15).bind fun t131 => (some t131))))) else ((fix_Mul.f k (wrap64 (16384 - x0)) 1686629713 14).bind fun t132 => ((fix_Mul.f k t132 t132 30).bind fun t133 => ((fix_series.f k t133 (([2959, (-213044), 8947849, (-178956971), 1073741824] : List Int))).bind fun t137 => ((fix_Mul.f k t132 t137 30).bind fun t138 => ((fix_Mul.f k t138 1 15).bind fun t139 => (some t139)))))))
def fix_Cos.f (k : Nat) (a0 : Int) : Option (Int) := if (Go.bits .and .i64 a0 65535) > 32768 then (fix_Cos.j0 k (wrap64 (65536 - (Go.bits .and .i64 a0 65535)))) else (fix_Cos.j0 k (Go.bits .and .i64 a0 65535))
set_option maxHeartbeats 8000000 in
set_option maxRecDepth 100000 in
theorem fix_Cos.calls (k : Nat) (a0 : Int) (r : Int) (w : World) (h : fix_Cos.f k a0 = some r) :
  Calls Try.prog 27 #[.int .i64 a0] w fun e w' => e = .returned (.int .i64 r) ∧ Below w.heap.size w w' := by
 have HB := Aside0.mk (Below.refl w.heap.size w)
 have H : (if (Go.bits .and .i64 a0 65535) > 32768 then (fix_Cos.j0 k (wrap64 (65536 - (Go.bits .and .i64 a0 65535)))) else (fix_Cos.j0 k (Go.bits .and .i64 a0 65535))) = some r := h
 clear h; have HC2 := Aside0.mk H; clear H
 go_enter Try.func27, Try.ntmps27
 go_upto_if 10 with (fail)
 go_cut [0] (fun v0 wc => ∃ (kq : Nat) (x0_1 : Int), v0 = .int .i64 x0_1 ∧ Aside0 (fix_Cos.j0 kq x0_1 = some r) ∧ Aside0 (kq ≤ k) ∧ Aside0 (Below w.heap.size w wc))
 case first =>
  have H := HC2.out; clear HC2
  by_cases c3 : (Go.bits .and .i64 a0 65535) > 32768
  ·
   rw [if_pos c3] at H; have c3b0 : decide (32768 < (Go.bits .and .i64 a0 65535)) = true := decide_eq_true c3; clear c3
   (first | rw [c3b0] | (simp only [i64_w, i32_w]; rw [c3b0]) | skip)
   have H' := Aside0.mk H; clear H
   go_wp2
   go_meet
   case rel => exact ⟨_, (wrap64 (65536 - (Go.bits .and .i64 a0 65535))), (by first | rfl | (simp; done) | (simp [*]; done)), H', ⟨by first | omega | exact Nat.le_refl _⟩, ⟨by repeat (with_reducible first | exact HB.out | apply below_alloc | apply pw_below_drewN | apply below_drew1)⟩⟩
  ·
   rw [if_neg c3] at H; have c3b0 : decide (32768 < (Go.bits .and .i64 a0 65535)) = false := decide_eq_false c3; clear c3
   (first | rw [c3b0] | (simp only [i64_w, i32_w]; rw [c3b0]) | skip)
   have H' := Aside0.mk H; clear H
   go_wp2
   go_meet
   case rel => exact ⟨_, (Go.bits .and .i64 a0 65535), (by first | rfl | (simp; done) | (simp [*]; done)), H', ⟨by first | omega | exact Nat.le_refl _⟩, ⟨by repeat (with_reducible first | exact HB.out | apply below_alloc | apply pw_below_drewN | apply below_drew1)⟩⟩
 case rest =>
  clear HC2; (try clear c2); (try clear p2); (try clear c3); (try clear c3b0); (try clear c3b0z0)
  obtain ⟨kq, x0_1, rfl, HA, HJ1, HB⟩ := hcut
  cases kq with
  | zero => exact absurd HA.out (by simp [fix_Cos.j0])
  | succ kj1 =>
   have H := HA.out; clear HA
   simp only [fix_Cos.j0] at H
   by_cases c4 : x0_1 > 16384
   ·
    rw [if_pos c4] at H; have c4b0 : decide (16384 < x0_1) = true := decide_eq_true c4; clear c4
    by_cases c5 : (wrap64 (32768 - x0_1)) ≤ 8192
    ·
     rw [if_pos c5] at H; have c5b0 : decide ((wrap64 (32768 - x0_1)) ≤ 8192) = true := decide_eq_true c5; clear c5; replace H := Option.bind_eq_some_iff.mp H; obtain ⟨t110, A60, H⟩ := H
     replace H : ((fix_Mul.f kj1 t110 t110 30).bind fun t111 => ((fix_series.f kj1 t111 (([(-296), 26631, (-1491308), 44739243, (-536870912), 1073741824] : List Int))).bind fun t115 => ((fix_Mul.f kj1 t115 1 15).bind fun t116 => (some (wrap64 (-t116)))))) = some r := H
     have A6 := Aside0.mk A60; clear A60; replace H := Option.bind_eq_some_iff.mp H; obtain ⟨t111, A70, H⟩ := H
     replace H : ((fix_series.f kj1 t111 (([(-296), 26631, (-1491308), 44739243, (-536870912), 1073741824] : List Int))).bind fun t115 => ((fix_Mul.f kj1 t115 1 15).bind fun t116 => (some (wrap64 (-t116))))) = some r := H
     have A7 := Aside0.mk A70; clear A70
     obtain ⟨y112, hy112⟩ : ∃ y_ : List Int, y_ = (([(-296), 26631, (-1491308), 44739243, (-536870912), 1073741824] : List Int)) := ⟨_, rfl⟩
     replace H : ((fix_series.f kj1 t111 y112).bind fun t115 => ((fix_Mul.f kj1 t115 1 15).bind fun t116 => (some (wrap64 (-t116))))) = some r := by first | (rw [hy112]; with_reducible exact H) | (have H2_ := (Option.bind_some _ _).symm.trans H; rw [hy112]; with_reducible exact H2_) | (have H2_ := (Option.bind_some _ _).symm.trans H; with_reducible exact H2_) | with_reducible exact H | (rw [hy112]; exact H) | exact H
     have Ny112 := Aside0.mk hy112; clear hy112; replace H := Option.bind_eq_some_iff.mp H; obtain ⟨t115, A80, H⟩ := H
     replace H : ((fix_Mul.f kj1 t115 1 15).bind fun t116 => (some (wrap64 (-t116)))) = some r := H
     have A8 := Aside0.mk A80; clear A80; replace H := Option.bind_eq_some_iff.mp H; obtain ⟨t116, A90, H⟩ := H
     replace H : (some (wrap64 (-t116))) = some r := H
     have A9 := Aside0.mk A90; clear A90
     obtain rfl := Option.some.inj H
     go_wp2_with (first | ((with_reducible refine gate_callee (f := 26) rfl ?_); refine goesL_ (some 21) rfl rfl Try.func26 (by kernel_rfl) rfl #[.int .i64 (wrap64 (32768 - x0_1)), .int .i64 1686629713, .int .i64 14] rfl (by (try simp only [List.map_toArray, List.map_cons, List.map_nil]); first | done | rfl | (simp only [List.length_drop, List.length_take]; rfl)) ?_; (with_reducible refine (fix_Mul.calls kj1 (wrap64 (32768 - x0_1)) 1686629713 14 t110 _ A6.out).mono ?_); rintro e w' ⟨rfl, ⟨nd, rfl⟩⟩; refine ⟨_, rfl, ?_⟩) | ((with_reducible refine gate_callee (f := 26) rfl ?_); refine goesL_ (some 24) rfl rfl Try.func26 (by kernel_rfl) rfl #[.int .i64 t110, .int .i64 t110, .int .i64 30] rfl (by (try simp only [List.map_toArray, List.map_cons, List.map_nil]); first | done | rfl | (simp only [List.length_drop, List.length_take]; rfl)) ?_; (with_reducible refine (fix_Mul.calls kj1 t110 t110 30 t111 _ A7.out).mono ?_); rintro e w' ⟨rfl, ⟨nd, rfl⟩⟩; refine ⟨_, rfl, ?_⟩) | ((with_reducible refine gate_dst (N := 25) rfl ?_); refine Kd.R_lit (Kd.int .i64) _ 2 ?hg (N := 25) ?hd (xs := ([(-296), 26631, (-1491308), 44739243, (-536870912), 1073741824] : List Int)) (inner := [.int .i64 (-296), .int .i64 26631, .int .i64 (-1491308), .int .i64 44739243, .int .i64 (-536870912), .int .i64 1073741824]) (ok := fun _ => True) (okp := fun _ => True) ?hr ?hp (fun _ hk => hk) trivial (Below.refl _ _) (Nat.le_refl _) (by simp) ?_; (case hd => rfl); (case hg => rfl); (case hr => first | (go_simp; done) | (go_simp; rfl)); (case hp => exact (Reps.one (show Kd.M (Kd.int .i64) _ _ _ (-296) [.int .i64 (-296)] from rfl) (Reps.one (show Kd.M (Kd.int .i64) _ _ _ 26631 [.int .i64 26631] from rfl) (Reps.one (show Kd.M (Kd.int .i64) _ _ _ (-1491308) [.int .i64 (-1491308)] from rfl) (Reps.one (show Kd.M (Kd.int .i64) _ _ _ 44739243 [.int .i64 44739243] from rfl) (Reps.one (show Kd.M (Kd.int .i64) _ _ _ (-536870912) [.int .i64 (-536870912)] from rfl) (Reps.one (show Kd.M (Kd.int .i64) _ _ _ 1073741824 [.int .i64 1073741824] from rfl) (Reps.none _ _)))))))); intro v113 w10 ho11 hb hg_ hnew_; clear hg_ hnew_; (first | rw [← Ny112.out] at ho11 | (simp only [Int.reduceToNat] at ho11; rw [← Ny112.out] at ho11)); have n0_ := Aside0.mk (Kd.R_lower ho11 (below_size (by repeat (with_reducible first | exact HB.out | apply below_alloc | apply pw_below_drewN | apply below_drew1)))); have n1_ := Aside0.mk (below_step (by repeat (with_reducible first | exact HB.out | apply below_alloc | apply pw_below_drewN | apply below_drew1)) hb); clear HB; have HO114 := n0_; have HB := n1_; clear n0_ n1_; clear hb ho11; obtain ⟨Ao12, co12, eo12⟩ := Kd.R_slice HO114.out; subst eo12) | ((with_reducible refine gate_callee (f := 37) rfl ?_); refine goesL_ (some 26) rfl rfl Try.func37 (by kernel_rfl) rfl #[.int .i64 t111, .slice Ao12 y112.length co12] rfl (by (try simp only [List.map_toArray, List.map_cons, List.map_nil]); first | done | rfl | (simp only [List.length_drop, List.length_take]; rfl)) ?_; (with_reducible refine (fix_series.calls kj1 t111 _ _ y112 t115 _ ?side1 ?side2 A8.out).mono ?_); (case side1 => repeat (first | exact (Kd.R_reads' HO114.out).2.2 | (with_reducible refine Kd.C_alloc ?_ _) | (with_reducible refine Kd.C_drewN ?_ _) | (with_reducible refine Kd.C_drew ?_))); (case side2 => exact (Kd.R_reads' HO114.out).2.1); rintro e w' ⟨rfl, ⟨nd, rfl⟩⟩; refine ⟨_, rfl, ?_⟩) | ((with_reducible refine gate_callee (f := 26) rfl ?_); refine goesL_ (some 38) rfl rfl Try.func26 (by kernel_rfl) rfl #[.int .i64 t115, .int .i64 1, .int .i64 15] rfl (by (try simp only [List.map_toArray, List.map_cons, List.map_nil]); first | done | rfl | (simp only [List.length_drop, List.length_take]; rfl)) ?_; (with_reducible refine (fix_Mul.calls kj1 t115 1 15 t116 _ A9.out).mono ?_); rintro e w' ⟨rfl, ⟨nd, rfl⟩⟩; refine ⟨_, rfl, ?_⟩))
     go_ret
     exact ⟨by first | rfl | (simp [errW_none, errW_some] <;> rfl) | (simp [*, errW_none, errW_some] <;> rfl), by repeat (with_reducible first | exact HB.out | apply below_alloc | apply pw_below_drewN | apply below_drew1)⟩
    ·
     rw [if_neg c5] at H; have c5b0 : decide ((wrap64 (32768 - x0_1)) ≤ 8192) = false := decide_eq_false c5; clear c5; replace H := Option.bind_eq_some_iff.mp H; obtain ⟨t117, A130, H⟩ := H
     replace H : ((fix_Mul.f kj1 t117 t117 30).bind fun t118 => ((fix_series.f kj1 t118 (([2959, (-213044), 8947849, (-178956971), 1073741824] : List Int))).bind fun t122 => ((fix_Mul.f kj1 t117 t122 30).bind fun t123 => ((fix_Mul.f kj1 t123 1 15).bind fun t124 => (some (wrap64 (-t124))))))) = some r := H
     have A13 := Aside0.mk A130; clear A130; replace H := Option.bind_eq_some_iff.mp H; obtain ⟨t118, A140, H⟩ := H
     replace H : ((fix_series.f kj1 t118 (([2959, (-213044), 8947849, (-178956971), 1073741824] : List Int))).bind fun t122 => ((fix_Mul.f kj1 t117 t122 30).bind fun t123 => ((fix_Mul.f kj1 t123 1 15).bind fun t124 => (some (wrap64 (-t124)))))) = some r := H
     have A14 := Aside0.mk A140; clear A140
     obtain ⟨y119, hy119⟩ : ∃ y_ : List Int, y_ = (([2959, (-213044), 8947849, (-178956971), 1073741824] : List Int)) := ⟨_, rfl⟩
     replace H : ((fix_series.f kj1 t118 y119).bind fun t122 => ((fix_Mul.f kj1 t117 t122 30).bind fun t123 => ((fix_Mul.f kj1 t123 1 15).bind fun t124 => (some (wrap64 (-t124)))))) = some r := by first | (rw [hy119]; with_reducible exact H) | (have H2_ := (Option.bind_some _ _).symm.trans H; rw [hy119]; with_reducible exact H2_) | (have H2_ := (Option.bind_some _ _).symm.trans H; with_reducible exact H2_) | with_reducible exact H | (rw [hy119]; exact H) | exact H
     have Ny119 := Aside0.mk hy119; clear hy119; replace H := Option.bind_eq_some_iff.mp H; obtain ⟨t122, A150, H⟩ := H
     replace H : ((fix_Mul.f kj1 t117 t122 30).bind fun t123 => ((fix_Mul.f kj1 t123 1 15).bind fun t124 => (some (wrap64 (-t124))))) = some r := H
     have A15 := Aside0.mk A150; clear A150; replace H := Option.bind_eq_some_iff.mp H; obtain ⟨t123, A160, H⟩ := H
     replace H : ((fix_Mul.f kj1 t123 1 15).bind fun t124 => (some (wrap64 (-t124)))) = some r := H
     have A16 := Aside0.mk A160; clear A160; replace H := Option.bind_eq_some_iff.mp H; obtain ⟨t124, A170, H⟩ := H
     replace H : (some (wrap64 (-t124))) = some r := H
     have A17 := Aside0.mk A170; clear A170
     obtain rfl := Option.some.inj H
     go_wp2_with (first | ((with_reducible refine gate_callee (f := 26) rfl ?_); refine goesL_ (some 29) rfl rfl Try.func26 (by kernel_rfl) rfl #[.int .i64 (wrap64 (16384 - (wrap64 (32768 - x0_1)))), .int .i64 1686629713, .int .i64 14] rfl (by (try simp only [List.map_toArray, List.map_cons, List.map_nil]); first | done | rfl | (simp only [List.length_drop, List.length_take]; rfl)) ?_; (with_reducible refine (fix_Mul.calls kj1 (wrap64 (16384 - (wrap64 (32768 - x0_1)))) 1686629713 14 t117 _ A13.out).mono ?_); rintro e w' ⟨rfl, ⟨nd, rfl⟩⟩; refine ⟨_, rfl, ?_⟩) | ((with_reducible refine gate_callee (f := 26) rfl ?_); refine goesL_ (some 33) rfl rfl Try.func26 (by kernel_rfl) rfl #[.int .i64 t117, .int .i64 t117, .int .i64 30] rfl (by (try simp only [List.map_toArray, List.map_cons, List.map_nil]); first | done | rfl | (simp only [List.length_drop, List.length_take]; rfl)) ?_; (with_reducible refine (fix_Mul.calls kj1 t117 t117 30 t118 _ A14.out).mono ?_); rintro e w' ⟨rfl, ⟨nd, rfl⟩⟩; refine ⟨_, rfl, ?_⟩) | ((with_reducible refine gate_dst (N := 34) rfl ?_); refine Kd.R_lit (Kd.int .i64) _ 2 ?hg (N := 34) ?hd (xs := ([2959, (-213044), 8947849, (-178956971), 1073741824] : List Int)) (inner := [.int .i64 2959, .int .i64 (-213044), .int .i64 8947849, .int .i64 (-178956971), .int .i64 1073741824]) (ok := fun _ => True) (okp := fun _ => True) ?hr ?hp (fun _ hk => hk) trivial (Below.refl _ _) (Nat.le_refl _) (by simp) ?_; (case hd => rfl); (case hg => rfl); (case hr => first | (go_simp; done) | (go_simp; rfl)); (case hp => exact (Reps.one (show Kd.M (Kd.int .i64) _ _ _ 2959 [.int .i64 2959] from rfl) (Reps.one (show Kd.M (Kd.int .i64) _ _ _ (-213044) [.int .i64 (-213044)] from rfl) (Reps.one (show Kd.M (Kd.int .i64) _ _ _ 8947849 [.int .i64 8947849] from rfl) (Reps.one (show Kd.M (Kd.int .i64) _ _ _ (-178956971) [.int .i64 (-178956971)] from rfl) (Reps.one (show Kd.M (Kd.int .i64) _ _ _ 1073741824 [.int .i64 1073741824] from rfl) (Reps.none _ _))))))); intro v120 w18 ho19 hb hg_ hnew_; clear hg_ hnew_; (first | rw [← Ny119.out] at ho19 | (simp only [Int.reduceToNat] at ho19; rw [← Ny119.out] at ho19)); have n0_ := Aside0.mk (Kd.R_lower ho19 (below_size (by repeat (with_reducible first | exact HB.out | apply below_alloc | apply pw_below_drewN | apply below_drew1)))); have n1_ := Aside0.mk (below_step (by repeat (with_reducible first | exact HB.out | apply below_alloc | apply pw_below_drewN | apply below_drew1)) hb); clear HB; have HO121 := n0_; have HB := n1_; clear n0_ n1_; clear hb ho19; obtain ⟨Ao20, co20, eo20⟩ := Kd.R_slice HO121.out; subst eo20) | ((with_reducible refine gate_callee (f := 37) rfl ?_); refine goesL_ (some 35) rfl rfl Try.func37 (by kernel_rfl) rfl #[.int .i64 t118, .slice Ao20 y119.length co20] rfl (by (try simp only [List.map_toArray, List.map_cons, List.map_nil]); first | done | rfl | (simp only [List.length_drop, List.length_take]; rfl)) ?_; (with_reducible refine (fix_series.calls kj1 t118 _ _ y119 t122 _ ?side1 ?side2 A15.out).mono ?_); (case side1 => repeat (first | exact (Kd.R_reads' HO121.out).2.2 | (with_reducible refine Kd.C_alloc ?_ _) | (with_reducible refine Kd.C_drewN ?_ _) | (with_reducible refine Kd.C_drew ?_))); (case side2 => exact (Kd.R_reads' HO121.out).2.1); rintro e w' ⟨rfl, ⟨nd, rfl⟩⟩; refine ⟨_, rfl, ?_⟩) | ((with_reducible refine gate_callee (f := 26) rfl ?_); refine goesL_ (some 36) rfl rfl Try.func26 (by kernel_rfl) rfl #[.int .i64 t117, .int .i64 t122, .int .i64 30] rfl (by (try simp only [List.map_toArray, List.map_cons, List.map_nil]); first | done | rfl | (simp only [List.length_drop, List.length_take]; rfl)) ?_; (with_reducible refine (fix_Mul.calls kj1 t117 t122 30 t123 _ A16.out).mono ?_); rintro e w' ⟨rfl, ⟨nd, rfl⟩⟩; refine ⟨_, rfl, ?_⟩) | ((with_reducible refine gate_callee (f := 26) rfl ?_); refine goesL_ (some 38) rfl rfl Try.func26 (by kernel_rfl) rfl #[.int .i64 t123, .int .i64 1, .int .i64 15] rfl (by (try simp only [List.map_toArray, List.map_cons, List.map_nil]); first | done | rfl | (simp only [List.length_drop, List.length_take]; rfl)) ?_; (with_reducible refine (fix_Mul.calls kj1 t123 1 15 t124 _ A17.out).mono ?_); rintro e w' ⟨rfl, ⟨nd, rfl⟩⟩; refine ⟨_, rfl, ?_⟩))
     go_ret
     exact ⟨by first | rfl | (simp [errW_none, errW_some] <;> rfl) | (simp [*, errW_none, errW_some] <;> rfl), by repeat (with_reducible first | exact HB.out | apply below_alloc | apply pw_below_drewN | apply below_drew1)⟩
   ·
    rw [if_neg c4] at H; have c4b0 : decide (16384 < x0_1) = false := decide_eq_false c4; clear c4
    by_cases c21 : x0_1 ≤ 8192
    ·
     rw [if_pos c21] at H; have c21b0 : decide (x0_1 ≤ 8192) = true := decide_eq_true c21; clear c21; replace H := Option.bind_eq_some_iff.mp H; obtain ⟨t125, A220, H⟩ := H
     replace H : ((fix_Mul.f kj1 t125 t125 30).bind fun t126 => ((fix_series.f kj1 t126 (([(-296), 26631, (-1491308), 44739243, (-536870912), 1073741824] : List Int))).bind fun t130 => ((fix_Mul.f kj1 t130 1 15).bind fun t131 => (some t131)))) = some r := H
     have A22 := Aside0.mk A220; clear A220; replace H := Option.bind_eq_some_iff.mp H; obtain ⟨t126, A230, H⟩ := H
     replace H : ((fix_series.f kj1 t126 (([(-296), 26631, (-1491308), 44739243, (-536870912), 1073741824] : List Int))).bind fun t130 => ((fix_Mul.f kj1 t130 1 15).bind fun t131 => (some t131))) = some r := H
     have A23 := Aside0.mk A230; clear A230
     obtain ⟨y127, hy127⟩ : ∃ y_ : List Int, y_ = (([(-296), 26631, (-1491308), 44739243, (-536870912), 1073741824] : List Int)) := ⟨_, rfl⟩
     replace H : ((fix_series.f kj1 t126 y127).bind fun t130 => ((fix_Mul.f kj1 t130 1 15).bind fun t131 => (some t131))) = some r := by first | (rw [hy127]; with_reducible exact H) | (have H2_ := (Option.bind_some _ _).symm.trans H; rw [hy127]; with_reducible exact H2_) | (have H2_ := (Option.bind_some _ _).symm.trans H; with_reducible exact H2_) | with_reducible exact H | (rw [hy127]; exact H) | exact H
     have Ny127 := Aside0.mk hy127; clear hy127; replace H := Option.bind_eq_some_iff.mp H; obtain ⟨t130, A240, H⟩ := H
     replace H : ((fix_Mul.f kj1 t130 1 15).bind fun t131 => (some t131)) = some r := H
     have A24 := Aside0.mk A240; clear A240; replace H := Option.bind_eq_some_iff.mp H; obtain ⟨t131, A250, H⟩ := H
     replace H : (some t131) = some r := H
     have A25 := Aside0.mk A250; clear A250
     obtain rfl := Option.some.inj H
     go_wp2_with (first | ((with_reducible refine gate_callee (f := 26) rfl ?_); refine goesL_ (some 21) rfl rfl Try.func26 (by kernel_rfl) rfl #[.int .i64 x0_1, .int .i64 1686629713, .int .i64 14] rfl (by (try simp only [List.map_toArray, List.map_cons, List.map_nil]); first | done | rfl | (simp only [List.length_drop, List.length_take]; rfl)) ?_; (with_reducible refine (fix_Mul.calls kj1 x0_1 1686629713 14 t125 _ A22.out).mono ?_); rintro e w' ⟨rfl, ⟨nd, rfl⟩⟩; refine ⟨_, rfl, ?_⟩) | ((with_reducible refine gate_callee (f := 26) rfl ?_); refine goesL_ (some 24) rfl rfl Try.func26 (by kernel_rfl) rfl #[.int .i64 t125, .int .i64 t125, .int .i64 30] rfl (by (try simp only [List.map_toArray, List.map_cons, List.map_nil]); first | done | rfl | (simp only [List.length_drop, List.length_take]; rfl)) ?_; (with_reducible refine (fix_Mul.calls kj1 t125 t125 30 t126 _ A23.out).mono ?_); rintro e w' ⟨rfl, ⟨nd, rfl⟩⟩; refine ⟨_, rfl, ?_⟩) | ((with_reducible refine gate_dst (N := 25) rfl ?_); refine Kd.R_lit (Kd.int .i64) _ 2 ?hg (N := 25) ?hd (xs := ([(-296), 26631, (-1491308), 44739243, (-536870912), 1073741824] : List Int)) (inner := [.int .i64 (-296), .int .i64 26631, .int .i64 (-1491308), .int .i64 44739243, .int .i64 (-536870912), .int .i64 1073741824]) (ok := fun _ => True) (okp := fun _ => True) ?hr ?hp (fun _ hk => hk) trivial (Below.refl _ _) (Nat.le_refl _) (by simp) ?_; (case hd => rfl); (case hg => rfl); (case hr => first | (go_simp; done) | (go_simp; rfl)); (case hp => exact (Reps.one (show Kd.M (Kd.int .i64) _ _ _ (-296) [.int .i64 (-296)] from rfl) (Reps.one (show Kd.M (Kd.int .i64) _ _ _ 26631 [.int .i64 26631] from rfl) (Reps.one (show Kd.M (Kd.int .i64) _ _ _ (-1491308) [.int .i64 (-1491308)] from rfl) (Reps.one (show Kd.M (Kd.int .i64) _ _ _ 44739243 [.int .i64 44739243] from rfl) (Reps.one (show Kd.M (Kd.int .i64) _ _ _ (-536870912) [.int .i64 (-536870912)] from rfl) (Reps.one (show Kd.M (Kd.int .i64) _ _ _ 1073741824 [.int .i64 1073741824] from rfl) (Reps.none _ _)))))))); intro v128 w26 ho27 hb hg_ hnew_; clear hg_ hnew_; (first | rw [← Ny127.out] at ho27 | (simp only [Int.reduceToNat] at ho27; rw [← Ny127.out] at ho27)); have n0_ := Aside0.mk (Kd.R_lower ho27 (below_size (by repeat (with_reducible first | exact HB.out | apply below_alloc | apply pw_below_drewN | apply below_drew1)))); have n1_ := Aside0.mk (below_step (by repeat (with_reducible first | exact HB.out | apply below_alloc | apply pw_below_drewN | apply below_drew1)) hb); clear HB; have HO129 := n0_; have HB := n1_; clear n0_ n1_; clear hb ho27; obtain ⟨Ao28, co28, eo28⟩ := Kd.R_slice HO129.out; subst eo28) | ((with_reducible refine gate_callee (f := 37) rfl ?_); refine goesL_ (some 26) rfl rfl Try.func37 (by kernel_rfl) rfl #[.int .i64 t126, .slice Ao28 y127.length co28] rfl (by (try simp only [List.map_toArray, List.map_cons, List.map_nil]); first | done | rfl | (simp only [List.length_drop, List.length_take]; rfl)) ?_; (with_reducible refine (fix_series.calls kj1 t126 _ _ y127 t130 _ ?side1 ?side2 A24.out).mono ?_); (case side1 => repeat (first | exact (Kd.R_reads' HO129.out).2.2 | (with_reducible refine Kd.C_alloc ?_ _) | (with_reducible refine Kd.C_drewN ?_ _) | (with_reducible refine Kd.C_drew ?_))); (case side2 => exact (Kd.R_reads' HO129.out).2.1); rintro e w' ⟨rfl, ⟨nd, rfl⟩⟩; refine ⟨_, rfl, ?_⟩) | ((with_reducible refine gate_callee (f := 26) rfl ?_); refine goesL_ (some 38) rfl rfl Try.func26 (by kernel_rfl) rfl #[.int .i64 t130, .int .i64 1, .int .i64 15] rfl (by (try simp only [List.map_toArray, List.map_cons, List.map_nil]); first | done | rfl | (simp only [List.length_drop, List.length_take]; rfl)) ?_; (with_reducible refine (fix_Mul.calls kj1 t130 1 15 t131 _ A25.out).mono ?_); rintro e w' ⟨rfl, ⟨nd, rfl⟩⟩; refine ⟨_, rfl, ?_⟩))
     go_ret
     exact ⟨by first | rfl | (simp [errW_none, errW_some] <;> rfl) | (simp [*, errW_none, errW_some] <;> rfl), by repeat (with_reducible first | exact HB.out | apply below_alloc | apply pw_below_drewN | apply below_drew1)⟩
    ·
     rw [if_neg c21] at H; have c21b0 : decide (x0_1 ≤ 8192) = false := decide_eq_false c21; clear c21; replace H := Option.bind_eq_some_iff.mp H; obtain ⟨t132, A290, H⟩ := H
     replace H : ((fix_Mul.f kj1 t132 t132 30).bind fun t133 => ((fix_series.f kj1 t133 (([2959, (-213044), 8947849, (-178956971), 1073741824] : List Int))).bind fun t137 => ((fix_Mul.f kj1 t132 t137 30).bind fun t138 => ((fix_Mul.f kj1 t138 1 15).bind fun t139 => (some t139))))) = some r := H
     have A29 := Aside0.mk A290; clear A290; replace H := Option.bind_eq_some_iff.mp H; obtain ⟨t133, A300, H⟩ := H
     replace H : ((fix_series.f kj1 t133 (([2959, (-213044), 8947849, (-178956971), 1073741824] : List Int))).bind fun t137 => ((fix_Mul.f kj1 t132 t137 30).bind fun t138 => ((fix_Mul.f kj1 t138 1 15).bind fun t139 => (some t139)))) = some r := H
     have A30 := Aside0.mk A300; clear A300
     obtain ⟨y134, hy134⟩ : ∃ y_ : List Int, y_ = (([2959, (-213044), 8947849, (-178956971), 1073741824] : List Int)) := ⟨_, rfl⟩
     replace H : ((fix_series.f kj1 t133 y134).bind fun t137 => ((fix_Mul.f kj1 t132 t137 30).bind fun t138 => ((fix_Mul.f kj1 t138 1 15).bind fun t139 => (some t139)))) = some r := by first | (rw [hy134]; with_reducible exact H) | (have H2_ := (Option.bind_some _ _).symm.trans H; rw [hy134]; with_reducible exact H2_) | (have H2_ := (Option.bind_some _ _).symm.trans H; with_reducible exact H2_) | with_reducible exact H | (rw [hy134]; exact H) | exact H
     have Ny134 := Aside0.mk hy134; clear hy134; replace H := Option.bind_eq_some_iff.mp H; obtain ⟨t137, A310, H⟩ := H
     replace H : ((fix_Mul.f kj1 t132 t137 30).bind fun t138 => ((fix_Mul.f kj1 t138 1 15).bind fun t139 => (some t139))) = some r := H
     have A31 := Aside0.mk A310; clear A310; replace H := Option.bind_eq_some_iff.mp H; obtain ⟨t138, A320, H⟩ := H
     replace H : ((fix_Mul.f kj1 t138 1 15).bind fun t139 => (some t139)) = some r := H
     have A32 := Aside0.mk A320; clear A320; replace H := Option.bind_eq_some_iff.mp H; obtain ⟨t139, A330, H⟩ := H
     replace H : (some t139) = some r := H
     have A33 := Aside0.mk A330; clear A330
     obtain rfl := Option.some.inj H
     go_wp2_with (first | ((with_reducible refine gate_callee (f := 26) rfl ?_); refine goesL_ (some 29) rfl rfl Try.func26 (by kernel_rfl) rfl #[.int .i64 (wrap64 (16384 - x0_1)), .int .i64 1686629713, .int .i64 14] rfl (by (try simp only [List.map_toArray, List.map_cons, List.map_nil]); first | done | rfl | (simp only [List.length_drop, List.length_take]; rfl)) ?_; (with_reducible refine (fix_Mul.calls kj1 (wrap64 (16384 - x0_1)) 1686629713 14 t132 _ A29.out).mono ?_); rintro e w' ⟨rfl, ⟨nd, rfl⟩⟩; refine ⟨_, rfl, ?_⟩) | ((with_reducible refine gate_callee (f := 26) rfl ?_); refine goesL_ (some 33) rfl rfl Try.func26 (by kernel_rfl) rfl #[.int .i64 t132, .int .i64 t132, .int .i64 30] rfl (by (try simp only [List.map_toArray, List.map_cons, List.map_nil]); first | done | rfl | (simp only [List.length_drop, List.length_take]; rfl)) ?_; (with_reducible refine (fix_Mul.calls kj1 t132 t132 30 t133 _ A30.out).mono ?_); rintro e w' ⟨rfl, ⟨nd, rfl⟩⟩; refine ⟨_, rfl, ?_⟩) | ((with_reducible refine gate_dst (N := 34) rfl ?_); refine Kd.R_lit (Kd.int .i64) _ 2 ?hg (N := 34) ?hd (xs := ([2959, (-213044), 8947849, (-178956971), 1073741824] : List Int)) (inner := [.int .i64 2959, .int .i64 (-213044), .int .i64 8947849, .int .i64 (-178956971), .int .i64 1073741824]) (ok := fun _ => True) (okp := fun _ => True) ?hr ?hp (fun _ hk => hk) trivial (Below.refl _ _) (Nat.le_refl _) (by simp) ?_; (case hd => rfl); (case hg => rfl); (case hr => first | (go_simp; done) | (go_simp; rfl)); (case hp => exact (Reps.one (show Kd.M (Kd.int .i64) _ _ _ 2959 [.int .i64 2959] from rfl) (Reps.one (show Kd.M (Kd.int .i64) _ _ _ (-213044) [.int .i64 (-213044)] from rfl) (Reps.one (show Kd.M (Kd.int .i64) _ _ _ 8947849 [.int .i64 8947849] from rfl) (Reps.one (show Kd.M (Kd.int .i64) _ _ _ (-178956971) [.int .i64 (-178956971)] from rfl) (Reps.one (show Kd.M (Kd.int .i64) _ _ _ 1073741824 [.int .i64 1073741824] from rfl) (Reps.none _ _))))))); intro v135 w34 ho35 hb hg_ hnew_; clear hg_ hnew_; (first | rw [← Ny134.out] at ho35 | (simp only [Int.reduceToNat] at ho35; rw [← Ny134.out] at ho35)); have n0_ := Aside0.mk (Kd.R_lower ho35 (below_size (by repeat (with_reducible first | exact HB.out | apply below_alloc | apply pw_below_drewN | apply below_drew1)))); have n1_ := Aside0.mk (below_step (by repeat (with_reducible first | exact HB.out | apply below_alloc | apply pw_below_drewN | apply below_drew1)) hb); clear HB; have HO136 := n0_; have HB := n1_; clear n0_ n1_; clear hb ho35; obtain ⟨Ao36, co36, eo36⟩ := Kd.R_slice HO136.out; subst eo36) | ((with_reducible refine gate_callee (f := 37) rfl ?_); refine goesL_ (some 35) rfl rfl Try.func37 (by kernel_rfl) rfl #[.int .i64 t133, .slice Ao36 y134.length co36] rfl (by (try simp only [List.map_toArray, List.map_cons, List.map_nil]); first | done | rfl | (simp only [List.length_drop, List.length_take]; rfl)) ?_; (with_reducible refine (fix_series.calls kj1 t133 _ _ y134 t137 _ ?side1 ?side2 A31.out).mono ?_); (case side1 => repeat (first | exact (Kd.R_reads' HO136.out).2.2 | (with_reducible refine Kd.C_alloc ?_ _) | (with_reducible refine Kd.C_drewN ?_ _) | (with_reducible refine Kd.C_drew ?_))); (case side2 => exact (Kd.R_reads' HO136.out).2.1); rintro e w' ⟨rfl, ⟨nd, rfl⟩⟩; refine ⟨_, rfl, ?_⟩) | ((with_reducible refine gate_callee (f := 26) rfl ?_); refine goesL_ (some 36) rfl rfl Try.func26 (by kernel_rfl) rfl #[.int .i64 t132, .int .i64 t137, .int .i64 30] rfl (by (try simp only [List.map_toArray, List.map_cons, List.map_nil]); first | done | rfl | (simp only [List.length_drop, List.length_take]; rfl)) ?_; (with_reducible refine (fix_Mul.calls kj1 t132 t137 30 t138 _ A32.out).mono ?_); rintro e w' ⟨rfl, ⟨nd, rfl⟩⟩; refine ⟨_, rfl, ?_⟩) | ((with_reducible refine gate_callee (f := 26) rfl ?_); refine goesL_ (some 38) rfl rfl Try.func26 (by kernel_rfl) rfl #[.int .i64 t138, .int .i64 1, .int .i64 15] rfl (by (try simp only [List.map_toArray, List.map_cons, List.map_nil]); first | done | rfl | (simp only [List.length_drop, List.length_take]; rfl)) ?_; (with_reducible refine (fix_Mul.calls kj1 t138 1 15 t139 _ A33.out).mono ?_); rintro e w' ⟨rfl, ⟨nd, rfl⟩⟩; refine ⟨_, rfl, ?_⟩))
     go_ret
     exact ⟨by first | rfl | (simp [errW_none, errW_some] <;> rfl) | (simp [*, errW_none, errW_some] <;> rfl), by repeat (with_reducible first | exact HB.out | apply below_alloc | apply pw_below_drewN | apply below_drew1)⟩

/-! ### fix_Sin: function 25 -/
def fix_Sin.f (k : Nat) (a0 : Int) : Option (Int) := (fix_Cos.f k (wrap64 ((Go.bits .and .i64 a0 65535) - 16384))).bind fun t140 => (some t140)
set_option maxHeartbeats 8000000 in
set_option maxRecDepth 100000 in
theorem fix_Sin.calls (k : Nat) (a0 : Int) (r : Int) (w : World) (h : fix_Sin.f k a0 = some r) :
  Calls Try.prog 25 #[.int .i64 a0] w fun e w' => e = .returned (.int .i64 r) ∧ Below w.heap.size w w' := by
 have HB := Aside0.mk (Below.refl w.heap.size w)
 have H : ((fix_Cos.f k (wrap64 ((Go.bits .and .i64 a0 65535) - 16384))).bind fun t140 => (some t140)) = some r := h
 clear h; replace H := Option.bind_eq_some_iff.mp H; obtain ⟨t140, A20, H⟩ := H
 replace H : (some t140) = some r := H
 have A2 := Aside0.mk A20; clear A20
 obtain rfl := Option.some.inj H
 go_enter Try.func25, Try.ntmps25
 go_wp2_with (first | ((with_reducible refine gate_callee (f := 27) rfl ?_); refine goesL_ (some 6) rfl rfl Try.func27 (by kernel_rfl) rfl #[.int .i64 (wrap64 ((Go.bits .and .i64 a0 65535) - 16384))] rfl (by (try simp only [List.map_toArray, List.map_cons, List.map_nil]); first | done | rfl | (simp only [List.length_drop, List.length_take]; rfl)) ?_; (with_reducible refine (fix_Cos.calls k (wrap64 ((Go.bits .and .i64 a0 65535) - 16384)) t140 _ A2.out).mono ?_); rintro e w3 ⟨rfl, hb⟩; refine ⟨_, rfl, ?_⟩; have n0_ := Aside0.mk (below_step (by repeat (with_reducible first | exact HB.out | apply below_alloc | apply pw_below_drewN | apply below_drew1)) hb); clear HB; have HB := n0_; clear n0_; (try clear hb); (try clear hb2); (try clear hk); (try clear hi)))
 go_ret
 exact ⟨by first | rfl | (simp [errW_none, errW_some] <;> rfl) | (simp [*, errW_none, errW_some] <;> rfl), by repeat (with_reducible first | exact HB.out | apply below_alloc | apply pw_below_drewN | apply below_drew1)⟩

end Go.Proofs.Ytocnpnpedmapbaa.MA
