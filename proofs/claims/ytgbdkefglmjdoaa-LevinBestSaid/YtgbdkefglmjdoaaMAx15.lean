/- Functions of the program as plain Lean functions, and that the code comes to their answers. No condition. -/
import Derived.Test.YtgbdkefglmjdoaaMAx0
import Derived.Test.YtgbdkefglmjdoaaMAx13
namespace Go.Proofs.Ytgbdkefglmjdoaa.MA
open Go.RowKit Go.Proofs.YtgbdkefglmjdoaaW.PrintWords Go.Proofs.YtgbdkefglmjdoaaW.PrintLast Go.Proofs.YtgbdkefglmjdoaaW.PrintMore
attribute [local go_sem] max2_int min2_int max_two min_two max_three min_three max_four min_four
set_option linter.unusedVariables false
set_option linter.unusedSimpArgs false

/-! ### madrigalref1_Down: function 33 -/
def madrigalref1_Down.f (a0 : Int) (a1 : Int) : Option (Int) := if a1 = 0 then (none) else (if (Int.tmod a0 a1) < 0 then (some (wrap64 ((wrap64 (Int.tdiv a0 a1)) - 1))) else (some (wrap64 (Int.tdiv a0 a1))))
set_option maxHeartbeats 8000000 in
set_option maxRecDepth 100000 in
theorem madrigalref1_Down.calls (a0 : Int) (a1 : Int) (r : Int) (w : World) (h : madrigalref1_Down.f a0 a1 = some r) :
  Calls Try.prog 33 #[.int .i64 a0, .int .i64 a1] w fun e w' => e = .returned (.int .i64 r) ∧ Drawn0 w w' := by
 have H : (if a1 = 0 then (none) else (if (Int.tmod a0 a1) < 0 then (some (wrap64 ((wrap64 (Int.tdiv a0 a1)) - 1))) else (some (wrap64 (Int.tdiv a0 a1))))) = some r := h
 clear h
 by_cases c3 : a1 = 0
 ·
  rw [if_pos c3] at H; exact absurd H (by simp)
 ·
  rw [if_neg c3] at H; have c3b0 : (a1 == 0) = false := beq_eq_false_iff_ne.mpr c3; have c3b1 : (a1 != 0) = true := bne_iff_ne.mpr c3
  by_cases c4 : (Int.tmod a0 a1) < 0
  ·
   rw [if_pos c4] at H; have c4b0 : decide ((Int.tmod a0 a1) < 0) = true := decide_eq_true c4; clear c4
   obtain rfl := Option.some.inj H
   go_enter Try.func33, Try.ntmps33
   go_wp2
   go_ret
   exact ⟨by first | rfl | (simp; done) | (simp [*]; done), by repeat (first | exact Drawn0.refl _ | apply Drawn0.step)⟩
  ·
   rw [if_neg c4] at H; have c4b0 : decide ((Int.tmod a0 a1) < 0) = false := decide_eq_false c4; clear c4
   obtain rfl := Option.some.inj H
   go_enter Try.func33, Try.ntmps33
   go_wp2
   go_ret
   exact ⟨by first | rfl | (simp; done) | (simp [*]; done), by repeat (first | exact Drawn0.refl _ | apply Drawn0.step)⟩

/-! ### madrigalref1_Mul: function 34 -/
def madrigalref1_Mul.j0 : Nat → Int → Int → Bool → Option (Int)
 | 0, _, _, _ => none
 | k + 1, x2, x7, x21 => if x21 = true then (some 0) else (if x2 = 0 then (some x7) else (if 0 ≤ (IntKind.u64.wrap (wrap64 (x2 - 1))) then (if 0 ≤ (IntKind.u64.wrap (x2)) then (if (wrap64 (x7 - (shl .i64 (shr .i64 x7 (IntKind.u64.wrap (x2))) (IntKind.u64.wrap (x2))))) ≥ (shl .i64 1 (IntKind.u64.wrap (wrap64 (x2 - 1)))) then (some (wrap64 ((shr .i64 x7 (IntKind.u64.wrap (x2))) + 1))) else (some (shr .i64 x7 (IntKind.u64.wrap (x2))))) else (none)) else (none)))
def madrigalref1_Mul.f (k : Nat) (a0 : Int) (a1 : Int) (a2 : Int) : Option (Int) := (madrigalref1_Clamp.f k a0 (-2147483648) 2147483648).bind fun t449 => ((madrigalref1_Clamp.f k a1 (-2147483648) 2147483648).bind fun t450 => (if a2 < 0 then (madrigalref1_Mul.j0 k a2 (wrap64 (t449 * t450)) true) else (madrigalref1_Mul.j0 k a2 (wrap64 (t449 * t450)) (decide (a2 > 62)))))
set_option maxHeartbeats 8000000 in
set_option maxRecDepth 100000 in
theorem madrigalref1_Mul.calls (k : Nat) (a0 : Int) (a1 : Int) (a2 : Int) (r : Int) (w : World) (h : madrigalref1_Mul.f k a0 a1 a2 = some r) :
  Calls Try.prog 34 #[.int .i64 a0, .int .i64 a1, .int .i64 a2] w fun e w' => e = .returned (.int .i64 r) ∧ Drawn0 w w' := by
 have H : ((madrigalref1_Clamp.f k a0 (-2147483648) 2147483648).bind fun t449 => ((madrigalref1_Clamp.f k a1 (-2147483648) 2147483648).bind fun t450 => (if a2 < 0 then (madrigalref1_Mul.j0 k a2 (wrap64 (t449 * t450)) true) else (madrigalref1_Mul.j0 k a2 (wrap64 (t449 * t450)) (decide (a2 > 62)))))) = some r := h
 clear h; replace H := Option.bind_eq_some_iff.mp H; obtain ⟨t449, A40, H⟩ := H
 replace H : ((madrigalref1_Clamp.f k a1 (-2147483648) 2147483648).bind fun t450 => (if a2 < 0 then (madrigalref1_Mul.j0 k a2 (wrap64 (t449 * t450)) true) else (madrigalref1_Mul.j0 k a2 (wrap64 (t449 * t450)) (decide (a2 > 62))))) = some r := H
 have A4 := Aside0.mk A40; clear A40; replace H := Option.bind_eq_some_iff.mp H; obtain ⟨t450, A50, H⟩ := H
 replace H : (if a2 < 0 then (madrigalref1_Mul.j0 k a2 (wrap64 (t449 * t450)) true) else (madrigalref1_Mul.j0 k a2 (wrap64 (t449 * t450)) (decide (a2 > 62)))) = some r := H
 have A5 := Aside0.mk A50; clear A50; have HC6 := Aside0.mk H; clear H
 go_enter Try.func34, Try.ntmps34
 go_upto_region 2 with (first | ((with_reducible refine gate_callee (f := 32) rfl ?_); refine goesL_ (some 12) rfl rfl Try.func32 (by kernel_rfl) rfl #[.int .i64 a0, .int .i64 (-2147483648), .int .i64 2147483648] rfl (by (try simp only [List.map_toArray, List.map_cons, List.map_nil]); first | done | rfl | (simp only [List.length_drop, List.length_take]; rfl)) ?_; (with_reducible refine (madrigalref1_Clamp.calls k a0 (-2147483648) 2147483648 t449 _ A4.out).mono ?_); rintro e w' ⟨rfl, ⟨nd, rfl⟩⟩; refine ⟨_, rfl, ?_⟩) | ((with_reducible refine gate_callee (f := 32) rfl ?_); refine goesL_ (some 14) rfl rfl Try.func32 (by kernel_rfl) rfl #[.int .i64 a1, .int .i64 (-2147483648), .int .i64 2147483648] rfl (by (try simp only [List.map_toArray, List.map_cons, List.map_nil]); first | done | rfl | (simp only [List.length_drop, List.length_take]; rfl)) ?_; (with_reducible refine (madrigalref1_Clamp.calls k a1 (-2147483648) 2147483648 t450 _ A5.out).mono ?_); rintro e w' ⟨rfl, ⟨nd, rfl⟩⟩; refine ⟨_, rfl, ?_⟩))
 (try simp only [Act.put, List.setIfInBounds_toArray, List.set_cons_zero, List.set_cons_succ])
 go_cut [21] (fun v21 wc => ∃ (kq : Nat) (x21_5 : Bool), v21 = .bool x21_5 ∧ Aside0 (madrigalref1_Mul.j0 kq a2 (wrap64 (t449 * t450)) x21_5 = some r) ∧ Aside0 (kq ≤ k) ∧ Drawn0 w wc)
 case first =>
  have H := HC6.out; clear HC6
  by_cases c7 : a2 < 0
  ·
   rw [if_pos c7] at H; have c7b0 : decide (a2 < 0) = true := decide_eq_true c7; clear c7
   (first | rw [c7b0] | (simp only [i64_w, i32_w]; rw [c7b0]) | skip)
   have H' := Aside0.mk H; clear H
   go_wp2
   go_meet
   case rel => exact ⟨_, (true), (by first | rfl | (simp; done) | (simp [*]; done)), H', ⟨by first | omega | exact Nat.le_refl _⟩, by repeat (first | exact Drawn0.refl _ | apply Drawn0.step)⟩
  ·
   rw [if_neg c7] at H; have c7b0 : decide (a2 < 0) = false := decide_eq_false c7; clear c7
   (first | rw [c7b0] | (simp only [i64_w, i32_w]; rw [c7b0]) | skip)
   have H' := Aside0.mk H; clear H
   go_wp2
   go_meet
   case rel => exact ⟨_, (decide (a2 > 62)), (by first | rfl | (simp; done) | (simp [*]; done)), H', ⟨by first | omega | exact Nat.le_refl _⟩, by repeat (first | exact Drawn0.refl _ | apply Drawn0.step)⟩
 case rest =>
  clear HC6; (try clear p2); (try clear c3); (try clear p6); (try clear c7); (try clear c7b0); (try clear c7b0z0)
  obtain ⟨kq, x21_5, rfl, HA, HJ5, ⟨mc5, rfl⟩⟩ := hcut
  cases kq with
  | zero => exact absurd HA.out (by simp [madrigalref1_Mul.j0])
  | succ kj5 =>
   have H := HA.out; clear HA
   simp only [madrigalref1_Mul.j0] at H
   by_cases c8 : x21_5 = true
   ·
    subst c8
    have H1 : (some 0) = some r := by rw [if_pos rfl] at H; exact H
    clear H; have H := H1; clear H1
    obtain rfl := Option.some.inj H
    go_wp2
    go_ret
    exact ⟨by first | rfl | (simp; done) | (simp [*]; done), by repeat (first | exact Drawn0.refl _ | apply Drawn0.step)⟩
   ·
    replace c8 := Bool.eq_false_iff.mpr c8
    subst c8
    have H1 : (if a2 = 0 then (some (wrap64 (t449 * t450))) else (if 0 ≤ (IntKind.u64.wrap (wrap64 (a2 - 1))) then (if 0 ≤ (IntKind.u64.wrap (a2)) then (if (wrap64 ((wrap64 (t449 * t450)) - (shl .i64 (shr .i64 (wrap64 (t449 * t450)) (IntKind.u64.wrap (a2))) (IntKind.u64.wrap (a2))))) ≥ (shl .i64 1 (IntKind.u64.wrap (wrap64 (a2 - 1)))) then (some (wrap64 ((shr .i64 (wrap64 (t449 * t450)) (IntKind.u64.wrap (a2))) + 1))) else (some (shr .i64 (wrap64 (t449 * t450)) (IntKind.u64.wrap (a2))))) else (none)) else (none))) = some r := by rw [if_neg (show ¬ (false = true) by decide)] at H; exact H
    clear H; have H := H1; clear H1
    by_cases c9 : a2 = 0
    ·
     rw [if_pos c9] at H; have c9b0 : (a2 == 0) = true := beq_iff_eq.mpr c9; have c9b1 : (a2 != 0) = false := bne_eq_false_iff_eq.mpr c9; clear c9
     obtain rfl := Option.some.inj H
     go_wp2
     go_ret
     exact ⟨by first | rfl | (simp; done) | (simp [*]; done), by repeat (first | exact Drawn0.refl _ | apply Drawn0.step)⟩
    ·
     rw [if_neg c9] at H; have c9b0 : (a2 == 0) = false := beq_eq_false_iff_ne.mpr c9; have c9b1 : (a2 != 0) = true := bne_iff_ne.mpr c9
     obtain ⟨ji10, hji10⟩ : ∃ j_ : Int, (IntKind.u64.wrap (wrap64 (a2 - 1))) = j_ := ⟨_, rfl⟩
     replace H : (if 0 ≤ (ji10) then (if 0 ≤ (IntKind.u64.wrap (a2)) then (if (wrap64 ((wrap64 (t449 * t450)) - (shl .i64 (shr .i64 (wrap64 (t449 * t450)) (IntKind.u64.wrap (a2))) (IntKind.u64.wrap (a2))))) ≥ (shl .i64 1 (ji10)) then (some (wrap64 ((shr .i64 (wrap64 (t449 * t450)) (IntKind.u64.wrap (a2))) + 1))) else (some (shr .i64 (wrap64 (t449 * t450)) (IntKind.u64.wrap (a2))))) else (none)) else (none)) = some r := by first | (rw [hji10] at H; exact H) | (simp only [hji10] at H ⊢; exact H)
     by_cases c11 : 0 ≤ (ji10); rotate_left
     · rw [if_neg c11] at H; exact absurd H (by simp)
     rw [if_pos c11] at H; have c11b0 := eq_true c11; have c11b1 : decide (0 ≤ (ji10)) = true := decide_eq_true c11; clear c11
     obtain ⟨ji12, hji12⟩ : ∃ j_ : Int, (shl .i64 1 (ji10)) = j_ := ⟨_, rfl⟩
     replace H : (if 0 ≤ (IntKind.u64.wrap (a2)) then (if (wrap64 ((wrap64 (t449 * t450)) - (shl .i64 (shr .i64 (wrap64 (t449 * t450)) (IntKind.u64.wrap (a2))) (IntKind.u64.wrap (a2))))) ≥ (ji12) then (some (wrap64 ((shr .i64 (wrap64 (t449 * t450)) (IntKind.u64.wrap (a2))) + 1))) else (some (shr .i64 (wrap64 (t449 * t450)) (IntKind.u64.wrap (a2))))) else (none)) = some r := by first | (rw [hji12] at H; exact H) | (simp only [hji12] at H ⊢; exact H)
     have hji12_ : (IntKind.i64.wrap (1 * 2 ^ min (ji10).toNat 64)) = ji12 := hji12
     have hji12z : (ji10) ≤ 64 → (IntKind.i64.wrap (1 * 2 ^ (ji10).toNat)) = ji12 := shl_small hji12
     have hji12u : (IntKind.i64.wrap (2 ^ min (ji10).toNat 64)) = ji12 := by have h_ := hji12_; rw [Int.one_mul] at h_; exact h_
     have hji12v : (ji10) ≤ 64 → (IntKind.i64.wrap (2 ^ (ji10).toNat)) = ji12 := fun hle_ => by have h_ := hji12z hle_; rw [Int.one_mul] at h_; exact h_
     have hji12y : (wrap64 (1 * 2 ^ min (ji10).toNat 64)) = ji12 := (i64_w _).symm.trans hji12_
     have hji12x : (ji10) ≤ 64 → (wrap64 (1 * 2 ^ (ji10).toNat)) = ji12 := fun h_ => (i64_w _).symm.trans (hji12z h_)
     obtain ⟨ji13, hji13⟩ : ∃ j_ : Int, (IntKind.u64.wrap (a2)) = j_ := ⟨_, rfl⟩
     replace H : (if 0 ≤ (ji13) then (if (wrap64 ((wrap64 (t449 * t450)) - (shl .i64 (shr .i64 (wrap64 (t449 * t450)) (ji13)) (ji13)))) ≥ (ji12) then (some (wrap64 ((shr .i64 (wrap64 (t449 * t450)) (ji13)) + 1))) else (some (shr .i64 (wrap64 (t449 * t450)) (ji13)))) else (none)) = some r := by first | (rw [hji13] at H; exact H) | (simp only [hji13] at H ⊢; exact H)
     by_cases c14 : 0 ≤ (ji13); rotate_left
     · rw [if_neg c14] at H; exact absurd H (by simp)
     rw [if_pos c14] at H; have c14b0 := eq_true c14; have c14b1 : decide (0 ≤ (ji13)) = true := decide_eq_true c14; clear c14
     obtain ⟨ji15, hji15⟩ : ∃ j_ : Int, (shr .i64 (wrap64 (t449 * t450)) (ji13)) = j_ := ⟨_, rfl⟩
     replace H : (if (wrap64 ((wrap64 (t449 * t450)) - (shl .i64 (ji15) (ji13)))) ≥ (ji12) then (some (wrap64 ((ji15) + 1))) else (some ji15)) = some r := by first | (rw [hji15] at H; exact H) | (simp only [hji15] at H ⊢; exact H)
     have hji15_ : ((wrap64 (t449 * t450)) / 2 ^ min (ji13).toNat 64) = ji15 := hji15
     have hji15z : (ji13) ≤ 64 → ((wrap64 (t449 * t450)) / 2 ^ (ji13).toNat) = ji15 := shr_small hji15
     have c16b0 := eq_true (of_decide_eq_true (by first | (with_reducible assumption) | assumption) : 0 ≤ (ji13))
     obtain ⟨ji17, hji17⟩ : ∃ j_ : Int, (shl .i64 (ji15) (ji13)) = j_ := ⟨_, rfl⟩
     replace H : (if (wrap64 ((wrap64 (t449 * t450)) - (ji17))) ≥ (ji12) then (some (wrap64 ((ji15) + 1))) else (some ji15)) = some r := by first | (rw [hji17] at H; exact H) | (simp only [hji17] at H ⊢; exact H)
     have hji17_ : (IntKind.i64.wrap ((ji15) * 2 ^ min (ji13).toNat 64)) = ji17 := hji17
     have hji17z : (ji13) ≤ 64 → (IntKind.i64.wrap ((ji15) * 2 ^ (ji13).toNat)) = ji17 := shl_small hji17
     have hji17y : (wrap64 ((ji15) * 2 ^ min (ji13).toNat 64)) = ji17 := (i64_w _).symm.trans hji17_
     have hji17x : (ji13) ≤ 64 → (wrap64 ((ji15) * 2 ^ (ji13).toNat)) = ji17 := fun h_ => (i64_w _).symm.trans (hji17z h_)
     by_cases c18 : (wrap64 ((wrap64 (t449 * t450)) - (ji17))) ≥ (ji12)
     ·
      rw [if_pos c18] at H; have c18b0 : decide ((ji12) ≤ (wrap64 ((wrap64 (t449 * t450)) - (ji17)))) = true := decide_eq_true c18; clear c18
      obtain rfl := Option.some.inj H
      go_wp2
      go_ret
      exact ⟨by first | rfl | (simp; done) | (simp only [← hji10, ← hji12, ← hji13, ← hji15, ← hji17] <;> (first | rfl | simp)) | (simp [*]; done), by repeat (first | exact Drawn0.refl _ | apply Drawn0.step)⟩
     ·
      rw [if_neg c18] at H; have c18b0 : decide ((ji12) ≤ (wrap64 ((wrap64 (t449 * t450)) - (ji17)))) = false := decide_eq_false c18; clear c18
      obtain rfl := Option.some.inj H
      go_wp2
      go_ret
      exact ⟨by first | rfl | (simp; done) | (simp only [← hji10, ← hji12, ← hji13, ← hji15, ← hji17] <;> (first | rfl | simp)) | (simp [*]; done), by repeat (first | exact Drawn0.refl _ | apply Drawn0.step)⟩

/-! ### madrigalref1_Div: function 35 -/
def madrigalref1_Div.j0 : Nat → Int → Int → Int → Bool → Option (Int)
 | 0, _, _, _, _ => none
 | k + 1, x0, x1, x2, x20 => if x20 = true then (some 0) else (if x1 < 0 then (if 0 ≤ (IntKind.u64.wrap (x2)) then ((madrigalref1_Down.f (wrap64 ((wrap64 (-x0)) * (shl .i64 1 (IntKind.u64.wrap (x2))))) (wrap64 (-x1))).bind fun t453 => (some t453)) else (none)) else (if 0 ≤ (IntKind.u64.wrap (x2)) then ((madrigalref1_Down.f (wrap64 (x0 * (shl .i64 1 (IntKind.u64.wrap (x2))))) x1).bind fun t454 => (some t454)) else (none)))
def madrigalref1_Div.f (k : Nat) (a0 : Int) (a1 : Int) (a2 : Int) : Option (Int) := (madrigalref1_Clamp.f k a0 (-2147483648) 2147483648).bind fun t451 => ((madrigalref1_Clamp.f k a1 (-2147483648) 2147483648).bind fun t452 => (if t452 = 0 then (madrigalref1_Div.j0 k t451 t452 a2 true) else (if a2 < 0 then (madrigalref1_Div.j0 k t451 t452 a2 true) else (madrigalref1_Div.j0 k t451 t452 a2 (decide (a2 > 30))))))
set_option maxHeartbeats 8000000 in
set_option maxRecDepth 100000 in
theorem madrigalref1_Div.calls (k : Nat) (a0 : Int) (a1 : Int) (a2 : Int) (r : Int) (w : World) (h : madrigalref1_Div.f k a0 a1 a2 = some r) :
  Calls Try.prog 35 #[.int .i64 a0, .int .i64 a1, .int .i64 a2] w fun e w' => e = .returned (.int .i64 r) ∧ Drawn0 w w' := by
 have H : ((madrigalref1_Clamp.f k a0 (-2147483648) 2147483648).bind fun t451 => ((madrigalref1_Clamp.f k a1 (-2147483648) 2147483648).bind fun t452 => (if t452 = 0 then (madrigalref1_Div.j0 k t451 t452 a2 true) else (if a2 < 0 then (madrigalref1_Div.j0 k t451 t452 a2 true) else (madrigalref1_Div.j0 k t451 t452 a2 (decide (a2 > 30))))))) = some r := h
 clear h; replace H := Option.bind_eq_some_iff.mp H; obtain ⟨t451, A40, H⟩ := H
 replace H : ((madrigalref1_Clamp.f k a1 (-2147483648) 2147483648).bind fun t452 => (if t452 = 0 then (madrigalref1_Div.j0 k t451 t452 a2 true) else (if a2 < 0 then (madrigalref1_Div.j0 k t451 t452 a2 true) else (madrigalref1_Div.j0 k t451 t452 a2 (decide (a2 > 30)))))) = some r := H
 have A4 := Aside0.mk A40; clear A40; replace H := Option.bind_eq_some_iff.mp H; obtain ⟨t452, A50, H⟩ := H
 replace H : (if t452 = 0 then (madrigalref1_Div.j0 k t451 t452 a2 true) else (if a2 < 0 then (madrigalref1_Div.j0 k t451 t452 a2 true) else (madrigalref1_Div.j0 k t451 t452 a2 (decide (a2 > 30))))) = some r := H
 have A5 := Aside0.mk A50; clear A50; have HC6 := Aside0.mk H; clear H
 go_enter Try.func35, Try.ntmps35
 go_upto_region 3 with (first | ((with_reducible refine gate_callee (f := 32) rfl ?_); refine goesL_ (some 8) rfl rfl Try.func32 (by kernel_rfl) rfl #[.int .i64 a0, .int .i64 (-2147483648), .int .i64 2147483648] rfl (by (try simp only [List.map_toArray, List.map_cons, List.map_nil]); first | done | rfl | (simp only [List.length_drop, List.length_take]; rfl)) ?_; (with_reducible refine (madrigalref1_Clamp.calls k a0 (-2147483648) 2147483648 t451 _ A4.out).mono ?_); rintro e w' ⟨rfl, ⟨nd, rfl⟩⟩; refine ⟨_, rfl, ?_⟩) | ((with_reducible refine gate_callee (f := 32) rfl ?_); refine goesL_ (some 10) rfl rfl Try.func32 (by kernel_rfl) rfl #[.int .i64 a1, .int .i64 (-2147483648), .int .i64 2147483648] rfl (by (try simp only [List.map_toArray, List.map_cons, List.map_nil]); first | done | rfl | (simp only [List.length_drop, List.length_take]; rfl)) ?_; (with_reducible refine (madrigalref1_Clamp.calls k a1 (-2147483648) 2147483648 t452 _ A5.out).mono ?_); rintro e w' ⟨rfl, ⟨nd, rfl⟩⟩; refine ⟨_, rfl, ?_⟩))
 (try simp only [Act.put, List.setIfInBounds_toArray, List.set_cons_zero, List.set_cons_succ])
 go_cut [20] (fun v20 wc => ∃ (kq : Nat) (x20_5 : Bool), v20 = .bool x20_5 ∧ Aside0 (madrigalref1_Div.j0 kq t451 t452 a2 x20_5 = some r) ∧ Aside0 (kq ≤ k) ∧ Drawn0 w wc)
 case first =>
  have H := HC6.out; clear HC6
  by_cases c7 : t452 = 0
  ·
   rw [if_pos c7] at H; have c7b0 : (t452 == 0) = true := beq_iff_eq.mpr c7; have c7b1 : (t452 != 0) = false := bne_eq_false_iff_eq.mpr c7; clear c7
   (first | rw [c7b0] | (simp only [i64_w, i32_w]; rw [c7b0]) | skip)
   have H' := Aside0.mk H; clear H
   go_wp2
   go_meet
   case rel => exact ⟨_, (true), (by first | rfl | (simp; done) | (simp [*]; done)), H', ⟨by first | omega | exact Nat.le_refl _⟩, by repeat (first | exact Drawn0.refl _ | apply Drawn0.step)⟩
  ·
   rw [if_neg c7] at H; have c7b0 : (t452 == 0) = false := beq_eq_false_iff_ne.mpr c7; have c7b1 : (t452 != 0) = true := bne_iff_ne.mpr c7
   (first | rw [c7b0] | (simp only [i64_w, i32_w]; rw [c7b0]) | skip)
   by_cases c8 : a2 < 0
   ·
    rw [if_pos c8] at H; have c8b0 : decide (a2 < 0) = true := decide_eq_true c8; clear c8; have H' := Aside0.mk H; clear H
    go_wp2
    go_meet
    case rel => exact ⟨_, (true), (by first | rfl | (simp; done) | (simp [*]; done)), H', ⟨by first | omega | exact Nat.le_refl _⟩, by repeat (first | exact Drawn0.refl _ | apply Drawn0.step)⟩
   ·
    rw [if_neg c8] at H; have c8b0 : decide (a2 < 0) = false := decide_eq_false c8; clear c8; have H' := Aside0.mk H; clear H
    go_wp2
    go_meet
    case rel => exact ⟨_, (decide (a2 > 30)), (by first | rfl | (simp; done) | (simp [*]; done)), H', ⟨by first | omega | exact Nat.le_refl _⟩, by repeat (first | exact Drawn0.refl _ | apply Drawn0.step)⟩
 case rest =>
  clear HC6; (try clear p2); (try clear c3); (try clear c7); (try clear c7b0); (try clear c7b0z0); (try clear c7b1); (try clear c7b1z0); (try clear c8); (try clear c8b0); (try clear c8b0z0)
  obtain ⟨kq, x20_5, rfl, HA, HJ5, ⟨mc5, rfl⟩⟩ := hcut
  cases kq with
  | zero => exact absurd HA.out (by simp [madrigalref1_Div.j0])
  | succ kj5 =>
   have H := HA.out; clear HA
   simp only [madrigalref1_Div.j0] at H
   by_cases c9 : x20_5 = true
   ·
    subst c9
    have H1 : (some 0) = some r := by rw [if_pos rfl] at H; exact H
    clear H; have H := H1; clear H1
    obtain rfl := Option.some.inj H
    go_wp2
    go_ret
    exact ⟨by first | rfl | (simp; done) | (simp [*]; done), by repeat (first | exact Drawn0.refl _ | apply Drawn0.step)⟩
   ·
    replace c9 := Bool.eq_false_iff.mpr c9
    subst c9
    have H1 : (if t452 < 0 then (if 0 ≤ (IntKind.u64.wrap (a2)) then ((madrigalref1_Down.f (wrap64 ((wrap64 (-t451)) * (shl .i64 1 (IntKind.u64.wrap (a2))))) (wrap64 (-t452))).bind fun t453 => (some t453)) else (none)) else (if 0 ≤ (IntKind.u64.wrap (a2)) then ((madrigalref1_Down.f (wrap64 (t451 * (shl .i64 1 (IntKind.u64.wrap (a2))))) t452).bind fun t454 => (some t454)) else (none))) = some r := by rw [if_neg (show ¬ (false = true) by decide)] at H; exact H
    clear H; have H := H1; clear H1
    by_cases c10 : t452 < 0
    ·
     rw [if_pos c10] at H; have c10b0 : decide (t452 < 0) = true := decide_eq_true c10; clear c10
     obtain ⟨ji11, hji11⟩ : ∃ j_ : Int, (IntKind.u64.wrap (a2)) = j_ := ⟨_, rfl⟩
     replace H : (if 0 ≤ (ji11) then ((madrigalref1_Down.f (wrap64 ((wrap64 (-t451)) * (shl .i64 1 (ji11)))) (wrap64 (-t452))).bind fun t453 => (some t453)) else (none)) = some r := by first | (rw [hji11] at H; exact H) | (simp only [hji11] at H ⊢; exact H)
     by_cases c12 : 0 ≤ (ji11); rotate_left
     · rw [if_neg c12] at H; exact absurd H (by simp)
     rw [if_pos c12] at H; have c12b0 := eq_true c12; have c12b1 : decide (0 ≤ (ji11)) = true := decide_eq_true c12; clear c12
     obtain ⟨ji13, hji13⟩ : ∃ j_ : Int, (shl .i64 1 (ji11)) = j_ := ⟨_, rfl⟩
     replace H : ((madrigalref1_Down.f (wrap64 ((wrap64 (-t451)) * (ji13))) (wrap64 (-t452))).bind fun t453 => (some t453)) = some r := by first | (rw [hji13] at H; exact H) | (simp only [hji13] at H ⊢; exact H)
     have hji13_ : (IntKind.i64.wrap (1 * 2 ^ min (ji11).toNat 64)) = ji13 := hji13
     have hji13z : (ji11) ≤ 64 → (IntKind.i64.wrap (1 * 2 ^ (ji11).toNat)) = ji13 := shl_small hji13
     have hji13u : (IntKind.i64.wrap (2 ^ min (ji11).toNat 64)) = ji13 := by have h_ := hji13_; rw [Int.one_mul] at h_; exact h_
     have hji13v : (ji11) ≤ 64 → (IntKind.i64.wrap (2 ^ (ji11).toNat)) = ji13 := fun hle_ => by have h_ := hji13z hle_; rw [Int.one_mul] at h_; exact h_
     have hji13y : (wrap64 (1 * 2 ^ min (ji11).toNat 64)) = ji13 := (i64_w _).symm.trans hji13_
     have hji13x : (ji11) ≤ 64 → (wrap64 (1 * 2 ^ (ji11).toNat)) = ji13 := fun h_ => (i64_w _).symm.trans (hji13z h_)
     replace H := Option.bind_eq_some_iff.mp H; obtain ⟨t453, A140, H⟩ := H
     replace H : (some t453) = some r := H
     have A14 := Aside0.mk A140; clear A140
     obtain rfl := Option.some.inj H
     go_wp2_with (first | ((with_reducible refine gate_callee (f := 33) rfl ?_); refine goesL_ (some 33) rfl rfl Try.func33 (by kernel_rfl) rfl #[.int .i64 (wrap64 ((wrap64 (-t451)) * (ji13))), .int .i64 (wrap64 (-t452))] rfl (by (try simp only [List.map_toArray, List.map_cons, List.map_nil]); first | done | (simp only [hji13]; rfl) | rfl | (simp only [List.length_drop, List.length_take]; rfl)) ?_; (with_reducible refine (madrigalref1_Down.calls (wrap64 ((wrap64 (-t451)) * (ji13))) (wrap64 (-t452)) t453 _ A14.out).mono ?_); rintro e w' ⟨rfl, ⟨nd, rfl⟩⟩; refine ⟨_, rfl, ?_⟩))
     go_ret
     exact ⟨by first | rfl | (simp; done) | (simp only [← hji11, ← hji13] <;> (first | rfl | simp)) | (simp [*]; done), by repeat (first | exact Drawn0.refl _ | apply Drawn0.step)⟩
    ·
     rw [if_neg c10] at H; have c10b0 : decide (t452 < 0) = false := decide_eq_false c10; clear c10
     obtain ⟨ji15, hji15⟩ : ∃ j_ : Int, (IntKind.u64.wrap (a2)) = j_ := ⟨_, rfl⟩
     replace H : (if 0 ≤ (ji15) then ((madrigalref1_Down.f (wrap64 (t451 * (shl .i64 1 (ji15)))) t452).bind fun t454 => (some t454)) else (none)) = some r := by first | (rw [hji15] at H; exact H) | (simp only [hji15] at H ⊢; exact H)
     by_cases c16 : 0 ≤ (ji15); rotate_left
     · rw [if_neg c16] at H; exact absurd H (by simp)
     rw [if_pos c16] at H; have c16b0 := eq_true c16; have c16b1 : decide (0 ≤ (ji15)) = true := decide_eq_true c16; clear c16
     obtain ⟨ji17, hji17⟩ : ∃ j_ : Int, (shl .i64 1 (ji15)) = j_ := ⟨_, rfl⟩
     replace H : ((madrigalref1_Down.f (wrap64 (t451 * (ji17))) t452).bind fun t454 => (some t454)) = some r := by first | (rw [hji17] at H; exact H) | (simp only [hji17] at H ⊢; exact H)
     have hji17_ : (IntKind.i64.wrap (1 * 2 ^ min (ji15).toNat 64)) = ji17 := hji17
     have hji17z : (ji15) ≤ 64 → (IntKind.i64.wrap (1 * 2 ^ (ji15).toNat)) = ji17 := shl_small hji17
     have hji17u : (IntKind.i64.wrap (2 ^ min (ji15).toNat 64)) = ji17 := by have h_ := hji17_; rw [Int.one_mul] at h_; exact h_
     have hji17v : (ji15) ≤ 64 → (IntKind.i64.wrap (2 ^ (ji15).toNat)) = ji17 := fun hle_ => by have h_ := hji17z hle_; rw [Int.one_mul] at h_; exact h_
     have hji17y : (wrap64 (1 * 2 ^ min (ji15).toNat 64)) = ji17 := (i64_w _).symm.trans hji17_
     have hji17x : (ji15) ≤ 64 → (wrap64 (1 * 2 ^ (ji15).toNat)) = ji17 := fun h_ => (i64_w _).symm.trans (hji17z h_)
     replace H := Option.bind_eq_some_iff.mp H; obtain ⟨t454, A180, H⟩ := H
     replace H : (some t454) = some r := H
     have A18 := Aside0.mk A180; clear A180
     obtain rfl := Option.some.inj H
     go_wp2_with (first | ((with_reducible refine gate_callee (f := 33) rfl ?_); refine goesL_ (some 33) rfl rfl Try.func33 (by kernel_rfl) rfl #[.int .i64 (wrap64 (t451 * (ji17))), .int .i64 t452] rfl (by (try simp only [List.map_toArray, List.map_cons, List.map_nil]); first | done | (simp only [hji17]; rfl) | rfl | (simp only [List.length_drop, List.length_take]; rfl)) ?_; (with_reducible refine (madrigalref1_Down.calls (wrap64 (t451 * (ji17))) t452 t454 _ A18.out).mono ?_); rintro e w' ⟨rfl, ⟨nd, rfl⟩⟩; refine ⟨_, rfl, ?_⟩))
     go_ret
     exact ⟨by first | rfl | (simp; done) | (simp only [← hji15, ← hji17] <;> (first | rfl | simp)) | (simp [*]; done), by repeat (first | exact Drawn0.refl _ | apply Drawn0.step)⟩

/-! ### madrigalref6_Stable: function 48 -/
mutual
def madrigalref6_Stable.l0 : Nat → List Int → Int → Option (Bool)
 | 0, _, _ => none
 | k + 1, x3, x4 => if x4 < (x3.length : Int) then (if 0 ≤ x4 then (madrigalref6_Stable.l0 k (x3.set (x4 : Int).toNat (wrap64 ((rd x3 x4) * 4096))) (wrap64 (x4 + 1))) else (none)) else (madrigalref6_Stable.l1 k x3 (wrap64 ((x3.length : Int) - 1)))
def madrigalref6_Stable.l1 : Nat → List Int → Int → Option (Bool)
 | 0, _, _ => none
 | k + 1, x3, x5 => if x5 ≥ 0 then (if 0 ≤ x5 then (if x5 < (x3.length : Int) then (if (rd x3 x5) > 16760438 then (madrigalref6_Stable.j2 k x3 x5 (rd x3 x5) true) else (madrigalref6_Stable.j2 k x3 x5 (rd x3 x5) (decide ((rd x3 x5) < (-16760438))))) else (none)) else (none)) else (some true)
def madrigalref6_Stable.j2 : Nat → List Int → Int → Int → Bool → Option (Bool)
 | 0, _, _, _, _ => none
 | k + 1, x3, x5, x6, x46 => if x46 = true then (some false) else ((madrigalref1_Mul.f k x6 x6 24).bind fun t461 => ((some (([] : List Int) : List Int)).bind fun y462 => (if y462.length + x3.length < 17592186044416 then (madrigalref6_Stable.l2 k x3 x5 x6 (wrap64 (16777216 - t461)) (y462 ++ x3) 0) else (none))))
def madrigalref6_Stable.l2 : Nat → List Int → Int → Int → Int → List Int → Int → Option (Bool)
 | 0, _, _, _, _, _, _ => none
 | k + 1, x3, x5, x6, x7, x8, x9 => if x9 < x5 then (if 0 ≤ x9 then (if x9 < (x8.length : Int) then (if 0 ≤ (wrap64 ((wrap64 (x5 - 1)) - x9)) then (if (wrap64 ((wrap64 (x5 - 1)) - x9)) < (x8.length : Int) then ((madrigalref1_Mul.f k x6 (rd x8 (wrap64 ((wrap64 (x5 - 1)) - x9))) 24).bind fun t470 => ((madrigalref1_Div.f k (wrap64 ((rd x8 x9) + t470)) x7 24).bind fun t471 => ((madrigalref1_Clamp.f k t471 (-2147483648) 2147483648).bind fun t472 => (if x9 < (x3.length : Int) then (madrigalref6_Stable.l2 k (x3.set (x9 : Int).toNat t472) x5 x6 x7 x8 (wrap64 (x9 + 1))) else (none))))) else (none)) else (none)) else (none)) else (none)) else (madrigalref6_Stable.l1 k x3 (wrap64 (x5 - 1)))
end
def madrigalref6_Stable.f (k : Nat) (l0 : List Int) : Option (Bool) := if (l0.length : Int) > 32 then (some false) else ((madrigalref6_clamped.f k l0 (-131072) 131072).bind fun t455 => (madrigalref6_Stable.l0 k t455 0))
set_option maxHeartbeats 8000000 in
set_option maxRecDepth 100000 in
theorem madrigalref6_Stable.calls (k : Nat) (A0 : Option Addr) (c0 : Nat) (l0 : List Int) (r : Bool) (w : World) (hr0 : Kd.C (Kd.int .i64) w A0 l0.length l0) (hc0 : l0.length ≤ c0) (h : madrigalref6_Stable.f k l0 = some r) :
  Calls Try.prog 48 #[.slice A0 l0.length c0] w fun e w' => e = .returned (.bool r) ∧ Below w.heap.size w w' := by
 have HR0 := Aside0.mk hr0; have HC0 := Aside0.mk hc0; clear hr0 hc0
 have HB := Aside0.mk (Below.refl w.heap.size w)
 have H : (if (l0.length : Int) > 32 then (some false) else ((madrigalref6_clamped.f k l0 (-131072) 131072).bind fun t455 => (madrigalref6_Stable.l0 k t455 0))) = some r := h
 clear h
 by_cases c2 : (l0.length : Int) > 32
 ·
  rw [if_pos c2] at H; have c2b0 : decide (32 < (l0.length : Int)) = true := decide_eq_true c2; have c2b1 : decide (32 < l0.length) = true := decide_eq_true (by omega); clear c2
  obtain rfl := Option.some.inj H
  go_enter Try.func48, Try.ntmps48
  go_wp2
  repeat (go_quiet (fail); try go_wp2)
  go_ret
  exact ⟨by first | rfl | (simp [errW_none, errW_some] <;> rfl) | (simp [*, errW_none, errW_some] <;> rfl), by repeat (with_reducible first | exact HB.out | apply below_alloc | apply pw_below_drewN | apply below_drew1)⟩
 ·
  rw [if_neg c2] at H; have c2b0 : decide (32 < (l0.length : Int)) = false := decide_eq_false c2; have c2b1 : decide (32 < l0.length) = false := decide_eq_false (by omega); clear c2; replace H := Option.bind_eq_some_iff.mp H; obtain ⟨t455, A30, H⟩ := H
  replace H : (madrigalref6_Stable.l0 k t455 0) = some r := H
  have A3 := Aside0.mk A30; clear A30; have H' := Aside0.mk H; clear H
  go_enter Try.func48, Try.ntmps48
  go_wp2_with (first | (go_at_call 31; (with_reducible refine (madrigalref6_clamped.calls k _ _ l0 (-131072) 131072 t455 _ ?side1 ?side2 A3.out).mono ?_); (case side1 => repeat (first | exact HR0.out | (with_reducible refine Kd.C_alloc ?_ _) | (with_reducible refine Kd.C_drewN ?_ _) | (with_reducible refine Kd.C_drew ?_))); (case side2 => exact HC0.out); rintro e w4 ⟨v456, rfl, ho0, hb⟩; have n0_ := Aside0.mk (Kd.R_lower ho0 (below_size (by repeat (with_reducible first | exact HB.out | apply below_alloc | apply pw_below_drewN | apply below_drew1)))); have n1_ := Aside0.mk (below_step (by repeat (with_reducible first | exact HB.out | apply below_alloc | apply pw_below_drewN | apply below_drew1)) hb); clear HB; have HO457 := n0_; have HB := n1_; clear n0_ n1_; (try clear hb); (try clear hb2); (try clear hk); (try clear hi); (try clear ho0)))
  repeat (go_quiet (first | (go_at_call 31; (with_reducible refine (madrigalref6_clamped.calls k _ _ l0 (-131072) 131072 t455 _ ?side1 ?side2 A3.out).mono ?_); (case side1 => repeat (first | exact HR0.out | (with_reducible refine Kd.C_alloc ?_ _) | (with_reducible refine Kd.C_drewN ?_ _) | (with_reducible refine Kd.C_drew ?_))); (case side2 => exact HC0.out); rintro e w4 ⟨v456, rfl, ho0, hb⟩; have n0_ := Aside0.mk (Kd.R_lower ho0 (below_size (by repeat (with_reducible first | exact HB.out | apply below_alloc | apply pw_below_drewN | apply below_drew1)))); have n1_ := Aside0.mk (below_step (by repeat (with_reducible first | exact HB.out | apply below_alloc | apply pw_below_drewN | apply below_drew1)) hb); clear HB; have HO457 := n0_; have HB := n1_; clear n0_ n1_; (try clear hb); (try clear hb2); (try clear hk); (try clear hi); (try clear ho0))); try go_wp2_with (first | (go_at_call 31; (with_reducible refine (madrigalref6_clamped.calls k _ _ l0 (-131072) 131072 t455 _ ?side1 ?side2 A3.out).mono ?_); (case side1 => repeat (first | exact HR0.out | (with_reducible refine Kd.C_alloc ?_ _) | (with_reducible refine Kd.C_drewN ?_ _) | (with_reducible refine Kd.C_drew ?_))); (case side2 => exact HC0.out); rintro e w4 ⟨v456, rfl, ho0, hb⟩; have n0_ := Aside0.mk (Kd.R_lower ho0 (below_size (by repeat (with_reducible first | exact HB.out | apply below_alloc | apply pw_below_drewN | apply below_drew1)))); have n1_ := Aside0.mk (below_step (by repeat (with_reducible first | exact HB.out | apply below_alloc | apply pw_below_drewN | apply below_drew1)) hb); clear HB; have HO457 := n0_; have HB := n1_; clear n0_ n1_; (try clear hb); (try clear hb2); (try clear hk); (try clear hi); (try clear ho0))))
  go_loopg [4] k (fun kq v4 w' => ∃ (x3_1 : List Int) (x4_1 : Int), v4 = .int .i64 x4_1 ∧ Aside0 (madrigalref6_Stable.l0 kq x3_1 x4_1 = some r) ∧ Aside0 (kq ≤ k) ∧ Aside0 (Kd.R (Kd.int .i64) 2 w' w.heap.size (fun _ => True) v456 x3_1) ∧ Aside0 (Below w.heap.size w w'))
  case atStart => exact ⟨(t455), (0), (by first | rfl | (simp; done) | (simp [*]; done)), H', ⟨Nat.le_refl _⟩, ⟨by (with_reducible repeat first | apply Kd.R_alloc | apply Kd.R_drewN | apply Kd.R_drew); exact HO457.out⟩, ⟨by repeat (with_reducible first | exact HB.out | apply below_alloc | apply pw_below_drewN | apply below_drew1)⟩⟩
  case round =>
   clear H'
   (try clear c2); (try clear c2b0); (try clear c2b0z0); (try clear c2b1); (try clear c2b1z0); (try clear p2); (try clear c4)
   obtain ⟨x3_1, x4_1, rfl, HA, HK1, HO_3, HB⟩ := hrel
   cases gk with
   | zero => exact absurd HA.out (by simp [madrigalref6_Stable.l0])
   | succ k1 =>
    have H := HA.out; clear HA
    simp only [madrigalref6_Stable.l0] at H
    by_cases c5 : x4_1 < (x3_1.length : Int)
    ·
     rw [if_pos c5] at H; have c5b0 : decide (x4_1 < (x3_1.length : Int)) = true := decide_eq_true c5; clear c5
     by_cases c6 : 0 ≤ x4_1; rotate_left
     · rw [if_neg c6] at H; exact absurd H (by simp)
     rw [if_pos c6] at H; have c6b0 : decide (0 ≤ x4_1) = true := decide_eq_true c6; clear c6
     obtain ⟨y459, hy459⟩ : ∃ y_ : List Int, y_ = (x3_1.set (x4_1 : Int).toNat (wrap64 ((rd x3_1 x4_1) * 4096))) := ⟨_, rfl⟩
     replace H : (madrigalref6_Stable.l0 k1 y459 (wrap64 (x4_1 + 1))) = some r := by first | (rw [hy459]; with_reducible exact H) | (have H2_ := (Option.bind_some _ _).symm.trans H; rw [hy459]; with_reducible exact H2_) | (have H2_ := (Option.bind_some _ _).symm.trans H; with_reducible exact H2_) | with_reducible exact H | (rw [hy459]; exact H) | exact H
     have Ny459 := Aside0.mk hy459; clear hy459; have H' := Aside0.mk H; clear H
     obtain ⟨Ao8, co8, eo8⟩ := Kd.R_slice HO_3.out
     subst eo8; have p458 : 0 ≤ (x4_1 : Int) := of_decide_eq_true (by first | (with_reducible assumption) | assumption); have q458 : x4_1 < (x3_1.length : Int) := of_decide_eq_true (by first | (with_reducible assumption) | assumption)
     obtain ⟨ad458, e458, hx458_0⟩ := Kd.at_int (Kd.R_reads' HO_3.out).2.2 x4_1 p458 q458
     cases e458; replace p458 := eq_true p458; replace q458 := eq_true q458; have p7 : 0 ≤ (x4_1 : Int) := of_decide_eq_true (by first | (with_reducible assumption) | assumption); have q7 : (x4_1 : Int) < ((x3_1.length : Int) : Int) := of_decide_eq_true (by first | (with_reducible assumption) | assumption)
     obtain ⟨go7, co7, eo7, gb7, gl7, cl7, HG7⟩ := Kd.R_form HO_3.out (by omega)
     (first | cases eo7 | (injection eo7 with ea_ en_ ec_; (first | subst ea_ | (injection ea_ with ea_; subst ea_)); subst ec_; clear en_))
     have GB7 := Aside0.mk gb7; have GG7 := Aside0.mk HG7; clear gb7 gl7 HG7
     (first | simp only [add_plain] at hx458_0 | skip)
     obtain ⟨hx7_0, hf7_0⟩ := Kd.R_celln 0 HO_3.out (x4_1 : Int) p7 q7
     replace p7 := eq_true p7; replace q7 := eq_true q7
     have HP9 := Kd.R_putg HO_3.out (x4_1 : Int) (wrap64 ((rd x3_1 x4_1) * 4096))
     go_wp2_with (first | ((with_reducible refine gate_store (t := 2) (p := 29) rfl ?_); (try (rw [drewN_self wr]; generalize hq_ : World.drewN wr _ = wr; have n0_ := Aside0.mk (Kd.R_at hq_ HO_3.out); have n1_ := Aside0.mk (below_at hq_ HB.out); clear hq_ HO_3 HB; have HO_3 := n0_; have HB := n1_; clear n0_ n1_; (try (have HP9 := Kd.R_putg HO_3.out (x4_1 : Int) (wrap64 ((rd x3_1 x4_1) * 4096)))))); refine store_event (t := 2) (p := 29) (v := ?vo_w10) (w1 := (wr.setCell ⟨go7, (x4_1 : Int).toNat, none⟩ (.int .i64 (wrap64 ((rd x3_1 x4_1) * 4096))))) ?hg ?ho ?hn ?hr ?_; (case ho => rfl); (case hg => rfl); (case hn => rfl); (case hr => first | (go_simp; done) | (go_simp; rfl)); intro w10 hw; have hg : wr.grownBy w10 (some go7) := (by rw [hw]; exact HP9.2); have hp_ : Kd.R (Kd.int .i64) 2 w10 w.heap.size (fun _ => True) (.slice (some ⟨go7, 0, none⟩) x3_1.length co8) y459 := (by rw [hw, Ny459.out]; exact HP9.1); clear HP9; have n0_ := Aside0.mk (hp_); have n1_ := Aside0.mk ((by rw [hw]; exact below_set (HB.out) GB7.out : Below w.heap.size w w10)); clear HO_3; clear HB; have HO_3 := n0_; have HB := n1_; clear n0_ n1_; clear hg hw hp_))
     repeat (go_quiet (first | ((with_reducible refine gate_store (t := 2) (p := 29) rfl ?_); (try (rw [drewN_self wr]; generalize hq_ : World.drewN wr _ = wr; have n0_ := Aside0.mk (Kd.R_at hq_ HO_3.out); have n1_ := Aside0.mk (below_at hq_ HB.out); clear hq_ HO_3 HB; have HO_3 := n0_; have HB := n1_; clear n0_ n1_; (try (have HP9 := Kd.R_putg HO_3.out (x4_1 : Int) (wrap64 ((rd x3_1 x4_1) * 4096)))))); refine store_event (t := 2) (p := 29) (v := ?vo_w10) (w1 := (wr.setCell ⟨go7, (x4_1 : Int).toNat, none⟩ (.int .i64 (wrap64 ((rd x3_1 x4_1) * 4096))))) ?hg ?ho ?hn ?hr ?_; (case ho => rfl); (case hg => rfl); (case hn => rfl); (case hr => first | (go_simp; done) | (go_simp; rfl)); intro w10 hw; have hg : wr.grownBy w10 (some go7) := (by rw [hw]; exact HP9.2); have hp_ : Kd.R (Kd.int .i64) 2 w10 w.heap.size (fun _ => True) (.slice (some ⟨go7, 0, none⟩) x3_1.length co8) y459 := (by rw [hw, Ny459.out]; exact HP9.1); clear HP9; have n0_ := Aside0.mk (hp_); have n1_ := Aside0.mk ((by rw [hw]; exact below_set (HB.out) GB7.out : Below w.heap.size w w10)); clear HO_3; clear HB; have HO_3 := n0_; have HB := n1_; clear n0_ n1_; clear hg hw hp_)); try go_wp2_with (first | ((with_reducible refine gate_store (t := 2) (p := 29) rfl ?_); (try (rw [drewN_self wr]; generalize hq_ : World.drewN wr _ = wr; have n0_ := Aside0.mk (Kd.R_at hq_ HO_3.out); have n1_ := Aside0.mk (below_at hq_ HB.out); clear hq_ HO_3 HB; have HO_3 := n0_; have HB := n1_; clear n0_ n1_; (try (have HP9 := Kd.R_putg HO_3.out (x4_1 : Int) (wrap64 ((rd x3_1 x4_1) * 4096)))))); refine store_event (t := 2) (p := 29) (v := ?vo_w10) (w1 := (wr.setCell ⟨go7, (x4_1 : Int).toNat, none⟩ (.int .i64 (wrap64 ((rd x3_1 x4_1) * 4096))))) ?hg ?ho ?hn ?hr ?_; (case ho => rfl); (case hg => rfl); (case hn => rfl); (case hr => first | (go_simp; done) | (go_simp; rfl)); intro w10 hw; have hg : wr.grownBy w10 (some go7) := (by rw [hw]; exact HP9.2); have hp_ : Kd.R (Kd.int .i64) 2 w10 w.heap.size (fun _ => True) (.slice (some ⟨go7, 0, none⟩) x3_1.length co8) y459 := (by rw [hw, Ny459.out]; exact HP9.1); clear HP9; have n0_ := Aside0.mk (hp_); have n1_ := Aside0.mk ((by rw [hw]; exact below_set (HB.out) GB7.out : Below w.heap.size w w10)); clear HO_3; clear HB; have HO_3 := n0_; have HB := n1_; clear n0_ n1_; clear hg hw hp_)))
     go_roundg k1
     case measure => have := HK1.out; omega
     case rel => exact ⟨(y459), (wrap64 (x4_1 + 1)), (by first | rfl | (simp; done) | (simp [*]; done)), H', ⟨by have := HK1.out; omega⟩, ⟨by (with_reducible repeat first | apply Kd.R_alloc | apply Kd.R_drewN | apply Kd.R_drew); exact HO_3.out⟩, ⟨by repeat (with_reducible first | exact HB.out | apply below_alloc | apply pw_below_drewN | apply below_drew1)⟩⟩
    ·
     rw [if_neg c5] at H; have c5b0 : decide (x4_1 < (x3_1.length : Int)) = false := decide_eq_false c5; clear c5; have H' := Aside0.mk H; clear H
     obtain ⟨Ao11, co11, eo11⟩ := Kd.R_slice HO_3.out
     subst eo11
     go_wp2
     repeat (go_quiet (fail); try go_wp2)
     go_loopg [5] k1 (fun kq v5 w' => ∃ (x3_2 : List Int) (x5_2 : Int), v5 = .int .i64 x5_2 ∧ Aside0 (madrigalref6_Stable.l1 kq x3_2 x5_2 = some r) ∧ Aside0 (kq ≤ k1) ∧ Aside0 (Kd.R (Kd.int .i64) 2 w' w.heap.size (fun _ => True) (.slice Ao11 x3_1.length co11) x3_2) ∧ Aside0 (Below w.heap.size w w'))
     case atStart => exact ⟨(x3_1), (wrap64 ((x3_1.length : Int) - 1)), (by first | rfl | (simp; done) | (simp [*]; done)), H', ⟨Nat.le_refl _⟩, ⟨by (with_reducible repeat first | apply Kd.R_alloc | apply Kd.R_drewN | apply Kd.R_drew); exact HO_3.out⟩, ⟨by repeat (with_reducible first | exact HB.out | apply below_alloc | apply pw_below_drewN | apply below_drew1)⟩⟩
     case round =>
      clear H'
      (try clear c2); (try clear c2b0); (try clear c2b0z0); (try clear c2b1); (try clear c2b1z0); (try clear p2); (try clear c4); (try clear p4); (try clear q4); (try clear hx4); (try clear c5); (try clear c5b0); (try clear c5b0z0); (try clear c6); (try clear c6b0); (try clear c6b0z0); (try clear p6); (try clear p7); (try clear q7); (try clear hx7); (try clear hf7); (try clear hx458_0); (try clear hx7_0); (try clear p2); (try clear p458); (try clear p7); (try clear q458); (try clear q7)
      obtain ⟨x3_2, x5_2, rfl, HA, HK2, HO_3, HB⟩ := hrel
      have hl3_2 := (Kd.R_reads' HO_3.out).1
      rw [hl3_2] at HO_3; (try simp only [hl3_2])
      cases gk with
      | zero => exact absurd HA.out (by simp [madrigalref6_Stable.l1])
      | succ k2 =>
       have H := HA.out; clear HA
       simp only [madrigalref6_Stable.l1] at H
       by_cases c12 : x5_2 ≥ 0
       ·
        rw [if_pos c12] at H; have c12b0 : decide (0 ≤ x5_2) = true := decide_eq_true c12; clear c12
        by_cases c13 : 0 ≤ x5_2; rotate_left
        · rw [if_neg c13] at H; exact absurd H (by simp)
        rw [if_pos c13] at H; have c13b0 : decide (0 ≤ x5_2) = true := decide_eq_true c13; clear c13
        by_cases c14 : x5_2 < (x3_2.length : Int); rotate_left
        · rw [if_neg c14] at H; exact absurd H (by simp)
        rw [if_pos c14] at H; have c14b0 : decide (x5_2 < (x3_2.length : Int)) = true := decide_eq_true c14
        (try (have c14b0z0 := c14b0; rw [hl3_2] at c14b0z0))
        clear c14; have HC15 := Aside0.mk H; clear H; have p460 : 0 ≤ (x5_2 : Int) := of_decide_eq_true (by first | (with_reducible assumption) | assumption); have q460 : x5_2 < (x3_2.length : Int) := of_decide_eq_true (by first | (with_reducible assumption) | assumption)
        obtain ⟨ad460, e460, hx460_0⟩ := Kd.at_int (Kd.R_reads' HO_3.out).2.2 x5_2 p460 q460
        cases e460; replace p460 := eq_true p460; replace q460 := eq_true q460
        go_upto_region 12 with (fail)
        repeat (go_quiet (fail); go_upto_region 12 with (fail))
        go_cut [46] (fun v46 wc => ∃ (kq : Nat) (x46_14 : Bool), v46 = .bool x46_14 ∧ Aside0 (madrigalref6_Stable.j2 kq x3_2 x5_2 (rd x3_2 x5_2) x46_14 = some r) ∧ Aside0 (kq ≤ k2) ∧ Aside0 (Kd.R (Kd.int .i64) 2 wc w.heap.size (fun _ => True) (.slice (some ad460) x3_2.length co11) x3_2) ∧ Aside0 (Below w.heap.size w wc))
        case first =>
         have H := HC15.out; clear HC15
         by_cases c16 : (rd x3_2 x5_2) > 16760438
         ·
          rw [if_pos c16] at H; have c16b0 : decide (16760438 < (rd x3_2 x5_2)) = true := decide_eq_true c16; clear c16
          (first | rw [c16b0] | (simp only [i64_w, i32_w]; rw [c16b0]) | skip)
          have H' := Aside0.mk H; clear H
          go_wp2
          repeat (go_quiet (fail); try go_wp2)
          go_meet
          case rel => exact ⟨_, (true), (by first | rfl | (simp; done) | (simp [*]; done)), H', ⟨by have := HK1.out; have := HK2.out; first | omega | exact Nat.le_refl _⟩, ⟨by (try simp only [hl3_2]); (with_reducible repeat first | apply Kd.R_alloc | apply Kd.R_drewN | apply Kd.R_drew); exact HO_3.out⟩, ⟨by repeat (with_reducible first | exact HB.out | apply below_alloc | apply pw_below_drewN | apply below_drew1)⟩⟩
         ·
          rw [if_neg c16] at H; have c16b0 : decide (16760438 < (rd x3_2 x5_2)) = false := decide_eq_false c16; clear c16
          (first | rw [c16b0] | (simp only [i64_w, i32_w]; rw [c16b0]) | skip)
          have H' := Aside0.mk H; clear H
          go_wp2
          repeat (go_quiet (fail); try go_wp2)
          go_meet
          case rel => exact ⟨_, (decide ((rd x3_2 x5_2) < (-16760438))), (by first | rfl | (simp; done) | (simp [*]; done)), H', ⟨by have := HK1.out; have := HK2.out; first | omega | exact Nat.le_refl _⟩, ⟨by (try simp only [hl3_2]); (with_reducible repeat first | apply Kd.R_alloc | apply Kd.R_drewN | apply Kd.R_drew); exact HO_3.out⟩, ⟨by repeat (with_reducible first | exact HB.out | apply below_alloc | apply pw_below_drewN | apply below_drew1)⟩⟩
        case rest =>
         clear HC15; (try clear c1); (try clear c2); (try clear c2b0); (try clear c2b0z0); (try clear c2b1); (try clear c2b1z0); (try clear p2); (try clear c4); (try clear p4); (try clear q4); (try clear hx4); (try clear c5); (try clear c5b0); (try clear c5b0z0); (try clear c6); (try clear c6b0); (try clear c6b0z0); (try clear p6); (try clear p7); (try clear q7); (try clear hx7); (try clear hf7); (try clear c12); (try clear c12b0); (try clear c12b0z0); (try clear c13); (try clear c13b0); (try clear c13b0z0); (try clear c14); (try clear c14b0); (try clear c14b0z0); (try clear c16); (try clear c16b0); (try clear c16b0z0); (try clear hx458_0); (try clear hx460_0); (try clear hx7_0); (try clear p2); (try clear p4); (try clear p458); (try clear p460); (try clear p6); (try clear p7); (try clear q4); (try clear q458); (try clear q460); (try clear q7)
         obtain ⟨kq, x46_14, rfl, HA, HJ14, HO_3, HB⟩ := hcut
         cases kq with
         | zero => exact absurd HA.out (by simp [madrigalref6_Stable.j2])
         | succ kj14 =>
          have H := HA.out; clear HA
          simp only [madrigalref6_Stable.j2] at H
          by_cases c17 : x46_14 = true
          ·
           subst c17
           have H1 : (some false) = some r := by rw [if_pos rfl] at H; exact H
           clear H; have H := H1; clear H1
           obtain rfl := Option.some.inj H
           go_wp2
           repeat (go_quiet (fail); try go_wp2)
           go_ret
           exact ⟨by first | rfl | (simp [errW_none, errW_some] <;> rfl) | (simp [*, errW_none, errW_some] <;> rfl), by repeat (with_reducible first | exact HB.out | apply below_alloc | apply pw_below_drewN | apply below_drew1)⟩
          ·
           replace c17 := Bool.eq_false_iff.mpr c17
           subst c17
           have H1 : ((madrigalref1_Mul.f kj14 (rd x3_2 x5_2) (rd x3_2 x5_2) 24).bind fun t461 => ((some (([] : List Int) : List Int)).bind fun y462 => (if y462.length + x3_2.length < 17592186044416 then (madrigalref6_Stable.l2 kj14 x3_2 x5_2 (rd x3_2 x5_2) (wrap64 (16777216 - t461)) (y462 ++ x3_2) 0) else (none)))) = some r := by rw [if_neg (show ¬ (false = true) by decide)] at H; exact H
           clear H; have H := H1; clear H1; replace H := Option.bind_eq_some_iff.mp H; obtain ⟨t461, A180, H⟩ := H
           replace H : ((some (([] : List Int) : List Int)).bind fun y462 => (if y462.length + x3_2.length < 17592186044416 then (madrigalref6_Stable.l2 kj14 x3_2 x5_2 (rd x3_2 x5_2) (wrap64 (16777216 - t461)) (y462 ++ x3_2) 0) else (none))) = some r := H
           have A18 := Aside0.mk A180; clear A180
           obtain ⟨y462, hy462⟩ : ∃ y_ : List Int, y_ = (([] : List Int)) := ⟨_, rfl⟩
           replace H : (if y462.length + x3_2.length < 17592186044416 then (madrigalref6_Stable.l2 kj14 x3_2 x5_2 (rd x3_2 x5_2) (wrap64 (16777216 - t461)) (y462 ++ x3_2) 0) else (none)) = some r := by first | (rw [hy462]; with_reducible exact H) | (have H2_ := (Option.bind_some _ _).symm.trans H; rw [hy462]; with_reducible exact H2_) | (have H2_ := (Option.bind_some _ _).symm.trans H; with_reducible exact H2_) | with_reducible exact H | (rw [hy462]; exact H) | exact H
           have Ny462 := Aside0.mk hy462; clear hy462
           by_cases c19 : y462.length + x3_2.length < 17592186044416; rotate_left
           · rw [if_neg c19] at H; exact absurd H (by simp)
           rw [if_pos c19] at H; have LMc19 := Aside0.mk c19; clear c19
           obtain ⟨y465, hy465⟩ : ∃ y_ : List Int, y_ = (y462 ++ x3_2) := ⟨_, rfl⟩
           replace H : (madrigalref6_Stable.l2 kj14 x3_2 x5_2 (rd x3_2 x5_2) (wrap64 (16777216 - t461)) y465 0) = some r := by first | (rw [hy465]; with_reducible exact H) | (have H2_ := (Option.bind_some _ _).symm.trans H; rw [hy465]; with_reducible exact H2_) | (have H2_ := (Option.bind_some _ _).symm.trans H; with_reducible exact H2_) | with_reducible exact H | (rw [hy465]; exact H) | exact H
           have Ny465 := Aside0.mk hy465; clear hy465; have H' := Aside0.mk H; clear H
           go_wp2_with (first | (go_at_call 34; (with_reducible refine (madrigalref1_Mul.calls kj14 (rd x3_2 x5_2) (rd x3_2 x5_2) 24 t461 _ A18.out).mono ?_); rintro e w' ⟨rfl, ⟨nd, rfl⟩⟩; (try first | exact ⟨rfl, _, World.drewN_drewN _ _ _⟩ | exact ⟨rfl, _, Eq.trans (World.drewN_drewN _ _ _) (congrArg (World.drewN _) (Nat.add_assoc _ _ _))⟩)) | ((with_reducible refine gate_dst (N := 51) rfl ?_); refine Kd.R_lit (Kd.int .i64) _ 2 ?hg (N := 51) ?hd (xs := ([] : List Int)) (inner := []) (ok := fun _ => True) (okp := fun _ => True) ?hr ?hp (fun _ hk => hk) trivial (Below.refl _ _) (Nat.le_refl _) (by simp) ?_; (case hd => rfl); (case hg => rfl); (case hr => first | (go_simp; done) | (go_simp; rfl)); (case hp => exact (Reps.none _ _)); intro v463 w20 ho21 hb hg_ hnew_; clear hg_ hnew_; (first | rw [← Ny462.out] at ho21 | (simp only [Int.reduceToNat] at ho21; rw [← Ny462.out] at ho21)); have n0_ := Aside0.mk (Kd.R_elder' (by (with_reducible repeat first | apply Kd.R_alloc | apply Kd.R_drewN | apply Kd.R_drew); exact HO_3.out) (Kd.R_base ho21) hb); have n1_ := Aside0.mk (Kd.R_lower (Kd.R_new' ho21 (Kd.R_lt (by (with_reducible repeat first | apply Kd.R_alloc | apply Kd.R_drewN | apply Kd.R_drew); exact HO_3.out))) (below_size (by repeat (with_reducible first | exact HB.out | apply below_alloc | apply pw_below_drewN | apply below_drew1)))); have n2_ := Aside0.mk (below_step (by repeat (with_reducible first | exact HB.out | apply below_alloc | apply pw_below_drewN | apply below_drew1)) hb); clear HO_3; clear HB; have HO_3 := n0_; have HO464 := n1_; have HB := n2_; clear n0_ n1_ n2_; clear hb ho21) | ((with_reducible refine gate_builtin (b := .append) (xs := #[.tmp 51, .tmp 52]) rfl ?_); at_builtin; refine Kd.R_append_rows (Kd.int .i64) (w0 := w) w.heap.size rfl (.tmp 51) (.tmp 52) 23 2 (.int .i64 0) 8 rfl Try.underlying23 info2 rfl (by decide) (by omega) v463 y462 x3_2 _ _ _ (fun k_ => some k_ ≠ (.slice (some ad460) x3_2.length co11 : Value).ownBlock) (fun _ => False) rfl rfl ?aO ?aR (fun _ _ h => h) (fun _ h => h.elim) ?aF ?aB ?aS ?aL ?_; (case aR => repeat (first | exact (Kd.R_reads' HO_3.out).2.2 | (with_reducible refine Kd.C_alloc ?_ _) | (with_reducible refine Kd.C_drewN ?_ _) | (with_reducible refine Kd.C_drew ?_))); (case aB => exact (by repeat (with_reducible first | exact HB.out | apply below_alloc | apply pw_below_drewN | apply below_drew1))); (case aF => exact (fun k_ hk => Kd.fresh' (Kd.R_lt (by (with_reducible repeat first | apply Kd.R_alloc | apply Kd.R_drewN | apply Kd.R_drew); exact HO_3.out)) k_ hk)); (case aO => exact (by (with_reducible repeat first | apply Kd.R_alloc | apply Kd.R_drewN | apply Kd.R_drew); exact Kd.R_mono HO464.out (fun _ hk => hk.2))); (case aS => exact (below_size (by repeat (with_reducible first | exact HB.out | apply below_alloc | apply pw_below_drewN | apply below_drew1)))); (case aL => have := LMc19.out; omega); intro v466 w22 ho hb hg hat; rw [← Ny465.out] at ho; have n0_ := Aside0.mk (Kd.R_after (ok := (fun _ => True)) (by (with_reducible repeat first | apply Kd.R_alloc | apply Kd.R_drewN | apply Kd.R_drew); exact HO_3.out) hg hat); have n1_ := Aside0.mk (hb); have n2_ := Aside0.mk (ho); clear HO_3; clear HB; clear HO464; have HO_3 := n0_; have HB := n1_; have HO467 := n2_; clear n0_ n1_ n2_; clear ho hb hg hat))
           repeat (go_quiet (first | (go_at_call 34; (with_reducible refine (madrigalref1_Mul.calls kj14 (rd x3_2 x5_2) (rd x3_2 x5_2) 24 t461 _ A18.out).mono ?_); rintro e w' ⟨rfl, ⟨nd, rfl⟩⟩; (try first | exact ⟨rfl, _, World.drewN_drewN _ _ _⟩ | exact ⟨rfl, _, Eq.trans (World.drewN_drewN _ _ _) (congrArg (World.drewN _) (Nat.add_assoc _ _ _))⟩)) | ((with_reducible refine gate_dst (N := 51) rfl ?_); refine Kd.R_lit (Kd.int .i64) _ 2 ?hg (N := 51) ?hd (xs := ([] : List Int)) (inner := []) (ok := fun _ => True) (okp := fun _ => True) ?hr ?hp (fun _ hk => hk) trivial (Below.refl _ _) (Nat.le_refl _) (by simp) ?_; (case hd => rfl); (case hg => rfl); (case hr => first | (go_simp; done) | (go_simp; rfl)); (case hp => exact (Reps.none _ _)); intro v463 w20 ho21 hb hg_ hnew_; clear hg_ hnew_; (first | rw [← Ny462.out] at ho21 | (simp only [Int.reduceToNat] at ho21; rw [← Ny462.out] at ho21)); have n0_ := Aside0.mk (Kd.R_elder' (by (with_reducible repeat first | apply Kd.R_alloc | apply Kd.R_drewN | apply Kd.R_drew); exact HO_3.out) (Kd.R_base ho21) hb); have n1_ := Aside0.mk (Kd.R_lower (Kd.R_new' ho21 (Kd.R_lt (by (with_reducible repeat first | apply Kd.R_alloc | apply Kd.R_drewN | apply Kd.R_drew); exact HO_3.out))) (below_size (by repeat (with_reducible first | exact HB.out | apply below_alloc | apply pw_below_drewN | apply below_drew1)))); have n2_ := Aside0.mk (below_step (by repeat (with_reducible first | exact HB.out | apply below_alloc | apply pw_below_drewN | apply below_drew1)) hb); clear HO_3; clear HB; have HO_3 := n0_; have HO464 := n1_; have HB := n2_; clear n0_ n1_ n2_; clear hb ho21) | ((with_reducible refine gate_builtin (b := .append) (xs := #[.tmp 51, .tmp 52]) rfl ?_); at_builtin; refine Kd.R_append_rows (Kd.int .i64) (w0 := w) w.heap.size rfl (.tmp 51) (.tmp 52) 23 2 (.int .i64 0) 8 rfl Try.underlying23 info2 rfl (by decide) (by omega) v463 y462 x3_2 _ _ _ (fun k_ => some k_ ≠ (.slice (some ad460) x3_2.length co11 : Value).ownBlock) (fun _ => False) rfl rfl ?aO ?aR (fun _ _ h => h) (fun _ h => h.elim) ?aF ?aB ?aS ?aL ?_; (case aR => repeat (first | exact (Kd.R_reads' HO_3.out).2.2 | (with_reducible refine Kd.C_alloc ?_ _) | (with_reducible refine Kd.C_drewN ?_ _) | (with_reducible refine Kd.C_drew ?_))); (case aB => exact (by repeat (with_reducible first | exact HB.out | apply below_alloc | apply pw_below_drewN | apply below_drew1))); (case aF => exact (fun k_ hk => Kd.fresh' (Kd.R_lt (by (with_reducible repeat first | apply Kd.R_alloc | apply Kd.R_drewN | apply Kd.R_drew); exact HO_3.out)) k_ hk)); (case aO => exact (by (with_reducible repeat first | apply Kd.R_alloc | apply Kd.R_drewN | apply Kd.R_drew); exact Kd.R_mono HO464.out (fun _ hk => hk.2))); (case aS => exact (below_size (by repeat (with_reducible first | exact HB.out | apply below_alloc | apply pw_below_drewN | apply below_drew1)))); (case aL => have := LMc19.out; omega); intro v466 w22 ho hb hg hat; rw [← Ny465.out] at ho; have n0_ := Aside0.mk (Kd.R_after (ok := (fun _ => True)) (by (with_reducible repeat first | apply Kd.R_alloc | apply Kd.R_drewN | apply Kd.R_drew); exact HO_3.out) hg hat); have n1_ := Aside0.mk (hb); have n2_ := Aside0.mk (ho); clear HO_3; clear HB; clear HO464; have HO_3 := n0_; have HB := n1_; have HO467 := n2_; clear n0_ n1_ n2_; clear ho hb hg hat)); try go_wp2_with (first | (go_at_call 34; (with_reducible refine (madrigalref1_Mul.calls kj14 (rd x3_2 x5_2) (rd x3_2 x5_2) 24 t461 _ A18.out).mono ?_); rintro e w' ⟨rfl, ⟨nd, rfl⟩⟩; (try first | exact ⟨rfl, _, World.drewN_drewN _ _ _⟩ | exact ⟨rfl, _, Eq.trans (World.drewN_drewN _ _ _) (congrArg (World.drewN _) (Nat.add_assoc _ _ _))⟩)) | ((with_reducible refine gate_dst (N := 51) rfl ?_); refine Kd.R_lit (Kd.int .i64) _ 2 ?hg (N := 51) ?hd (xs := ([] : List Int)) (inner := []) (ok := fun _ => True) (okp := fun _ => True) ?hr ?hp (fun _ hk => hk) trivial (Below.refl _ _) (Nat.le_refl _) (by simp) ?_; (case hd => rfl); (case hg => rfl); (case hr => first | (go_simp; done) | (go_simp; rfl)); (case hp => exact (Reps.none _ _)); intro v463 w20 ho21 hb hg_ hnew_; clear hg_ hnew_; (first | rw [← Ny462.out] at ho21 | (simp only [Int.reduceToNat] at ho21; rw [← Ny462.out] at ho21)); have n0_ := Aside0.mk (Kd.R_elder' (by (with_reducible repeat first | apply Kd.R_alloc | apply Kd.R_drewN | apply Kd.R_drew); exact HO_3.out) (Kd.R_base ho21) hb); have n1_ := Aside0.mk (Kd.R_lower (Kd.R_new' ho21 (Kd.R_lt (by (with_reducible repeat first | apply Kd.R_alloc | apply Kd.R_drewN | apply Kd.R_drew); exact HO_3.out))) (below_size (by repeat (with_reducible first | exact HB.out | apply below_alloc | apply pw_below_drewN | apply below_drew1)))); have n2_ := Aside0.mk (below_step (by repeat (with_reducible first | exact HB.out | apply below_alloc | apply pw_below_drewN | apply below_drew1)) hb); clear HO_3; clear HB; have HO_3 := n0_; have HO464 := n1_; have HB := n2_; clear n0_ n1_ n2_; clear hb ho21) | ((with_reducible refine gate_builtin (b := .append) (xs := #[.tmp 51, .tmp 52]) rfl ?_); at_builtin; refine Kd.R_append_rows (Kd.int .i64) (w0 := w) w.heap.size rfl (.tmp 51) (.tmp 52) 23 2 (.int .i64 0) 8 rfl Try.underlying23 info2 rfl (by decide) (by omega) v463 y462 x3_2 _ _ _ (fun k_ => some k_ ≠ (.slice (some ad460) x3_2.length co11 : Value).ownBlock) (fun _ => False) rfl rfl ?aO ?aR (fun _ _ h => h) (fun _ h => h.elim) ?aF ?aB ?aS ?aL ?_; (case aR => repeat (first | exact (Kd.R_reads' HO_3.out).2.2 | (with_reducible refine Kd.C_alloc ?_ _) | (with_reducible refine Kd.C_drewN ?_ _) | (with_reducible refine Kd.C_drew ?_))); (case aB => exact (by repeat (with_reducible first | exact HB.out | apply below_alloc | apply pw_below_drewN | apply below_drew1))); (case aF => exact (fun k_ hk => Kd.fresh' (Kd.R_lt (by (with_reducible repeat first | apply Kd.R_alloc | apply Kd.R_drewN | apply Kd.R_drew); exact HO_3.out)) k_ hk)); (case aO => exact (by (with_reducible repeat first | apply Kd.R_alloc | apply Kd.R_drewN | apply Kd.R_drew); exact Kd.R_mono HO464.out (fun _ hk => hk.2))); (case aS => exact (below_size (by repeat (with_reducible first | exact HB.out | apply below_alloc | apply pw_below_drewN | apply below_drew1)))); (case aL => have := LMc19.out; omega); intro v466 w22 ho hb hg hat; rw [← Ny465.out] at ho; have n0_ := Aside0.mk (Kd.R_after (ok := (fun _ => True)) (by (with_reducible repeat first | apply Kd.R_alloc | apply Kd.R_drewN | apply Kd.R_drew); exact HO_3.out) hg hat); have n1_ := Aside0.mk (hb); have n2_ := Aside0.mk (ho); clear HO_3; clear HB; clear HO464; have HO_3 := n0_; have HB := n1_; have HO467 := n2_; clear n0_ n1_ n2_; clear ho hb hg hat)))
           go_loopg [9] kj14 (fun kq v9 w' => ∃ (x3_4 : List Int) (x9_4 : Int), v9 = .int .i64 x9_4 ∧ Aside0 (madrigalref6_Stable.l2 kq x3_4 x5_2 (rd x3_2 x5_2) (wrap64 (16777216 - t461)) y465 x9_4 = some r) ∧ Aside0 (kq ≤ kj14) ∧ Aside0 (Kd.R (Kd.int .i64) 2 w' w.heap.size (fun k_ => some k_ ≠ (v466 : Value).ownBlock) (.slice (some ad460) x3_2.length co11) x3_4) ∧ Aside0 (Kd.R (Kd.int .i64) 2 w' w.heap.size (fun k_ => some k_ ≠ ((.slice (some ad460) x3_2.length co11) : Value).ownBlock) v466 y465) ∧ Aside0 (Below w.heap.size w w'))
           case atStart => exact ⟨(x3_2), (0), (by first | rfl | (simp; done) | (simp [*]; done)), H', ⟨Nat.le_refl _⟩, ⟨by (try simp only [hl3_2]); (with_reducible repeat first | apply Kd.R_alloc | apply Kd.R_drewN | apply Kd.R_drew); exact Kd.R_mono HO_3.out (fun _ hk => hk.2)⟩, ⟨by (try simp only [hl3_2]); (with_reducible repeat first | apply Kd.R_alloc | apply Kd.R_drewN | apply Kd.R_drew); exact HO467.out⟩, ⟨by repeat (with_reducible first | exact HB.out | apply below_alloc | apply pw_below_drewN | apply below_drew1)⟩⟩
           case round =>
            clear H'
            (try clear c1); (try clear c2); (try clear c2b0); (try clear c2b0z0); (try clear c2b1); (try clear c2b1z0); (try clear p2); (try clear c4); (try clear p4); (try clear q4); (try clear hx4); (try clear c5); (try clear c5b0); (try clear c5b0z0); (try clear c6); (try clear c6b0); (try clear c6b0z0); (try clear p6); (try clear p7); (try clear q7); (try clear hx7); (try clear hf7); (try clear c12); (try clear c12b0); (try clear c12b0z0); (try clear c13); (try clear c13b0); (try clear c13b0z0); (try clear c14); (try clear c14b0); (try clear c14b0z0); (try clear c16); (try clear c16b0); (try clear c16b0z0); (try clear c17); (try clear c19); (try clear hx458_0); (try clear hx460_0); (try clear hx7_0); (try clear p2); (try clear p4); (try clear p458); (try clear p460); (try clear p6); (try clear p7); (try clear q4); (try clear q458); (try clear q460); (try clear q7)
            obtain ⟨x3_4, x9_4, rfl, HA, HK4, HO_3, HO_8, HB⟩ := hrel
            have hl3_4 := (Kd.R_reads' HO_3.out).1
            rw [hl3_4] at HO_3; (try simp only [hl3_4]); (try simp only [hl3_4] at HO_8)
            cases gk with
            | zero => exact absurd HA.out (by simp [madrigalref6_Stable.l2])
            | succ k4 =>
             have H := HA.out; clear HA
             simp only [madrigalref6_Stable.l2] at H
             by_cases c23 : x9_4 < x5_2
             ·
              rw [if_pos c23] at H; have c23b0 : decide (x9_4 < x5_2) = true := decide_eq_true c23; clear c23
              by_cases c24 : 0 ≤ x9_4; rotate_left
              · rw [if_neg c24] at H; exact absurd H (by simp)
              rw [if_pos c24] at H; have c24b0 : decide (0 ≤ x9_4) = true := decide_eq_true c24; clear c24
              by_cases c25 : x9_4 < (y465.length : Int); rotate_left
              · rw [if_neg c25] at H; exact absurd H (by simp)
              rw [if_pos c25] at H; have c25b0 : decide (x9_4 < (y465.length : Int)) = true := decide_eq_true c25
              (try (have c25b0z0 := c25b0; rw [hl3_2] at c25b0z0))
              (try (have c25b0z1 := c25b0; rw [hl3_4] at c25b0z1))
              clear c25
              obtain ⟨ji26, hji26⟩ : ∃ j_ : Int, (wrap64 ((wrap64 (x5_2 - 1)) - x9_4)) = j_ := ⟨_, rfl⟩
              replace H : (if 0 ≤ (ji26) then (if (ji26) < (y465.length : Int) then ((madrigalref1_Mul.f k4 (rd x3_2 x5_2) (rd y465 (ji26)) 24).bind fun t470 => ((madrigalref1_Div.f k4 (wrap64 ((rd y465 x9_4) + t470)) (wrap64 (16777216 - t461)) 24).bind fun t471 => ((madrigalref1_Clamp.f k4 t471 (-2147483648) 2147483648).bind fun t472 => (if x9_4 < (x3_4.length : Int) then (madrigalref6_Stable.l2 k4 (x3_4.set (x9_4 : Int).toNat t472) x5_2 (rd x3_2 x5_2) (wrap64 (16777216 - t461)) y465 (wrap64 (x9_4 + 1))) else (none))))) else (none)) else (none)) = some r := by first | (rw [hji26] at H; exact H) | (simp only [hji26] at H ⊢; exact H)
              have hji26w : (IntKind.i64.wrap ((wrap64 (x5_2 - 1)) - x9_4)) = ji26 := (i64_w _).trans hji26
              by_cases c27 : 0 ≤ (ji26); rotate_left
              · rw [if_neg c27] at H; exact absurd H (by simp)
              rw [if_pos c27] at H; have c27b0 : decide (0 ≤ (ji26)) = true := decide_eq_true c27; clear c27
              by_cases c28 : (ji26) < (y465.length : Int); rotate_left
              · rw [if_neg c28] at H; exact absurd H (by simp)
              rw [if_pos c28] at H; have c28b0 : decide ((ji26) < (y465.length : Int)) = true := decide_eq_true c28
              (try (have c28b0z0 := c28b0; rw [hl3_2] at c28b0z0))
              (try (have c28b0z1 := c28b0; rw [hl3_4] at c28b0z1))
              clear c28; replace H := Option.bind_eq_some_iff.mp H; obtain ⟨t470, A290, H⟩ := H
              replace H : ((madrigalref1_Div.f k4 (wrap64 ((rd y465 x9_4) + t470)) (wrap64 (16777216 - t461)) 24).bind fun t471 => ((madrigalref1_Clamp.f k4 t471 (-2147483648) 2147483648).bind fun t472 => (if x9_4 < (x3_4.length : Int) then (madrigalref6_Stable.l2 k4 (x3_4.set (x9_4 : Int).toNat t472) x5_2 (rd x3_2 x5_2) (wrap64 (16777216 - t461)) y465 (wrap64 (x9_4 + 1))) else (none)))) = some r := H
              have A29 := Aside0.mk A290; clear A290; replace H := Option.bind_eq_some_iff.mp H; obtain ⟨t471, A300, H⟩ := H
              replace H : ((madrigalref1_Clamp.f k4 t471 (-2147483648) 2147483648).bind fun t472 => (if x9_4 < (x3_4.length : Int) then (madrigalref6_Stable.l2 k4 (x3_4.set (x9_4 : Int).toNat t472) x5_2 (rd x3_2 x5_2) (wrap64 (16777216 - t461)) y465 (wrap64 (x9_4 + 1))) else (none))) = some r := H
              have A30 := Aside0.mk A300; clear A300; replace H := Option.bind_eq_some_iff.mp H; obtain ⟨t472, A310, H⟩ := H
              replace H : (if x9_4 < (x3_4.length : Int) then (madrigalref6_Stable.l2 k4 (x3_4.set (x9_4 : Int).toNat t472) x5_2 (rd x3_2 x5_2) (wrap64 (16777216 - t461)) y465 (wrap64 (x9_4 + 1))) else (none)) = some r := H
              have A31 := Aside0.mk A310; clear A310
              by_cases c32 : x9_4 < (x3_4.length : Int); rotate_left
              · rw [if_neg c32] at H; exact absurd H (by simp)
              rw [if_pos c32] at H; have c32b0 : decide (x9_4 < (x3_4.length : Int)) = true := decide_eq_true c32
              (try (have c32b0z0 := c32b0; rw [hl3_2] at c32b0z0))
              (try (have c32b0z1 := c32b0; rw [hl3_4] at c32b0z1))
              clear c32
              obtain ⟨y473, hy473⟩ : ∃ y_ : List Int, y_ = (x3_4.set (x9_4 : Int).toNat t472) := ⟨_, rfl⟩
              replace H : (madrigalref6_Stable.l2 k4 y473 x5_2 (rd x3_2 x5_2) (wrap64 (16777216 - t461)) y465 (wrap64 (x9_4 + 1))) = some r := by first | (rw [hy473]; with_reducible exact H) | (have H2_ := (Option.bind_some _ _).symm.trans H; rw [hy473]; with_reducible exact H2_) | (have H2_ := (Option.bind_some _ _).symm.trans H; with_reducible exact H2_) | with_reducible exact H | (rw [hy473]; exact H) | exact H
              have Ny473 := Aside0.mk hy473; clear hy473; have H' := Aside0.mk H; clear H
              obtain ⟨Ao34, co34, eo34⟩ := Kd.R_slice HO_8.out
              subst eo34; have p468 : 0 ≤ (x9_4 : Int) := of_decide_eq_true (by first | (with_reducible assumption) | assumption); have q468 : x9_4 < (y465.length : Int) := of_decide_eq_true (by first | (with_reducible assumption) | assumption)
              obtain ⟨ad468, e468, hx468_0⟩ := Kd.at_int (Kd.R_reads' HO_8.out).2.2 x9_4 p468 q468
              cases e468; replace p468 := eq_true p468; replace q468 := eq_true q468; have p469 : 0 ≤ ((ji26) : Int) := of_decide_eq_true (by first | (with_reducible assumption) | assumption); have q469 : (ji26) < (y465.length : Int) := of_decide_eq_true (by first | (with_reducible assumption) | assumption)
              obtain ⟨ad469, e469, hx469_0⟩ := Kd.at_int (Kd.R_reads' HO_8.out).2.2 (ji26) p469 q469
              obtain rfl : ad468 = ad469 := (by injection e469)
              replace p469 := eq_true p469; replace q469 := eq_true q469
              have p33 : 0 ≤ (x9_4 : Int) := of_decide_eq_true (by first | (with_reducible assumption) | assumption); have q33 : (x9_4 : Int) < ((x3_4.length : Int) : Int) := of_decide_eq_true (by first | (with_reducible assumption) | assumption); obtain ⟨go33, co33, eo33, gb33, gl33, cl33, HG33⟩ := Kd.R_form HO_3.out (by omega); (first | cases eo33 | (injection eo33 with ea_ en_ ec_; (first | subst ea_ | (injection ea_ with ea_; subst ea_)); subst ec_; clear en_)); have GB33 := Aside0.mk gb33; have GG33 := Aside0.mk HG33; clear gb33 gl33 HG33; (first | simp only [add_plain] at hx460_0 | skip); obtain ⟨hx33_0, hf33_0⟩ := Kd.R_celln 0 HO_3.out (x9_4 : Int) p33 q33; replace p33 := eq_true p33; replace q33 := eq_true q33
              go_wp2_with (first | (go_at_call 34; (with_reducible refine (madrigalref1_Mul.calls k4 (rd x3_2 x5_2) (rd y465 (ji26)) 24 t470 _ A29.out).mono ?_); rintro e w' ⟨rfl, ⟨nd, rfl⟩⟩; (try first | exact ⟨rfl, _, World.drewN_drewN _ _ _⟩ | exact ⟨rfl, _, Eq.trans (World.drewN_drewN _ _ _) (congrArg (World.drewN _) (Nat.add_assoc _ _ _))⟩)) | (go_at_call 35; (with_reducible refine (madrigalref1_Div.calls k4 (wrap64 ((rd y465 x9_4) + t470)) (wrap64 (16777216 - t461)) 24 t471 _ A30.out).mono ?_); rintro e w' ⟨rfl, ⟨nd, rfl⟩⟩; (try first | exact ⟨rfl, _, World.drewN_drewN _ _ _⟩ | exact ⟨rfl, _, Eq.trans (World.drewN_drewN _ _ _) (congrArg (World.drewN _) (Nat.add_assoc _ _ _))⟩)) | (go_at_call 32; (with_reducible refine (madrigalref1_Clamp.calls k4 t471 (-2147483648) 2147483648 t472 _ A31.out).mono ?_); rintro e w' ⟨rfl, ⟨nd, rfl⟩⟩; (try first | exact ⟨rfl, _, World.drewN_drewN _ _ _⟩ | exact ⟨rfl, _, Eq.trans (World.drewN_drewN _ _ _) (congrArg (World.drewN _) (Nat.add_assoc _ _ _))⟩); obtain ⟨hy35_, hz35_⟩ := Kd.R_celln 0 HO_3.out (x9_4 : Int) (of_decide_eq_true (by first | (with_reducible assumption) | assumption)) (of_decide_eq_true (by first | (with_reducible assumption) | assumption)); have HP35 := Kd.R_putg HO_3.out (x9_4 : Int) t472) | ((with_reducible refine gate_store (t := 2) (p := 79) rfl ?_); (try (rw [drewN_self wr]; generalize hq_ : World.drewN wr _ = wr; have n0_ := Aside0.mk (Kd.R_at hq_ HO_3.out); have n1_ := Aside0.mk (Kd.R_at hq_ HO_8.out); have n2_ := Aside0.mk (below_at hq_ HB.out); clear hq_ HO_3 HO_8 HB; have HO_3 := n0_; have HO_8 := n1_; have HB := n2_; clear n0_ n1_ n2_; (try (obtain ⟨hy35_, hz35_⟩ := Kd.R_celln 0 HO_3.out (x9_4 : Int) (of_decide_eq_true (by first | (with_reducible assumption) | assumption)) (of_decide_eq_true (by first | (with_reducible assumption) | assumption)))); (try (have HP35 := Kd.R_putg HO_3.out (x9_4 : Int) t472)))); refine store_event (t := 2) (p := 79) (v := ?vo_w36) (w1 := (wr.setCell ⟨go33, (x9_4 : Int).toNat, none⟩ (.int .i64 t472))) ?hg ?ho ?hn ?hr ?_; (case ho => rfl); (case hg => rfl); (case hn => rfl); (case hr => first | (go_simp; done) | (go_simp; rfl)); intro w36 hw; have hg : wr.grownBy w36 (some go33) := (by rw [hw]; exact HP35.2); have hp_ : Kd.R (Kd.int .i64) 2 w36 w.heap.size (fun k_ => some k_ ≠ (.slice (some ad468) y465.length co34 : Value).ownBlock) (.slice (some ⟨go33, 0, none⟩) x3_4.length co11) y473 := (by rw [hw, Ny473.out]; exact HP35.1); clear HP35; have n0_ := Aside0.mk (hp_); have n1_ := Aside0.mk (Kd.R_after (v := (.slice (some ⟨go33, 0, none⟩) x3_4.length co11)) (v1 := (.slice (some ⟨go33, 0, none⟩) x3_4.length co11)) (ok := (fun _ => True)) (by (with_reducible repeat first | apply Kd.R_alloc | apply Kd.R_drewN | apply Kd.R_drew); exact Kd.R_mono HO_8.out (fun _ hk => ⟨trivial, hk⟩)) hg (.inl rfl)); have n2_ := Aside0.mk ((by rw [hw]; exact below_set (HB.out) GB33.out : Below w.heap.size w w36)); clear HO_3; clear HO_8; clear HB; have HO_3 := n0_; have HO_8 := n1_; have HB := n2_; clear n0_ n1_ n2_; clear hg hw hp_))
              repeat (go_quiet (first | (go_at_call 34; (with_reducible refine (madrigalref1_Mul.calls k4 (rd x3_2 x5_2) (rd y465 (ji26)) 24 t470 _ A29.out).mono ?_); rintro e w' ⟨rfl, ⟨nd, rfl⟩⟩; (try first | exact ⟨rfl, _, World.drewN_drewN _ _ _⟩ | exact ⟨rfl, _, Eq.trans (World.drewN_drewN _ _ _) (congrArg (World.drewN _) (Nat.add_assoc _ _ _))⟩)) | (go_at_call 35; (with_reducible refine (madrigalref1_Div.calls k4 (wrap64 ((rd y465 x9_4) + t470)) (wrap64 (16777216 - t461)) 24 t471 _ A30.out).mono ?_); rintro e w' ⟨rfl, ⟨nd, rfl⟩⟩; (try first | exact ⟨rfl, _, World.drewN_drewN _ _ _⟩ | exact ⟨rfl, _, Eq.trans (World.drewN_drewN _ _ _) (congrArg (World.drewN _) (Nat.add_assoc _ _ _))⟩)) | (go_at_call 32; (with_reducible refine (madrigalref1_Clamp.calls k4 t471 (-2147483648) 2147483648 t472 _ A31.out).mono ?_); rintro e w' ⟨rfl, ⟨nd, rfl⟩⟩; (try first | exact ⟨rfl, _, World.drewN_drewN _ _ _⟩ | exact ⟨rfl, _, Eq.trans (World.drewN_drewN _ _ _) (congrArg (World.drewN _) (Nat.add_assoc _ _ _))⟩); obtain ⟨hy35_, hz35_⟩ := Kd.R_celln 0 HO_3.out (x9_4 : Int) (of_decide_eq_true (by first | (with_reducible assumption) | assumption)) (of_decide_eq_true (by first | (with_reducible assumption) | assumption)); have HP35 := Kd.R_putg HO_3.out (x9_4 : Int) t472) | ((with_reducible refine gate_store (t := 2) (p := 79) rfl ?_); (try (rw [drewN_self wr]; generalize hq_ : World.drewN wr _ = wr; have n0_ := Aside0.mk (Kd.R_at hq_ HO_3.out); have n1_ := Aside0.mk (Kd.R_at hq_ HO_8.out); have n2_ := Aside0.mk (below_at hq_ HB.out); clear hq_ HO_3 HO_8 HB; have HO_3 := n0_; have HO_8 := n1_; have HB := n2_; clear n0_ n1_ n2_; (try (obtain ⟨hy35_, hz35_⟩ := Kd.R_celln 0 HO_3.out (x9_4 : Int) (of_decide_eq_true (by first | (with_reducible assumption) | assumption)) (of_decide_eq_true (by first | (with_reducible assumption) | assumption)))); (try (have HP35 := Kd.R_putg HO_3.out (x9_4 : Int) t472)))); refine store_event (t := 2) (p := 79) (v := ?vo_w36) (w1 := (wr.setCell ⟨go33, (x9_4 : Int).toNat, none⟩ (.int .i64 t472))) ?hg ?ho ?hn ?hr ?_; (case ho => rfl); (case hg => rfl); (case hn => rfl); (case hr => first | (go_simp; done) | (go_simp; rfl)); intro w36 hw; have hg : wr.grownBy w36 (some go33) := (by rw [hw]; exact HP35.2); have hp_ : Kd.R (Kd.int .i64) 2 w36 w.heap.size (fun k_ => some k_ ≠ (.slice (some ad468) y465.length co34 : Value).ownBlock) (.slice (some ⟨go33, 0, none⟩) x3_4.length co11) y473 := (by rw [hw, Ny473.out]; exact HP35.1); clear HP35; have n0_ := Aside0.mk (hp_); have n1_ := Aside0.mk (Kd.R_after (v := (.slice (some ⟨go33, 0, none⟩) x3_4.length co11)) (v1 := (.slice (some ⟨go33, 0, none⟩) x3_4.length co11)) (ok := (fun _ => True)) (by (with_reducible repeat first | apply Kd.R_alloc | apply Kd.R_drewN | apply Kd.R_drew); exact Kd.R_mono HO_8.out (fun _ hk => ⟨trivial, hk⟩)) hg (.inl rfl)); have n2_ := Aside0.mk ((by rw [hw]; exact below_set (HB.out) GB33.out : Below w.heap.size w w36)); clear HO_3; clear HO_8; clear HB; have HO_3 := n0_; have HO_8 := n1_; have HB := n2_; clear n0_ n1_ n2_; clear hg hw hp_)); try go_wp2_with (first | (go_at_call 34; (with_reducible refine (madrigalref1_Mul.calls k4 (rd x3_2 x5_2) (rd y465 (ji26)) 24 t470 _ A29.out).mono ?_); rintro e w' ⟨rfl, ⟨nd, rfl⟩⟩; (try first | exact ⟨rfl, _, World.drewN_drewN _ _ _⟩ | exact ⟨rfl, _, Eq.trans (World.drewN_drewN _ _ _) (congrArg (World.drewN _) (Nat.add_assoc _ _ _))⟩)) | (go_at_call 35; (with_reducible refine (madrigalref1_Div.calls k4 (wrap64 ((rd y465 x9_4) + t470)) (wrap64 (16777216 - t461)) 24 t471 _ A30.out).mono ?_); rintro e w' ⟨rfl, ⟨nd, rfl⟩⟩; (try first | exact ⟨rfl, _, World.drewN_drewN _ _ _⟩ | exact ⟨rfl, _, Eq.trans (World.drewN_drewN _ _ _) (congrArg (World.drewN _) (Nat.add_assoc _ _ _))⟩)) | (go_at_call 32; (with_reducible refine (madrigalref1_Clamp.calls k4 t471 (-2147483648) 2147483648 t472 _ A31.out).mono ?_); rintro e w' ⟨rfl, ⟨nd, rfl⟩⟩; (try first | exact ⟨rfl, _, World.drewN_drewN _ _ _⟩ | exact ⟨rfl, _, Eq.trans (World.drewN_drewN _ _ _) (congrArg (World.drewN _) (Nat.add_assoc _ _ _))⟩); obtain ⟨hy35_, hz35_⟩ := Kd.R_celln 0 HO_3.out (x9_4 : Int) (of_decide_eq_true (by first | (with_reducible assumption) | assumption)) (of_decide_eq_true (by first | (with_reducible assumption) | assumption)); have HP35 := Kd.R_putg HO_3.out (x9_4 : Int) t472) | ((with_reducible refine gate_store (t := 2) (p := 79) rfl ?_); (try (rw [drewN_self wr]; generalize hq_ : World.drewN wr _ = wr; have n0_ := Aside0.mk (Kd.R_at hq_ HO_3.out); have n1_ := Aside0.mk (Kd.R_at hq_ HO_8.out); have n2_ := Aside0.mk (below_at hq_ HB.out); clear hq_ HO_3 HO_8 HB; have HO_3 := n0_; have HO_8 := n1_; have HB := n2_; clear n0_ n1_ n2_; (try (obtain ⟨hy35_, hz35_⟩ := Kd.R_celln 0 HO_3.out (x9_4 : Int) (of_decide_eq_true (by first | (with_reducible assumption) | assumption)) (of_decide_eq_true (by first | (with_reducible assumption) | assumption)))); (try (have HP35 := Kd.R_putg HO_3.out (x9_4 : Int) t472)))); refine store_event (t := 2) (p := 79) (v := ?vo_w36) (w1 := (wr.setCell ⟨go33, (x9_4 : Int).toNat, none⟩ (.int .i64 t472))) ?hg ?ho ?hn ?hr ?_; (case ho => rfl); (case hg => rfl); (case hn => rfl); (case hr => first | (go_simp; done) | (go_simp; rfl)); intro w36 hw; have hg : wr.grownBy w36 (some go33) := (by rw [hw]; exact HP35.2); have hp_ : Kd.R (Kd.int .i64) 2 w36 w.heap.size (fun k_ => some k_ ≠ (.slice (some ad468) y465.length co34 : Value).ownBlock) (.slice (some ⟨go33, 0, none⟩) x3_4.length co11) y473 := (by rw [hw, Ny473.out]; exact HP35.1); clear HP35; have n0_ := Aside0.mk (hp_); have n1_ := Aside0.mk (Kd.R_after (v := (.slice (some ⟨go33, 0, none⟩) x3_4.length co11)) (v1 := (.slice (some ⟨go33, 0, none⟩) x3_4.length co11)) (ok := (fun _ => True)) (by (with_reducible repeat first | apply Kd.R_alloc | apply Kd.R_drewN | apply Kd.R_drew); exact Kd.R_mono HO_8.out (fun _ hk => ⟨trivial, hk⟩)) hg (.inl rfl)); have n2_ := Aside0.mk ((by rw [hw]; exact below_set (HB.out) GB33.out : Below w.heap.size w w36)); clear HO_3; clear HO_8; clear HB; have HO_3 := n0_; have HO_8 := n1_; have HB := n2_; clear n0_ n1_ n2_; clear hg hw hp_)))
              (try simp only [← hl3_4])
              go_roundg k4
              case measure => have := HK1.out; have := HK2.out; have := HJ14.out; have := HK4.out; omega
              case rel => exact ⟨(y473), (wrap64 (x9_4 + 1)), (by first | rfl | (simp; done) | (simp [*]; done)), H', ⟨by have := HK1.out; have := HK2.out; have := HJ14.out; have := HK4.out; omega⟩, ⟨by (try simp only [hl3_2]); (try simp only [hl3_4]); (with_reducible repeat first | apply Kd.R_alloc | apply Kd.R_drewN | apply Kd.R_drew); exact HO_3.out⟩, ⟨by (try simp only [hl3_2]); (try simp only [hl3_4]); (with_reducible repeat first | apply Kd.R_alloc | apply Kd.R_drewN | apply Kd.R_drew); exact Kd.R_mono HO_8.out (fun _ hk => hk.2)⟩, ⟨by repeat (with_reducible first | exact HB.out | apply below_alloc | apply pw_below_drewN | apply below_drew1)⟩⟩
             ·
              rw [if_neg c23] at H; have c23b0 : decide (x9_4 < x5_2) = false := decide_eq_false c23; clear c23; have H' := Aside0.mk H; clear H
              go_wp2
              repeat (go_quiet (fail); try go_wp2)
              (try simp only [← hl3_2, ← hl3_4])
              go_roundg k4
              case measure => have := HK1.out; have := HK2.out; have := HJ14.out; have := HK4.out; omega
              case rel => exact ⟨(x3_4), (wrap64 (x5_2 - 1)), (by first | rfl | (simp; done) | (simp [*]; done)), H', ⟨by have := HK1.out; have := HK2.out; have := HJ14.out; have := HK4.out; omega⟩, ⟨by (try simp only [hl3_2]); (try simp only [hl3_4]); (with_reducible repeat first | apply Kd.R_alloc | apply Kd.R_drewN | apply Kd.R_drew); exact Kd.R_mono HO_3.out (fun _ hk => trivial)⟩, ⟨by repeat (with_reducible first | exact HB.out | apply below_alloc | apply pw_below_drewN | apply below_drew1)⟩⟩
       ·
        rw [if_neg c12] at H; have c12b0 : decide (0 ≤ x5_2) = false := decide_eq_false c12; clear c12
        obtain rfl := Option.some.inj H
        go_wp2
        repeat (go_quiet (fail); try go_wp2)
        go_ret
        exact ⟨by first | rfl | (simp [errW_none, errW_some] <;> rfl) | (simp [*, errW_none, errW_some] <;> rfl), by repeat (with_reducible first | exact HB.out | apply below_alloc | apply pw_below_drewN | apply below_drew1)⟩

end Go.Proofs.Ytgbdkefglmjdoaa.MA
