/- Functions of the program as plain Lean functions, and that the code comes to their answers. No condition. -/
import Derived.Test.YtnliianjljgcbaaMAx0
namespace Go.Proofs.Ytnliianjljgcbaa.MA
open Go.RowKit Go.Proofs.YtnliianjljgcbaaW.PrintWords Go.Proofs.YtnliianjljgcbaaW.PrintLast Go.Proofs.YtnliianjljgcbaaW.PrintMore
attribute [local go_sem] max2_int min2_int max_two min_two max_three min_three max_four min_four
set_option linter.unusedVariables false
set_option linter.unusedSimpArgs false

/-! ### mdct_Good: function 16 -/
def mdct_Good.f (a0 : Int) (a1 : Int) : Option (Bool) := if a0 ≥ 4 then (if a0 ≤ 480 then (if a1 ≥ 2 then (if a1 ≤ a0 then (some ((Int.tmod (wrap64 (a0 - a1)) 2) == 0)) else (some false)) else (some false)) else (some false)) else (some false)
set_option maxHeartbeats 8000000 in
set_option maxRecDepth 100000 in
theorem mdct_Good.calls (a0 : Int) (a1 : Int) (r : Bool) (w : World) (h : mdct_Good.f a0 a1 = some r) :
  Calls Try.prog 16 #[.int .i64 a0, .int .i64 a1] w fun e w' => e = .returned (.bool r) ∧ Drawn0 w w' := by
 have H : (if a0 ≥ 4 then (if a0 ≤ 480 then (if a1 ≥ 2 then (if a1 ≤ a0 then (some ((Int.tmod (wrap64 (a0 - a1)) 2) == 0)) else (some false)) else (some false)) else (some false)) else (some false)) = some r := h
 clear h
 by_cases c3 : a0 ≥ 4
 ·
  rw [if_pos c3] at H; have c3b0 : decide (4 ≤ a0) = true := decide_eq_true c3; clear c3
  by_cases c4 : a0 ≤ 480
  ·
   rw [if_pos c4] at H; have c4b0 : decide (a0 ≤ 480) = true := decide_eq_true c4; clear c4
   by_cases c5 : a1 ≥ 2
   ·
    rw [if_pos c5] at H; have c5b0 : decide (2 ≤ a1) = true := decide_eq_true c5; clear c5
    by_cases c6 : a1 ≤ a0
    ·
     rw [if_pos c6] at H; have c6b0 : decide (a1 ≤ a0) = true := decide_eq_true c6; clear c6
     obtain rfl := Option.some.inj H
     go_enter Try.func16, Try.ntmps16
     go_wp2
     go_ret
     exact ⟨by first | rfl | (simp; done) | (simp [*]; done), by repeat (first | exact Drawn0.refl _ | apply Drawn0.step)⟩
    ·
     rw [if_neg c6] at H; have c6b0 : decide (a1 ≤ a0) = false := decide_eq_false c6; clear c6
     obtain rfl := Option.some.inj H
     go_enter Try.func16, Try.ntmps16
     go_wp2
     go_ret
     exact ⟨by first | rfl | (simp; done) | (simp [*]; done), by repeat (first | exact Drawn0.refl _ | apply Drawn0.step)⟩
   ·
    rw [if_neg c5] at H; have c5b0 : decide (2 ≤ a1) = false := decide_eq_false c5; clear c5
    obtain rfl := Option.some.inj H
    go_enter Try.func16, Try.ntmps16
    go_wp2
    go_ret
    exact ⟨by first | rfl | (simp; done) | (simp [*]; done), by repeat (first | exact Drawn0.refl _ | apply Drawn0.step)⟩
  ·
   rw [if_neg c4] at H; have c4b0 : decide (a0 ≤ 480) = false := decide_eq_false c4; clear c4
   obtain rfl := Option.some.inj H
   go_enter Try.func16, Try.ntmps16
   go_wp2
   go_ret
   exact ⟨by first | rfl | (simp; done) | (simp [*]; done), by repeat (first | exact Drawn0.refl _ | apply Drawn0.step)⟩
 ·
  rw [if_neg c3] at H; have c3b0 : decide (4 ≤ a0) = false := decide_eq_false c3; clear c3
  obtain rfl := Option.some.inj H
  go_enter Try.func16, Try.ntmps16
  go_wp2
  go_ret
  exact ⟨by first | rfl | (simp; done) | (simp [*]; done), by repeat (first | exact Drawn0.refl _ | apply Drawn0.step)⟩

/-! ### fix_Clamp: function 28 -/
def fix_Clamp.j0 : Nat → Int → Int → Int → Bool → Option (Int)
 | 0, _, _, _, _ => none
 | k + 1, x0, x1, x2, x7 => if x7 = true then (some x1) else (if x0 > x2 then (some x2) else (some x0))
def fix_Clamp.f (k : Nat) (a0 : Int) (a1 : Int) (a2 : Int) : Option (Int) := if a1 > a2 then (fix_Clamp.j0 k a0 a1 a2 true) else (fix_Clamp.j0 k a0 a1 a2 (decide (a0 < a1)))
set_option maxHeartbeats 8000000 in
set_option maxRecDepth 100000 in
theorem fix_Clamp.calls (k : Nat) (a0 : Int) (a1 : Int) (a2 : Int) (r : Int) (w : World) (h : fix_Clamp.f k a0 a1 a2 = some r) :
  Calls Try.prog 28 #[.int .i64 a0, .int .i64 a1, .int .i64 a2] w fun e w' => e = .returned (.int .i64 r) ∧ Drawn0 w w' := by
 have H : (if a1 > a2 then (fix_Clamp.j0 k a0 a1 a2 true) else (fix_Clamp.j0 k a0 a1 a2 (decide (a0 < a1)))) = some r := h
 clear h; have HC4 := Aside0.mk H; clear H
 go_enter Try.func28, Try.ntmps28
 go_upto_region 1 with (fail)
 go_cut [7] (fun v7 wc => ∃ (kq : Nat) (x7_3 : Bool), v7 = .bool x7_3 ∧ Aside0 (fix_Clamp.j0 kq a0 a1 a2 x7_3 = some r) ∧ Aside0 (kq ≤ k) ∧ Drawn0 w wc)
 case first =>
  have H := HC4.out; clear HC4
  by_cases c5 : a1 > a2
  ·
   rw [if_pos c5] at H; have c5b0 : decide (a2 < a1) = true := decide_eq_true c5; clear c5
   (first | rw [c5b0] | (simp only [i64_w, i32_w]; rw [c5b0]) | skip)
   have H' := Aside0.mk H; clear H
   go_wp2
   go_meet
   case rel => exact ⟨_, (true), (by first | rfl | (simp; done) | (simp [*]; done)), H', ⟨by first | omega | exact Nat.le_refl _⟩, by repeat (first | exact Drawn0.refl _ | apply Drawn0.step)⟩
  ·
   rw [if_neg c5] at H; have c5b0 : decide (a2 < a1) = false := decide_eq_false c5; clear c5
   (first | rw [c5b0] | (simp only [i64_w, i32_w]; rw [c5b0]) | skip)
   have H' := Aside0.mk H; clear H
   go_wp2
   go_meet
   case rel => exact ⟨_, (decide (a0 < a1)), (by first | rfl | (simp; done) | (simp [*]; done)), H', ⟨by first | omega | exact Nat.le_refl _⟩, by repeat (first | exact Drawn0.refl _ | apply Drawn0.step)⟩
 case rest =>
  clear HC4; (try clear c2); (try clear p2); (try clear c5); (try clear c5b0); (try clear c5b0z0)
  obtain ⟨kq, x7_3, rfl, HA, HJ3, ⟨mc3, rfl⟩⟩ := hcut
  cases kq with
  | zero => exact absurd HA.out (by simp [fix_Clamp.j0])
  | succ kj3 =>
   have H := HA.out; clear HA
   simp only [fix_Clamp.j0] at H
   by_cases c6 : x7_3 = true
   ·
    subst c6
    have H1 : (some a1) = some r := by rw [if_pos rfl] at H; exact H
    clear H; have H := H1; clear H1
    obtain rfl := Option.some.inj H
    go_wp2
    go_ret
    exact ⟨by first | rfl | (simp; done) | (simp [*]; done), by repeat (first | exact Drawn0.refl _ | apply Drawn0.step)⟩
   ·
    replace c6 := Bool.eq_false_iff.mpr c6
    subst c6
    have H1 : (if a0 > a2 then (some a2) else (some a0)) = some r := by rw [if_neg (show ¬ (false = true) by decide)] at H; exact H
    clear H; have H := H1; clear H1
    by_cases c7 : a0 > a2
    ·
     rw [if_pos c7] at H; have c7b0 : decide (a2 < a0) = true := decide_eq_true c7; clear c7
     obtain rfl := Option.some.inj H
     go_wp2
     go_ret
     exact ⟨by first | rfl | (simp; done) | (simp [*]; done), by repeat (first | exact Drawn0.refl _ | apply Drawn0.step)⟩
    ·
     rw [if_neg c7] at H; have c7b0 : decide (a2 < a0) = false := decide_eq_false c7; clear c7
     obtain rfl := Option.some.inj H
     go_wp2
     go_ret
     exact ⟨by first | rfl | (simp; done) | (simp [*]; done), by repeat (first | exact Drawn0.refl _ | apply Drawn0.step)⟩

/-! ### fix_factor: function 40 -/
def fix_factor.f (k : Nat) (a0 : Int) : Option (Int) := (fix_Clamp.f k a0 (-2147483648) 2147483648).bind fun t101 => (some t101)
set_option maxHeartbeats 8000000 in
set_option maxRecDepth 100000 in
theorem fix_factor.calls (k : Nat) (a0 : Int) (r : Int) (w : World) (h : fix_factor.f k a0 = some r) :
  Calls Try.prog 40 #[.int .i64 a0] w fun e w' => e = .returned (.int .i64 r) ∧ Drawn0 w w' := by
 have H : ((fix_Clamp.f k a0 (-2147483648) 2147483648).bind fun t101 => (some t101)) = some r := h
 clear h; replace H := Option.bind_eq_some_iff.mp H; obtain ⟨t101, A20, H⟩ := H
 replace H : (some t101) = some r := H
 have A2 := Aside0.mk A20; clear A20
 obtain rfl := Option.some.inj H
 go_enter Try.func40, Try.ntmps40
 go_wp2_with (first | ((with_reducible refine gate_callee (f := 28) rfl ?_); refine goesL_ (some 4) rfl rfl Try.func28 (by kernel_rfl) rfl #[.int .i64 a0, .int .i64 (-2147483648), .int .i64 2147483648] rfl (by (try simp only [List.map_toArray, List.map_cons, List.map_nil]); first | done | rfl | (simp only [List.length_drop, List.length_take]; rfl)) ?_; (with_reducible refine (fix_Clamp.calls k a0 (-2147483648) 2147483648 t101 _ A2.out).mono ?_); rintro e w' ⟨rfl, ⟨nd, rfl⟩⟩; refine ⟨_, rfl, ?_⟩))
 go_ret
 exact ⟨by first | rfl | (simp; done) | (simp [*]; done), by repeat (first | exact Drawn0.refl _ | apply Drawn0.step)⟩

/-! ### fix_Mul: function 27 -/
def fix_Mul.f (k : Nat) (a0 : Int) (a1 : Int) (a2 : Int) : Option (Int) := (fix_factor.f k a0).bind fun t102 => ((fix_factor.f k a1).bind fun t103 => (if a2 = 0 then (some (wrap64 (t102 * t103))) else (if a2 < 0 then (some 0) else (if a2 > 62 then (some 0) else (if 0 ≤ (wrap64 (a2 - 1)) then (if 0 ≤ a2 then (some (shr .i64 (wrap64 ((wrap64 (t102 * t103)) + (shl .i64 1 (wrap64 (a2 - 1))))) a2)) else (none)) else (none))))))
set_option maxHeartbeats 8000000 in
set_option maxRecDepth 100000 in
theorem fix_Mul.calls (k : Nat) (a0 : Int) (a1 : Int) (a2 : Int) (r : Int) (w : World) (h : fix_Mul.f k a0 a1 a2 = some r) :
  Calls Try.prog 27 #[.int .i64 a0, .int .i64 a1, .int .i64 a2] w fun e w' => e = .returned (.int .i64 r) ∧ Drawn0 w w' := by
 have H : ((fix_factor.f k a0).bind fun t102 => ((fix_factor.f k a1).bind fun t103 => (if a2 = 0 then (some (wrap64 (t102 * t103))) else (if a2 < 0 then (some 0) else (if a2 > 62 then (some 0) else (if 0 ≤ (wrap64 (a2 - 1)) then (if 0 ≤ a2 then (some (shr .i64 (wrap64 ((wrap64 (t102 * t103)) + (shl .i64 1 (wrap64 (a2 - 1))))) a2)) else (none)) else (none))))))) = some r := h
 clear h; replace H := Option.bind_eq_some_iff.mp H; obtain ⟨t102, A40, H⟩ := H
 replace H : ((fix_factor.f k a1).bind fun t103 => (if a2 = 0 then (some (wrap64 (t102 * t103))) else (if a2 < 0 then (some 0) else (if a2 > 62 then (some 0) else (if 0 ≤ (wrap64 (a2 - 1)) then (if 0 ≤ a2 then (some (shr .i64 (wrap64 ((wrap64 (t102 * t103)) + (shl .i64 1 (wrap64 (a2 - 1))))) a2)) else (none)) else (none)))))) = some r := H
 have A4 := Aside0.mk A40; clear A40; replace H := Option.bind_eq_some_iff.mp H; obtain ⟨t103, A50, H⟩ := H
 replace H : (if a2 = 0 then (some (wrap64 (t102 * t103))) else (if a2 < 0 then (some 0) else (if a2 > 62 then (some 0) else (if 0 ≤ (wrap64 (a2 - 1)) then (if 0 ≤ a2 then (some (shr .i64 (wrap64 ((wrap64 (t102 * t103)) + (shl .i64 1 (wrap64 (a2 - 1))))) a2)) else (none)) else (none))))) = some r := H
 have A5 := Aside0.mk A50; clear A50
 by_cases c6 : a2 = 0
 ·
  rw [if_pos c6] at H; have c6b0 : (a2 == 0) = true := beq_iff_eq.mpr c6; have c6b1 : (a2 != 0) = false := bne_eq_false_iff_eq.mpr c6; clear c6
  obtain rfl := Option.some.inj H
  go_enter Try.func27, Try.ntmps27
  go_wp2_with (first | ((with_reducible refine gate_callee (f := 40) rfl ?_); refine goesL_ (some 9) rfl rfl Try.func40 (by kernel_rfl) rfl #[.int .i64 a0] rfl (by (try simp only [List.map_toArray, List.map_cons, List.map_nil]); first | done | rfl | (simp only [List.length_drop, List.length_take]; rfl)) ?_; (with_reducible refine (fix_factor.calls k a0 t102 _ A4.out).mono ?_); rintro e w' ⟨rfl, ⟨nd, rfl⟩⟩; refine ⟨_, rfl, ?_⟩) | ((with_reducible refine gate_callee (f := 40) rfl ?_); refine goesL_ (some 11) rfl rfl Try.func40 (by kernel_rfl) rfl #[.int .i64 a1] rfl (by (try simp only [List.map_toArray, List.map_cons, List.map_nil]); first | done | rfl | (simp only [List.length_drop, List.length_take]; rfl)) ?_; (with_reducible refine (fix_factor.calls k a1 t103 _ A5.out).mono ?_); rintro e w' ⟨rfl, ⟨nd, rfl⟩⟩; refine ⟨_, rfl, ?_⟩))
  go_ret
  exact ⟨by first | rfl | (simp; done) | (simp [*]; done), by repeat (first | exact Drawn0.refl _ | apply Drawn0.step)⟩
 ·
  rw [if_neg c6] at H; have c6b0 : (a2 == 0) = false := beq_eq_false_iff_ne.mpr c6; have c6b1 : (a2 != 0) = true := bne_iff_ne.mpr c6
  by_cases c7 : a2 < 0
  ·
   rw [if_pos c7] at H; have c7b0 : decide (a2 < 0) = true := decide_eq_true c7; clear c7
   obtain rfl := Option.some.inj H
   go_enter Try.func27, Try.ntmps27
   go_wp2_with (first | ((with_reducible refine gate_callee (f := 40) rfl ?_); refine goesL_ (some 9) rfl rfl Try.func40 (by kernel_rfl) rfl #[.int .i64 a0] rfl (by (try simp only [List.map_toArray, List.map_cons, List.map_nil]); first | done | rfl | (simp only [List.length_drop, List.length_take]; rfl)) ?_; (with_reducible refine (fix_factor.calls k a0 t102 _ A4.out).mono ?_); rintro e w' ⟨rfl, ⟨nd, rfl⟩⟩; refine ⟨_, rfl, ?_⟩) | ((with_reducible refine gate_callee (f := 40) rfl ?_); refine goesL_ (some 11) rfl rfl Try.func40 (by kernel_rfl) rfl #[.int .i64 a1] rfl (by (try simp only [List.map_toArray, List.map_cons, List.map_nil]); first | done | rfl | (simp only [List.length_drop, List.length_take]; rfl)) ?_; (with_reducible refine (fix_factor.calls k a1 t103 _ A5.out).mono ?_); rintro e w' ⟨rfl, ⟨nd, rfl⟩⟩; refine ⟨_, rfl, ?_⟩))
   go_ret
   exact ⟨by first | rfl | (simp; done) | (simp [*]; done), by repeat (first | exact Drawn0.refl _ | apply Drawn0.step)⟩
  ·
   rw [if_neg c7] at H; have c7b0 : decide (a2 < 0) = false := decide_eq_false c7; clear c7
   by_cases c8 : a2 > 62
   ·
    rw [if_pos c8] at H; have c8b0 : decide (62 < a2) = true := decide_eq_true c8; clear c8
    obtain rfl := Option.some.inj H
    go_enter Try.func27, Try.ntmps27
    go_wp2_with (first | ((with_reducible refine gate_callee (f := 40) rfl ?_); refine goesL_ (some 9) rfl rfl Try.func40 (by kernel_rfl) rfl #[.int .i64 a0] rfl (by (try simp only [List.map_toArray, List.map_cons, List.map_nil]); first | done | rfl | (simp only [List.length_drop, List.length_take]; rfl)) ?_; (with_reducible refine (fix_factor.calls k a0 t102 _ A4.out).mono ?_); rintro e w' ⟨rfl, ⟨nd, rfl⟩⟩; refine ⟨_, rfl, ?_⟩) | ((with_reducible refine gate_callee (f := 40) rfl ?_); refine goesL_ (some 11) rfl rfl Try.func40 (by kernel_rfl) rfl #[.int .i64 a1] rfl (by (try simp only [List.map_toArray, List.map_cons, List.map_nil]); first | done | rfl | (simp only [List.length_drop, List.length_take]; rfl)) ?_; (with_reducible refine (fix_factor.calls k a1 t103 _ A5.out).mono ?_); rintro e w' ⟨rfl, ⟨nd, rfl⟩⟩; refine ⟨_, rfl, ?_⟩))
    go_ret
    exact ⟨by first | rfl | (simp; done) | (simp [*]; done), by repeat (first | exact Drawn0.refl _ | apply Drawn0.step)⟩
   ·
    rw [if_neg c8] at H; have c8b0 : decide (62 < a2) = false := decide_eq_false c8; clear c8
    obtain ⟨ji9, hji9⟩ : ∃ j_ : Int, (wrap64 (a2 - 1)) = j_ := ⟨_, rfl⟩
    replace H : (if 0 ≤ (ji9) then (if 0 ≤ a2 then (some (shr .i64 (wrap64 ((wrap64 (t102 * t103)) + (shl .i64 1 (ji9)))) a2)) else (none)) else (none)) = some r := by first | (rw [hji9] at H; exact H) | (simp only [hji9] at H ⊢; exact H)
    (try rw [hji9] at A4); (try rw [hji9] at A5)
    have hji9w : (IntKind.i64.wrap (a2 - 1)) = ji9 := (i64_w _).trans hji9
    by_cases c10 : 0 ≤ (ji9); rotate_left
    · rw [if_neg c10] at H; exact absurd H (by simp)
    rw [if_pos c10] at H; have c10b0 := eq_true c10; have c10b1 : decide (0 ≤ (ji9)) = true := decide_eq_true c10; clear c10
    obtain ⟨ji11, hji11⟩ : ∃ j_ : Int, (shl .i64 1 (ji9)) = j_ := ⟨_, rfl⟩
    replace H : (if 0 ≤ a2 then (some (shr .i64 (wrap64 ((wrap64 (t102 * t103)) + (ji11))) a2)) else (none)) = some r := by first | (rw [hji11] at H; exact H) | (simp only [hji11] at H ⊢; exact H)
    (try rw [hji11] at A4); (try rw [hji11] at A5)
    have hji11_ : (IntKind.i64.wrap (1 * 2 ^ min (ji9).toNat 64)) = ji11 := hji11
    have hji11z : (ji9) ≤ 64 → (IntKind.i64.wrap (1 * 2 ^ (ji9).toNat)) = ji11 := shl_small hji11
    have hji11u : (IntKind.i64.wrap (2 ^ min (ji9).toNat 64)) = ji11 := by have h_ := hji11_; rw [Int.one_mul] at h_; exact h_
    have hji11v : (ji9) ≤ 64 → (IntKind.i64.wrap (2 ^ (ji9).toNat)) = ji11 := fun hle_ => by have h_ := hji11z hle_; rw [Int.one_mul] at h_; exact h_
    have hji11y : (wrap64 (1 * 2 ^ min (ji9).toNat 64)) = ji11 := (i64_w _).symm.trans hji11_
    have hji11x : (ji9) ≤ 64 → (wrap64 (1 * 2 ^ (ji9).toNat)) = ji11 := fun h_ => (i64_w _).symm.trans (hji11z h_)
    by_cases c12 : 0 ≤ a2; rotate_left
    · rw [if_neg c12] at H; exact absurd H (by simp)
    rw [if_pos c12] at H; have c12b0 := eq_true c12; have c12b1 : decide (0 ≤ a2) = true := decide_eq_true c12; clear c12
    obtain ⟨ji13, hji13⟩ : ∃ j_ : Int, (shr .i64 (wrap64 ((wrap64 (t102 * t103)) + (ji11))) a2) = j_ := ⟨_, rfl⟩
    replace H : (some ji13) = some r := by first | (rw [hji13] at H; exact H) | (simp only [hji13] at H ⊢; exact H)
    (try rw [hji13] at A4); (try rw [hji13] at A5)
    have hji13_ : ((wrap64 ((wrap64 (t102 * t103)) + (ji11))) / 2 ^ min a2.toNat 64) = ji13 := hji13
    have hji13z : a2 ≤ 64 → ((wrap64 ((wrap64 (t102 * t103)) + (ji11))) / 2 ^ a2.toNat) = ji13 := shr_small hji13
    obtain rfl := Option.some.inj H
    go_enter Try.func27, Try.ntmps27
    go_wp2_with (first | ((with_reducible refine gate_callee (f := 40) rfl ?_); refine goesL_ (some 9) rfl rfl Try.func40 (by kernel_rfl) rfl #[.int .i64 a0] rfl (by (try simp only [List.map_toArray, List.map_cons, List.map_nil]); first | done | rfl | (simp only [List.length_drop, List.length_take]; rfl)) ?_; (with_reducible refine (fix_factor.calls k a0 t102 _ A4.out).mono ?_); rintro e w' ⟨rfl, ⟨nd, rfl⟩⟩; refine ⟨_, rfl, ?_⟩) | ((with_reducible refine gate_callee (f := 40) rfl ?_); refine goesL_ (some 11) rfl rfl Try.func40 (by kernel_rfl) rfl #[.int .i64 a1] rfl (by (try simp only [List.map_toArray, List.map_cons, List.map_nil]); first | done | rfl | (simp only [List.length_drop, List.length_take]; rfl)) ?_; (with_reducible refine (fix_factor.calls k a1 t103 _ A5.out).mono ?_); rintro e w' ⟨rfl, ⟨nd, rfl⟩⟩; refine ⟨_, rfl, ?_⟩))
    go_ret
    exact ⟨by first | rfl | (simp; done) | (simp only [← hji9, ← hji11, ← hji13] <;> (first | rfl | simp)) | (simp [*]; done), by repeat (first | exact Drawn0.refl _ | apply Drawn0.step)⟩

/-! ### fix_series: function 44 -/
def fix_series.l0 : Nat → Int → Int → List Int → Int → Int → Option (Int)
 | 0, _, _, _, _, _ => none
 | k + 1, x0, x5, x12, x13, x14 => if x14 < x13 then (if 0 ≤ x14 then (if x14 < (x12.length : Int) then ((fix_Mul.f k x0 x5 30).bind fun t107 => (fix_series.l0 k x0 (wrap64 ((rd x12 x14) + t107)) x12 x13 (wrap64 (x14 + 1)))) else (none)) else (none)) else (some x5)
def fix_series.f (k : Nat) (a0 : Int) (l1 : List Int) : Option (Int) := if 0 < (l1.length : Int) then (if 1 ≤ (l1.length : Int) then (fix_series.l0 k a0 (rd l1 0) (l1.drop 1) ((l1.drop 1).length : Int) 0) else (none)) else (none)
set_option maxHeartbeats 8000000 in
set_option maxRecDepth 100000 in
theorem fix_series.calls (k : Nat) (a0 : Int) (A1 : Option Addr) (c1 : Nat) (l1 : List Int) (r : Int) (w : World) (hr1 : Kd.C (Kd.int .i64) w A1 l1.length l1) (hc1 : l1.length ≤ c1) (h : fix_series.f k a0 l1 = some r) :
  Calls Try.prog 44 #[.int .i64 a0, .slice A1 l1.length c1] w fun e w' => e = .returned (.int .i64 r) ∧ Drawn0 w w' := by
 have HR1 := Aside0.mk hr1; have HC1 := Aside0.mk hc1; clear hr1 hc1
 have H : (if 0 < (l1.length : Int) then (if 1 ≤ (l1.length : Int) then (fix_series.l0 k a0 (rd l1 0) (l1.drop 1) ((l1.drop 1).length : Int) 0) else (none)) else (none)) = some r := h
 clear h
 by_cases c3 : 0 < (l1.length : Int); rotate_left
 · rw [if_neg c3] at H; exact absurd H (by simp)
 rw [if_pos c3] at H; have c3b0 : decide (0 < (l1.length : Int)) = true := decide_eq_true c3; have c3b1 : decide (0 < l1.length) = true := decide_eq_true (by omega); clear c3
 by_cases c4 : 1 ≤ (l1.length : Int); rotate_left
 · rw [if_neg c4] at H; exact absurd H (by simp)
 rw [if_pos c4] at H; have c4b0 := eq_true c4; have c4b1 : decide (1 ≤ (l1.length : Int)) = true := decide_eq_true c4; clear c4; have H' := Aside0.mk H; clear H
 have p104 : 0 ≤ (0 : Int) := (by omega)
 have q104 : 0 < (l1.length : Int) := of_decide_eq_true (by first | (with_reducible assumption) | assumption)
 obtain ⟨ad104, e104, hx104_0⟩ := Kd.at_int HR1.out 0 p104 q104
 cases e104
 have qi104 : (0 < l1.length) = True := eq_true (by omega)
 (try rw [show ((0 : Int)).toNat = 0 from rfl] at hx104_0); (try rw [Addr.add_zero'] at hx104_0); replace p104 := eq_true p104; replace q104 := eq_true q104
 obtain ⟨i05, hi05, _, hsz5, _⟩ := info_parts info2
 obtain ⟨A5, hcut5, hA5, hC5⟩ := print_drop_of (P := Try.prog) (Value.int .i64) 0 23 2 .i64 Try.underlying23 hi05 hsz5 (some ad104) c1 l1 1 (by omega) (of_decide_eq_true (by first | (with_reducible assumption) | assumption)) HC1.out
 have HR105 := Aside0.mk (Kd.C_of_reads (h1 := fun _ => rfl) (hA5 _ (Kd.reads_of_C HR1.out)))
 have HC105 := Aside0.mk hC5; clear hA5 hC5 hi05 hsz5
 go_enter Try.func44, Try.ntmps44
 go_wp2
 go_loopg [5, 14] k (fun kq v5 v14 w' => ∃ (x5_1 : Int) (x14_1 : Int), v5 = .int .i64 x5_1 ∧ v14 = .int .i64 x14_1 ∧ Aside0 (fix_series.l0 kq a0 x5_1 (l1.drop 1) ((l1.drop 1).length : Int) x14_1 = some r) ∧ Aside0 (kq ≤ k) ∧ Drawn0 w w')
 case atStart => exact ⟨(rd l1 0), (0), (by first | rfl | (simp; done) | (simp [*]; done)), (by first | rfl | (simp; done) | (simp [*]; done)), H', ⟨Nat.le_refl _⟩, by repeat (first | exact Drawn0.refl _ | apply Drawn0.step)⟩
 case round =>
  clear H'
  (try clear c1); (try clear p1); (try clear q1); (try clear hx1); (try clear qi1); (try clear p2); (try clear c3); (try clear c3b0); (try clear c3b0z0); (try clear c3b1); (try clear c3b1z0); (try clear c4); (try clear c4b0); (try clear c4b0z0); (try clear c4b1); (try clear c4b1z0); (try clear hx104_0); (try clear p104); (try clear q104)
  obtain ⟨x5_1, x14_1, rfl, rfl, HA, HK1, ⟨m1, rfl⟩⟩ := hrel
  cases gk with
  | zero => exact absurd HA.out (by simp [fix_series.l0])
  | succ k1 =>
   have H := HA.out; clear HA
   simp only [fix_series.l0] at H
   by_cases c6 : x14_1 < ((l1.drop 1).length : Int)
   ·
    rw [if_pos c6] at H; have c6b0 : decide (x14_1 < ((l1.drop 1).length : Int)) = true := decide_eq_true c6
    (try (have c6b0s := c6b0; simp only [List.length_drop] at c6b0s))
    clear c6
    by_cases c7 : 0 ≤ x14_1; rotate_left
    · rw [if_neg c7] at H; exact absurd H (by simp)
    rw [if_pos c7] at H; have c7b0 : decide (0 ≤ x14_1) = true := decide_eq_true c7; clear c7
    by_cases c8 : x14_1 < ((l1.drop 1).length : Int); rotate_left
    · rw [if_neg c8] at H; exact absurd H (by simp)
    rw [if_pos c8] at H; have c8b0 : decide (x14_1 < ((l1.drop 1).length : Int)) = true := decide_eq_true c8
    (try (have c8b0s := c8b0; simp only [List.length_drop] at c8b0s))
    clear c8; replace H := Option.bind_eq_some_iff.mp H; obtain ⟨t107, A90, H⟩ := H
    replace H : (fix_series.l0 k1 a0 (wrap64 ((rd (l1.drop 1) x14_1) + t107)) (l1.drop 1) ((l1.drop 1).length : Int) (wrap64 (x14_1 + 1))) = some r := H
    have A9 := Aside0.mk A90; clear A90; have H' := Aside0.mk H; clear H; have p106 : 0 ≤ (x14_1 : Int) := of_decide_eq_true (by first | (with_reducible assumption) | assumption); have q106 : x14_1 < ((l1.drop 1).length : Int) := of_decide_eq_true (by first | (with_reducible assumption) | assumption)
    obtain ⟨ad106, e106, hx106_0⟩ := Kd.at_int HR105.out x14_1 p106 q106
    cases e106; replace p106 := eq_true p106; replace q106 := eq_true q106
    (try (have q106s := q106; simp only [List.length_drop, eq_self_iff_true] at q106s))
    go_wp2_with (first | ((with_reducible refine gate_callee (f := 27) rfl ?_); refine goesL_ (some 21) rfl rfl Try.func27 (by kernel_rfl) rfl #[.int .i64 a0, .int .i64 x5_1, .int .i64 30] rfl (by (try simp only [List.map_toArray, List.map_cons, List.map_nil]); first | done | rfl | (simp only [List.length_drop, List.length_take]; rfl)) ?_; (with_reducible refine (fix_Mul.calls k1 a0 x5_1 30 t107 _ A9.out).mono ?_); rintro e w' ⟨rfl, ⟨nd, rfl⟩⟩; refine ⟨_, rfl, ?_⟩))
    go_roundg k1
    case measure => have := HK1.out; omega
    case rel => exact ⟨(wrap64 ((rd (l1.drop 1) x14_1) + t107)), (wrap64 (x14_1 + 1)), (by first | rfl | (simp; done) | (simp [*]; done)), (by first | rfl | (simp; done) | (simp [*]; done)), H', ⟨by have := HK1.out; omega⟩, by repeat (first | exact Drawn0.refl _ | apply Drawn0.step)⟩
   ·
    rw [if_neg c6] at H; have c6b0 : decide (x14_1 < ((l1.drop 1).length : Int)) = false := decide_eq_false c6
    (try (have c6b0s := c6b0; simp only [List.length_drop] at c6b0s))
    clear c6
    obtain rfl := Option.some.inj H
    go_wp2
    go_ret
    exact ⟨by first | rfl | (simp; done) | (simp [*]; done), by repeat (first | exact Drawn0.refl _ | apply Drawn0.step)⟩

/-! ### fix_Cos: function 41 -/
def fix_Cos.j0 : Nat → Int → Option (Int)
 | 0, _ => none
 | k + 1, x0 => if x0 > 16384 then (if (wrap64 (32768 - x0)) ≤ 8192 then ((fix_Mul.f k (wrap64 (32768 - x0)) 1686629713 14).bind fun t108 => ((fix_Mul.f k t108 t108 30).bind fun t109 => ((fix_series.f k t109 (([(-296), 26631, (-1491308), 44739243, (-536870912), 1073741824] : List Int))).bind fun t113 => ((fix_Mul.f k t113 1 15).bind fun t114 => (some (wrap64 (-t114))))))) else ((fix_Mul.f k (wrap64 (16384 - (wrap64 (32768 - x0)))) 1686629713 14).bind fun t115 => ((fix_Mul.f k t115 t115 30).bind fun t116 => ((fix_series.f k t116 (([2959, (-213044), 8947849, (-178956971), 1073741824] : List Int))).bind fun t120 => ((fix_Mul.f k t115 t120 30).bind fun t121 => ((fix_Mul.f k t121 1 15).bind fun t122 => (some (wrap64 (-t122))))))))) else (if x0 ≤ 8192 then ((fix_Mul.f k x0 1686629713 14).bind fun t123 => ((fix_Mul.f k t123 t123 30).bind fun t124 => ((fix_series.f k t124 (([(-296), 26631, (-1491308), 44739243, (-536870912), 1073741824] : List Int))).bind fun t128 => ((fix_Mul.f k t128 1 15).bind fun t129 => (some t129))))) else ((fix_Mul.f k (wrap64 (16384 - x0)) 1686629713 14).bind fun t130 => ((fix_Mul.f k t130 t130 30).bind fun t131 => ((fix_series.f k t131 (([2959, (-213044), 8947849, (-178956971), 1073741824] : List Int))).bind fun t135 => ((fix_Mul.f k t130 t135 30).bind fun t136 => ((fix_Mul.f k t136 1 15).bind fun t137 => (some t137)))))))
def fix_Cos.f (k : Nat) (a0 : Int) : Option (Int) := if (Go.bits .and .i64 a0 65535) > 32768 then (fix_Cos.j0 k (wrap64 (65536 - (Go.bits .and .i64 a0 65535)))) else (fix_Cos.j0 k (Go.bits .and .i64 a0 65535))
set_option maxHeartbeats 8000000 in
set_option maxRecDepth 100000 in
theorem fix_Cos.calls (k : Nat) (a0 : Int) (r : Int) (w : World) (h : fix_Cos.f k a0 = some r) :
  Calls Try.prog 41 #[.int .i64 a0] w fun e w' => e = .returned (.int .i64 r) ∧ Below w.heap.size w w' := by
 have HB := Aside0.mk (Below.refl w.heap.size w)
 have H : (if (Go.bits .and .i64 a0 65535) > 32768 then (fix_Cos.j0 k (wrap64 (65536 - (Go.bits .and .i64 a0 65535)))) else (fix_Cos.j0 k (Go.bits .and .i64 a0 65535))) = some r := h
 clear h; have HC2 := Aside0.mk H; clear H
 go_enter Try.func41, Try.ntmps41
 go_upto_if 10 with (fail)
 go_cut [0] (fun v0 wc => ∃ (kq : Nat) (x0_1 : Int), v0 = .int .i64 x0_1 ∧ Aside0 (fix_Cos.j0 kq x0_1 = some r) ∧ Aside0 (kq ≤ k) ∧ Aside0 (Below w.heap.size w wc))
 case first =>
  have H := HC2.out; clear HC2
  by_cases c3 : (Go.bits .and .i64 a0 65535) > 32768
  ·
   rw [if_pos c3] at H; have c3b0 : decide (32768 < (Go.bits .and .i64 a0 65535)) = true := decide_eq_true c3; clear c3
   (first | rw [c3b0] | (simp only [i64_w, i32_w]; rw [c3b0]) | skip)
   have H' := Aside0.mk H; clear H
   go_wp2
   go_meet
   case rel => exact ⟨_, (wrap64 (65536 - (Go.bits .and .i64 a0 65535))), (by first | rfl | (simp; done) | (simp [*]; done)), H', ⟨by first | omega | exact Nat.le_refl _⟩, ⟨by repeat (with_reducible first | exact HB.out | apply below_alloc | apply pw_below_drewN | apply below_drew1)⟩⟩
  ·
   rw [if_neg c3] at H; have c3b0 : decide (32768 < (Go.bits .and .i64 a0 65535)) = false := decide_eq_false c3; clear c3
   (first | rw [c3b0] | (simp only [i64_w, i32_w]; rw [c3b0]) | skip)
   have H' := Aside0.mk H; clear H
   go_wp2
   go_meet
   case rel => exact ⟨_, (Go.bits .and .i64 a0 65535), (by first | rfl | (simp; done) | (simp [*]; done)), H', ⟨by first | omega | exact Nat.le_refl _⟩, ⟨by repeat (with_reducible first | exact HB.out | apply below_alloc | apply pw_below_drewN | apply below_drew1)⟩⟩
 case rest =>
  clear HC2; (try clear p2); (try clear c3); (try clear c3b0); (try clear c3b0z0)
  obtain ⟨kq, x0_1, rfl, HA, HJ1, HB⟩ := hcut
  cases kq with
  | zero => exact absurd HA.out (by simp [fix_Cos.j0])
  | succ kj1 =>
   have H := HA.out; clear HA
   simp only [fix_Cos.j0] at H
   by_cases c4 : x0_1 > 16384
   ·
    rw [if_pos c4] at H; have c4b0 : decide (16384 < x0_1) = true := decide_eq_true c4; clear c4
    by_cases c5 : (wrap64 (32768 - x0_1)) ≤ 8192
    ·
     rw [if_pos c5] at H; have c5b0 : decide ((wrap64 (32768 - x0_1)) ≤ 8192) = true := decide_eq_true c5; clear c5; replace H := Option.bind_eq_some_iff.mp H; obtain ⟨t108, A60, H⟩ := H
     replace H : ((fix_Mul.f kj1 t108 t108 30).bind fun t109 => ((fix_series.f kj1 t109 (([(-296), 26631, (-1491308), 44739243, (-536870912), 1073741824] : List Int))).bind fun t113 => ((fix_Mul.f kj1 t113 1 15).bind fun t114 => (some (wrap64 (-t114)))))) = some r := H
     have A6 := Aside0.mk A60; clear A60; replace H := Option.bind_eq_some_iff.mp H; obtain ⟨t109, A70, H⟩ := H
     replace H : ((fix_series.f kj1 t109 (([(-296), 26631, (-1491308), 44739243, (-536870912), 1073741824] : List Int))).bind fun t113 => ((fix_Mul.f kj1 t113 1 15).bind fun t114 => (some (wrap64 (-t114))))) = some r := H
     have A7 := Aside0.mk A70; clear A70
     obtain ⟨y110, hy110⟩ : ∃ y_ : List Int, y_ = (([(-296), 26631, (-1491308), 44739243, (-536870912), 1073741824] : List Int)) := ⟨_, rfl⟩
     replace H : ((fix_series.f kj1 t109 y110).bind fun t113 => ((fix_Mul.f kj1 t113 1 15).bind fun t114 => (some (wrap64 (-t114))))) = some r := by first | (rw [hy110]; with_reducible exact H) | (have H2_ := (Option.bind_some _ _).symm.trans H; rw [hy110]; with_reducible exact H2_) | (have H2_ := (Option.bind_some _ _).symm.trans H; with_reducible exact H2_) | with_reducible exact H | (rw [hy110]; exact H) | exact H
     have Ny110 := Aside0.mk hy110; clear hy110; replace H := Option.bind_eq_some_iff.mp H; obtain ⟨t113, A80, H⟩ := H
     replace H : ((fix_Mul.f kj1 t113 1 15).bind fun t114 => (some (wrap64 (-t114)))) = some r := H
     have A8 := Aside0.mk A80; clear A80; replace H := Option.bind_eq_some_iff.mp H; obtain ⟨t114, A90, H⟩ := H
     replace H : (some (wrap64 (-t114))) = some r := H
     have A9 := Aside0.mk A90; clear A90
     obtain rfl := Option.some.inj H
     go_wp2_with (first | ((with_reducible refine gate_callee (f := 27) rfl ?_); refine goesL_ (some 21) rfl rfl Try.func27 (by kernel_rfl) rfl #[.int .i64 (wrap64 (32768 - x0_1)), .int .i64 1686629713, .int .i64 14] rfl (by (try simp only [List.map_toArray, List.map_cons, List.map_nil]); first | done | rfl | (simp only [List.length_drop, List.length_take]; rfl)) ?_; (with_reducible refine (fix_Mul.calls kj1 (wrap64 (32768 - x0_1)) 1686629713 14 t108 _ A6.out).mono ?_); rintro e w' ⟨rfl, ⟨nd, rfl⟩⟩; refine ⟨_, rfl, ?_⟩) | ((with_reducible refine gate_callee (f := 27) rfl ?_); refine goesL_ (some 24) rfl rfl Try.func27 (by kernel_rfl) rfl #[.int .i64 t108, .int .i64 t108, .int .i64 30] rfl (by (try simp only [List.map_toArray, List.map_cons, List.map_nil]); first | done | rfl | (simp only [List.length_drop, List.length_take]; rfl)) ?_; (with_reducible refine (fix_Mul.calls kj1 t108 t108 30 t109 _ A7.out).mono ?_); rintro e w' ⟨rfl, ⟨nd, rfl⟩⟩; refine ⟨_, rfl, ?_⟩) | ((with_reducible refine gate_dst (N := 25) rfl ?_); refine Kd.R_lit (Kd.int .i64) _ 2 ?hg (N := 25) ?hd (xs := ([(-296), 26631, (-1491308), 44739243, (-536870912), 1073741824] : List Int)) (inner := [.int .i64 (-296), .int .i64 26631, .int .i64 (-1491308), .int .i64 44739243, .int .i64 (-536870912), .int .i64 1073741824]) (ok := fun _ => True) (okp := fun _ => True) ?hr ?hp (fun _ hk => hk) trivial (Below.refl _ _) (Nat.le_refl _) (by simp) ?_; (case hd => rfl); (case hg => rfl); (case hr => first | (go_simp; done) | (go_simp; rfl)); (case hp => exact (Reps.one (show Kd.M (Kd.int .i64) _ _ _ (-296) [.int .i64 (-296)] from rfl) (Reps.one (show Kd.M (Kd.int .i64) _ _ _ 26631 [.int .i64 26631] from rfl) (Reps.one (show Kd.M (Kd.int .i64) _ _ _ (-1491308) [.int .i64 (-1491308)] from rfl) (Reps.one (show Kd.M (Kd.int .i64) _ _ _ 44739243 [.int .i64 44739243] from rfl) (Reps.one (show Kd.M (Kd.int .i64) _ _ _ (-536870912) [.int .i64 (-536870912)] from rfl) (Reps.one (show Kd.M (Kd.int .i64) _ _ _ 1073741824 [.int .i64 1073741824] from rfl) (Reps.none _ _)))))))); intro v111 w10 ho11 hb hg_ hnew_; clear hg_ hnew_; (first | rw [← Ny110.out] at ho11 | (simp only [Int.reduceToNat] at ho11; rw [← Ny110.out] at ho11)); have n0_ := Aside0.mk (Kd.R_lower ho11 (below_size (by repeat (with_reducible first | exact HB.out | apply below_alloc | apply pw_below_drewN | apply below_drew1)))); have n1_ := Aside0.mk (below_step (by repeat (with_reducible first | exact HB.out | apply below_alloc | apply pw_below_drewN | apply below_drew1)) hb); clear HB; have HO112 := n0_; have HB := n1_; clear n0_ n1_; clear hb ho11; obtain ⟨Ao12, co12, eo12⟩ := Kd.R_slice HO112.out; subst eo12) | ((with_reducible refine gate_callee (f := 44) rfl ?_); refine goesL_ (some 26) rfl rfl Try.func44 (by kernel_rfl) rfl #[.int .i64 t109, .slice Ao12 y110.length co12] rfl (by (try simp only [List.map_toArray, List.map_cons, List.map_nil]); first | done | rfl | (simp only [List.length_drop, List.length_take]; rfl)) ?_; (with_reducible refine (fix_series.calls kj1 t109 _ _ y110 t113 _ ?side1 ?side2 A8.out).mono ?_); (case side1 => repeat (first | exact (Kd.R_reads' HO112.out).2.2 | (with_reducible refine Kd.C_alloc ?_ _) | (with_reducible refine Kd.C_drewN ?_ _) | (with_reducible refine Kd.C_drew ?_))); (case side2 => exact (Kd.R_reads' HO112.out).2.1); rintro e w' ⟨rfl, ⟨nd, rfl⟩⟩; refine ⟨_, rfl, ?_⟩) | ((with_reducible refine gate_callee (f := 27) rfl ?_); refine goesL_ (some 38) rfl rfl Try.func27 (by kernel_rfl) rfl #[.int .i64 t113, .int .i64 1, .int .i64 15] rfl (by (try simp only [List.map_toArray, List.map_cons, List.map_nil]); first | done | rfl | (simp only [List.length_drop, List.length_take]; rfl)) ?_; (with_reducible refine (fix_Mul.calls kj1 t113 1 15 t114 _ A9.out).mono ?_); rintro e w' ⟨rfl, ⟨nd, rfl⟩⟩; refine ⟨_, rfl, ?_⟩))
     go_ret
     exact ⟨by first | rfl | (simp [errW_none, errW_some] <;> rfl) | (simp [*, errW_none, errW_some] <;> rfl), by repeat (with_reducible first | exact HB.out | apply below_alloc | apply pw_below_drewN | apply below_drew1)⟩
    ·
     rw [if_neg c5] at H; have c5b0 : decide ((wrap64 (32768 - x0_1)) ≤ 8192) = false := decide_eq_false c5; clear c5; replace H := Option.bind_eq_some_iff.mp H; obtain ⟨t115, A130, H⟩ := H
     replace H : ((fix_Mul.f kj1 t115 t115 30).bind fun t116 => ((fix_series.f kj1 t116 (([2959, (-213044), 8947849, (-178956971), 1073741824] : List Int))).bind fun t120 => ((fix_Mul.f kj1 t115 t120 30).bind fun t121 => ((fix_Mul.f kj1 t121 1 15).bind fun t122 => (some (wrap64 (-t122))))))) = some r := H
     have A13 := Aside0.mk A130; clear A130; replace H := Option.bind_eq_some_iff.mp H; obtain ⟨t116, A140, H⟩ := H
     replace H : ((fix_series.f kj1 t116 (([2959, (-213044), 8947849, (-178956971), 1073741824] : List Int))).bind fun t120 => ((fix_Mul.f kj1 t115 t120 30).bind fun t121 => ((fix_Mul.f kj1 t121 1 15).bind fun t122 => (some (wrap64 (-t122)))))) = some r := H
     have A14 := Aside0.mk A140; clear A140
     obtain ⟨y117, hy117⟩ : ∃ y_ : List Int, y_ = (([2959, (-213044), 8947849, (-178956971), 1073741824] : List Int)) := ⟨_, rfl⟩
     replace H : ((fix_series.f kj1 t116 y117).bind fun t120 => ((fix_Mul.f kj1 t115 t120 30).bind fun t121 => ((fix_Mul.f kj1 t121 1 15).bind fun t122 => (some (wrap64 (-t122)))))) = some r := by first | (rw [hy117]; with_reducible exact H) | (have H2_ := (Option.bind_some _ _).symm.trans H; rw [hy117]; with_reducible exact H2_) | (have H2_ := (Option.bind_some _ _).symm.trans H; with_reducible exact H2_) | with_reducible exact H | (rw [hy117]; exact H) | exact H
     have Ny117 := Aside0.mk hy117; clear hy117; replace H := Option.bind_eq_some_iff.mp H; obtain ⟨t120, A150, H⟩ := H
     replace H : ((fix_Mul.f kj1 t115 t120 30).bind fun t121 => ((fix_Mul.f kj1 t121 1 15).bind fun t122 => (some (wrap64 (-t122))))) = some r := H
     have A15 := Aside0.mk A150; clear A150; replace H := Option.bind_eq_some_iff.mp H; obtain ⟨t121, A160, H⟩ := H
     replace H : ((fix_Mul.f kj1 t121 1 15).bind fun t122 => (some (wrap64 (-t122)))) = some r := H
     have A16 := Aside0.mk A160; clear A160; replace H := Option.bind_eq_some_iff.mp H; obtain ⟨t122, A170, H⟩ := H
     replace H : (some (wrap64 (-t122))) = some r := H
     have A17 := Aside0.mk A170; clear A170
     obtain rfl := Option.some.inj H
     go_wp2_with (first | ((with_reducible refine gate_callee (f := 27) rfl ?_); refine goesL_ (some 29) rfl rfl Try.func27 (by kernel_rfl) rfl #[.int .i64 (wrap64 (16384 - (wrap64 (32768 - x0_1)))), .int .i64 1686629713, .int .i64 14] rfl (by (try simp only [List.map_toArray, List.map_cons, List.map_nil]); first | done | rfl | (simp only [List.length_drop, List.length_take]; rfl)) ?_; (with_reducible refine (fix_Mul.calls kj1 (wrap64 (16384 - (wrap64 (32768 - x0_1)))) 1686629713 14 t115 _ A13.out).mono ?_); rintro e w' ⟨rfl, ⟨nd, rfl⟩⟩; refine ⟨_, rfl, ?_⟩) | ((with_reducible refine gate_callee (f := 27) rfl ?_); refine goesL_ (some 33) rfl rfl Try.func27 (by kernel_rfl) rfl #[.int .i64 t115, .int .i64 t115, .int .i64 30] rfl (by (try simp only [List.map_toArray, List.map_cons, List.map_nil]); first | done | rfl | (simp only [List.length_drop, List.length_take]; rfl)) ?_; (with_reducible refine (fix_Mul.calls kj1 t115 t115 30 t116 _ A14.out).mono ?_); rintro e w' ⟨rfl, ⟨nd, rfl⟩⟩; refine ⟨_, rfl, ?_⟩) | ((with_reducible refine gate_dst (N := 34) rfl ?_); refine Kd.R_lit (Kd.int .i64) _ 2 ?hg (N := 34) ?hd (xs := ([2959, (-213044), 8947849, (-178956971), 1073741824] : List Int)) (inner := [.int .i64 2959, .int .i64 (-213044), .int .i64 8947849, .int .i64 (-178956971), .int .i64 1073741824]) (ok := fun _ => True) (okp := fun _ => True) ?hr ?hp (fun _ hk => hk) trivial (Below.refl _ _) (Nat.le_refl _) (by simp) ?_; (case hd => rfl); (case hg => rfl); (case hr => first | (go_simp; done) | (go_simp; rfl)); (case hp => exact (Reps.one (show Kd.M (Kd.int .i64) _ _ _ 2959 [.int .i64 2959] from rfl) (Reps.one (show Kd.M (Kd.int .i64) _ _ _ (-213044) [.int .i64 (-213044)] from rfl) (Reps.one (show Kd.M (Kd.int .i64) _ _ _ 8947849 [.int .i64 8947849] from rfl) (Reps.one (show Kd.M (Kd.int .i64) _ _ _ (-178956971) [.int .i64 (-178956971)] from rfl) (Reps.one (show Kd.M (Kd.int .i64) _ _ _ 1073741824 [.int .i64 1073741824] from rfl) (Reps.none _ _))))))); intro v118 w18 ho19 hb hg_ hnew_; clear hg_ hnew_; (first | rw [← Ny117.out] at ho19 | (simp only [Int.reduceToNat] at ho19; rw [← Ny117.out] at ho19)); have n0_ := Aside0.mk (Kd.R_lower ho19 (below_size (by repeat (with_reducible first | exact HB.out | apply below_alloc | apply pw_below_drewN | apply below_drew1)))); have n1_ := Aside0.mk (below_step (by repeat (with_reducible first | exact HB.out | apply below_alloc | apply pw_below_drewN | apply below_drew1)) hb); clear HB; have HO119 := n0_; have HB := n1_; clear n0_ n1_; clear hb ho19; obtain ⟨Ao20, co20, eo20⟩ := Kd.R_slice HO119.out; subst eo20) | ((with_reducible refine gate_callee (f := 44) rfl ?_); refine goesL_ (some 35) rfl rfl Try.func44 (by kernel_rfl) rfl #[.int .i64 t116, .slice Ao20 y117.length co20] rfl (by (try simp only [List.map_toArray, List.map_cons, List.map_nil]); first | done | rfl | (simp only [List.length_drop, List.length_take]; rfl)) ?_; (with_reducible refine (fix_series.calls kj1 t116 _ _ y117 t120 _ ?side1 ?side2 A15.out).mono ?_); (case side1 => repeat (first | exact (Kd.R_reads' HO119.out).2.2 | (with_reducible refine Kd.C_alloc ?_ _) | (with_reducible refine Kd.C_drewN ?_ _) | (with_reducible refine Kd.C_drew ?_))); (case side2 => exact (Kd.R_reads' HO119.out).2.1); rintro e w' ⟨rfl, ⟨nd, rfl⟩⟩; refine ⟨_, rfl, ?_⟩) | ((with_reducible refine gate_callee (f := 27) rfl ?_); refine goesL_ (some 36) rfl rfl Try.func27 (by kernel_rfl) rfl #[.int .i64 t115, .int .i64 t120, .int .i64 30] rfl (by (try simp only [List.map_toArray, List.map_cons, List.map_nil]); first | done | rfl | (simp only [List.length_drop, List.length_take]; rfl)) ?_; (with_reducible refine (fix_Mul.calls kj1 t115 t120 30 t121 _ A16.out).mono ?_); rintro e w' ⟨rfl, ⟨nd, rfl⟩⟩; refine ⟨_, rfl, ?_⟩) | ((with_reducible refine gate_callee (f := 27) rfl ?_); refine goesL_ (some 38) rfl rfl Try.func27 (by kernel_rfl) rfl #[.int .i64 t121, .int .i64 1, .int .i64 15] rfl (by (try simp only [List.map_toArray, List.map_cons, List.map_nil]); first | done | rfl | (simp only [List.length_drop, List.length_take]; rfl)) ?_; (with_reducible refine (fix_Mul.calls kj1 t121 1 15 t122 _ A17.out).mono ?_); rintro e w' ⟨rfl, ⟨nd, rfl⟩⟩; refine ⟨_, rfl, ?_⟩))
     go_ret
     exact ⟨by first | rfl | (simp [errW_none, errW_some] <;> rfl) | (simp [*, errW_none, errW_some] <;> rfl), by repeat (with_reducible first | exact HB.out | apply below_alloc | apply pw_below_drewN | apply below_drew1)⟩
   ·
    rw [if_neg c4] at H; have c4b0 : decide (16384 < x0_1) = false := decide_eq_false c4; clear c4
    by_cases c21 : x0_1 ≤ 8192
    ·
     rw [if_pos c21] at H; have c21b0 : decide (x0_1 ≤ 8192) = true := decide_eq_true c21; clear c21; replace H := Option.bind_eq_some_iff.mp H; obtain ⟨t123, A220, H⟩ := H
     replace H : ((fix_Mul.f kj1 t123 t123 30).bind fun t124 => ((fix_series.f kj1 t124 (([(-296), 26631, (-1491308), 44739243, (-536870912), 1073741824] : List Int))).bind fun t128 => ((fix_Mul.f kj1 t128 1 15).bind fun t129 => (some t129)))) = some r := H
     have A22 := Aside0.mk A220; clear A220; replace H := Option.bind_eq_some_iff.mp H; obtain ⟨t124, A230, H⟩ := H
     replace H : ((fix_series.f kj1 t124 (([(-296), 26631, (-1491308), 44739243, (-536870912), 1073741824] : List Int))).bind fun t128 => ((fix_Mul.f kj1 t128 1 15).bind fun t129 => (some t129))) = some r := H
     have A23 := Aside0.mk A230; clear A230
     obtain ⟨y125, hy125⟩ : ∃ y_ : List Int, y_ = (([(-296), 26631, (-1491308), 44739243, (-536870912), 1073741824] : List Int)) := ⟨_, rfl⟩
     replace H : ((fix_series.f kj1 t124 y125).bind fun t128 => ((fix_Mul.f kj1 t128 1 15).bind fun t129 => (some t129))) = some r := by first | (rw [hy125]; with_reducible exact H) | (have H2_ := (Option.bind_some _ _).symm.trans H; rw [hy125]; with_reducible exact H2_) | (have H2_ := (Option.bind_some _ _).symm.trans H; with_reducible exact H2_) | with_reducible exact H | (rw [hy125]; exact H) | exact H
     have Ny125 := Aside0.mk hy125; clear hy125; replace H := Option.bind_eq_some_iff.mp H; obtain ⟨t128, A240, H⟩ := H
     replace H : ((fix_Mul.f kj1 t128 1 15).bind fun t129 => (some t129)) = some r := H
     have A24 := Aside0.mk A240; clear A240; replace H := Option.bind_eq_some_iff.mp H; obtain ⟨t129, A250, H⟩ := H
     replace H : (some t129) = some r := H
     have A25 := Aside0.mk A250; clear A250
     obtain rfl := Option.some.inj H
     go_wp2_with (first | ((with_reducible refine gate_callee (f := 27) rfl ?_); refine goesL_ (some 21) rfl rfl Try.func27 (by kernel_rfl) rfl #[.int .i64 x0_1, .int .i64 1686629713, .int .i64 14] rfl (by (try simp only [List.map_toArray, List.map_cons, List.map_nil]); first | done | rfl | (simp only [List.length_drop, List.length_take]; rfl)) ?_; (with_reducible refine (fix_Mul.calls kj1 x0_1 1686629713 14 t123 _ A22.out).mono ?_); rintro e w' ⟨rfl, ⟨nd, rfl⟩⟩; refine ⟨_, rfl, ?_⟩) | ((with_reducible refine gate_callee (f := 27) rfl ?_); refine goesL_ (some 24) rfl rfl Try.func27 (by kernel_rfl) rfl #[.int .i64 t123, .int .i64 t123, .int .i64 30] rfl (by (try simp only [List.map_toArray, List.map_cons, List.map_nil]); first | done | rfl | (simp only [List.length_drop, List.length_take]; rfl)) ?_; (with_reducible refine (fix_Mul.calls kj1 t123 t123 30 t124 _ A23.out).mono ?_); rintro e w' ⟨rfl, ⟨nd, rfl⟩⟩; refine ⟨_, rfl, ?_⟩) | ((with_reducible refine gate_dst (N := 25) rfl ?_); refine Kd.R_lit (Kd.int .i64) _ 2 ?hg (N := 25) ?hd (xs := ([(-296), 26631, (-1491308), 44739243, (-536870912), 1073741824] : List Int)) (inner := [.int .i64 (-296), .int .i64 26631, .int .i64 (-1491308), .int .i64 44739243, .int .i64 (-536870912), .int .i64 1073741824]) (ok := fun _ => True) (okp := fun _ => True) ?hr ?hp (fun _ hk => hk) trivial (Below.refl _ _) (Nat.le_refl _) (by simp) ?_; (case hd => rfl); (case hg => rfl); (case hr => first | (go_simp; done) | (go_simp; rfl)); (case hp => exact (Reps.one (show Kd.M (Kd.int .i64) _ _ _ (-296) [.int .i64 (-296)] from rfl) (Reps.one (show Kd.M (Kd.int .i64) _ _ _ 26631 [.int .i64 26631] from rfl) (Reps.one (show Kd.M (Kd.int .i64) _ _ _ (-1491308) [.int .i64 (-1491308)] from rfl) (Reps.one (show Kd.M (Kd.int .i64) _ _ _ 44739243 [.int .i64 44739243] from rfl) (Reps.one (show Kd.M (Kd.int .i64) _ _ _ (-536870912) [.int .i64 (-536870912)] from rfl) (Reps.one (show Kd.M (Kd.int .i64) _ _ _ 1073741824 [.int .i64 1073741824] from rfl) (Reps.none _ _)))))))); intro v126 w26 ho27 hb hg_ hnew_; clear hg_ hnew_; (first | rw [← Ny125.out] at ho27 | (simp only [Int.reduceToNat] at ho27; rw [← Ny125.out] at ho27)); have n0_ := Aside0.mk (Kd.R_lower ho27 (below_size (by repeat (with_reducible first | exact HB.out | apply below_alloc | apply pw_below_drewN | apply below_drew1)))); have n1_ := Aside0.mk (below_step (by repeat (with_reducible first | exact HB.out | apply below_alloc | apply pw_below_drewN | apply below_drew1)) hb); clear HB; have HO127 := n0_; have HB := n1_; clear n0_ n1_; clear hb ho27; obtain ⟨Ao28, co28, eo28⟩ := Kd.R_slice HO127.out; subst eo28) | ((with_reducible refine gate_callee (f := 44) rfl ?_); refine goesL_ (some 26) rfl rfl Try.func44 (by kernel_rfl) rfl #[.int .i64 t124, .slice Ao28 y125.length co28] rfl (by (try simp only [List.map_toArray, List.map_cons, List.map_nil]); first | done | rfl | (simp only [List.length_drop, List.length_take]; rfl)) ?_; (with_reducible refine (fix_series.calls kj1 t124 _ _ y125 t128 _ ?side1 ?side2 A24.out).mono ?_); (case side1 => repeat (first | exact (Kd.R_reads' HO127.out).2.2 | (with_reducible refine Kd.C_alloc ?_ _) | (with_reducible refine Kd.C_drewN ?_ _) | (with_reducible refine Kd.C_drew ?_))); (case side2 => exact (Kd.R_reads' HO127.out).2.1); rintro e w' ⟨rfl, ⟨nd, rfl⟩⟩; refine ⟨_, rfl, ?_⟩) | ((with_reducible refine gate_callee (f := 27) rfl ?_); refine goesL_ (some 38) rfl rfl Try.func27 (by kernel_rfl) rfl #[.int .i64 t128, .int .i64 1, .int .i64 15] rfl (by (try simp only [List.map_toArray, List.map_cons, List.map_nil]); first | done | rfl | (simp only [List.length_drop, List.length_take]; rfl)) ?_; (with_reducible refine (fix_Mul.calls kj1 t128 1 15 t129 _ A25.out).mono ?_); rintro e w' ⟨rfl, ⟨nd, rfl⟩⟩; refine ⟨_, rfl, ?_⟩))
     go_ret
     exact ⟨by first | rfl | (simp [errW_none, errW_some] <;> rfl) | (simp [*, errW_none, errW_some] <;> rfl), by repeat (with_reducible first | exact HB.out | apply below_alloc | apply pw_below_drewN | apply below_drew1)⟩
    ·
     rw [if_neg c21] at H; have c21b0 : decide (x0_1 ≤ 8192) = false := decide_eq_false c21; clear c21; replace H := Option.bind_eq_some_iff.mp H; obtain ⟨t130, A290, H⟩ := H
     replace H : ((fix_Mul.f kj1 t130 t130 30).bind fun t131 => ((fix_series.f kj1 t131 (([2959, (-213044), 8947849, (-178956971), 1073741824] : List Int))).bind fun t135 => ((fix_Mul.f kj1 t130 t135 30).bind fun t136 => ((fix_Mul.f kj1 t136 1 15).bind fun t137 => (some t137))))) = some r := H
     have A29 := Aside0.mk A290; clear A290; replace H := Option.bind_eq_some_iff.mp H; obtain ⟨t131, A300, H⟩ := H
     replace H : ((fix_series.f kj1 t131 (([2959, (-213044), 8947849, (-178956971), 1073741824] : List Int))).bind fun t135 => ((fix_Mul.f kj1 t130 t135 30).bind fun t136 => ((fix_Mul.f kj1 t136 1 15).bind fun t137 => (some t137)))) = some r := H
     have A30 := Aside0.mk A300; clear A300
     obtain ⟨y132, hy132⟩ : ∃ y_ : List Int, y_ = (([2959, (-213044), 8947849, (-178956971), 1073741824] : List Int)) := ⟨_, rfl⟩
     replace H : ((fix_series.f kj1 t131 y132).bind fun t135 => ((fix_Mul.f kj1 t130 t135 30).bind fun t136 => ((fix_Mul.f kj1 t136 1 15).bind fun t137 => (some t137)))) = some r := by first | (rw [hy132]; with_reducible exact H) | (have H2_ := (Option.bind_some _ _).symm.trans H; rw [hy132]; with_reducible exact H2_) | (have H2_ := (Option.bind_some _ _).symm.trans H; with_reducible exact H2_) | with_reducible exact H | (rw [hy132]; exact H) | exact H
     have Ny132 := Aside0.mk hy132; clear hy132; replace H := Option.bind_eq_some_iff.mp H; obtain ⟨t135, A310, H⟩ := H
     replace H : ((fix_Mul.f kj1 t130 t135 30).bind fun t136 => ((fix_Mul.f kj1 t136 1 15).bind fun t137 => (some t137))) = some r := H
     have A31 := Aside0.mk A310; clear A310; replace H := Option.bind_eq_some_iff.mp H; obtain ⟨t136, A320, H⟩ := H
     replace H : ((fix_Mul.f kj1 t136 1 15).bind fun t137 => (some t137)) = some r := H
     have A32 := Aside0.mk A320; clear A320; replace H := Option.bind_eq_some_iff.mp H; obtain ⟨t137, A330, H⟩ := H
     replace H : (some t137) = some r := H
     have A33 := Aside0.mk A330; clear A330
     obtain rfl := Option.some.inj H
     go_wp2_with (first | ((with_reducible refine gate_callee (f := 27) rfl ?_); refine goesL_ (some 29) rfl rfl Try.func27 (by kernel_rfl) rfl #[.int .i64 (wrap64 (16384 - x0_1)), .int .i64 1686629713, .int .i64 14] rfl (by (try simp only [List.map_toArray, List.map_cons, List.map_nil]); first | done | rfl | (simp only [List.length_drop, List.length_take]; rfl)) ?_; (with_reducible refine (fix_Mul.calls kj1 (wrap64 (16384 - x0_1)) 1686629713 14 t130 _ A29.out).mono ?_); rintro e w' ⟨rfl, ⟨nd, rfl⟩⟩; refine ⟨_, rfl, ?_⟩) | ((with_reducible refine gate_callee (f := 27) rfl ?_); refine goesL_ (some 33) rfl rfl Try.func27 (by kernel_rfl) rfl #[.int .i64 t130, .int .i64 t130, .int .i64 30] rfl (by (try simp only [List.map_toArray, List.map_cons, List.map_nil]); first | done | rfl | (simp only [List.length_drop, List.length_take]; rfl)) ?_; (with_reducible refine (fix_Mul.calls kj1 t130 t130 30 t131 _ A30.out).mono ?_); rintro e w' ⟨rfl, ⟨nd, rfl⟩⟩; refine ⟨_, rfl, ?_⟩) | ((with_reducible refine gate_dst (N := 34) rfl ?_); refine Kd.R_lit (Kd.int .i64) _ 2 ?hg (N := 34) ?hd (xs := ([2959, (-213044), 8947849, (-178956971), 1073741824] : List Int)) (inner := [.int .i64 2959, .int .i64 (-213044), .int .i64 8947849, .int .i64 (-178956971), .int .i64 1073741824]) (ok := fun _ => True) (okp := fun _ => True) ?hr ?hp (fun _ hk => hk) trivial (Below.refl _ _) (Nat.le_refl _) (by simp) ?_; (case hd => rfl); (case hg => rfl); (case hr => first | (go_simp; done) | (go_simp; rfl)); (case hp => exact (Reps.one (show Kd.M (Kd.int .i64) _ _ _ 2959 [.int .i64 2959] from rfl) (Reps.one (show Kd.M (Kd.int .i64) _ _ _ (-213044) [.int .i64 (-213044)] from rfl) (Reps.one (show Kd.M (Kd.int .i64) _ _ _ 8947849 [.int .i64 8947849] from rfl) (Reps.one (show Kd.M (Kd.int .i64) _ _ _ (-178956971) [.int .i64 (-178956971)] from rfl) (Reps.one (show Kd.M (Kd.int .i64) _ _ _ 1073741824 [.int .i64 1073741824] from rfl) (Reps.none _ _))))))); intro v133 w34 ho35 hb hg_ hnew_; clear hg_ hnew_; (first | rw [← Ny132.out] at ho35 | (simp only [Int.reduceToNat] at ho35; rw [← Ny132.out] at ho35)); have n0_ := Aside0.mk (Kd.R_lower ho35 (below_size (by repeat (with_reducible first | exact HB.out | apply below_alloc | apply pw_below_drewN | apply below_drew1)))); have n1_ := Aside0.mk (below_step (by repeat (with_reducible first | exact HB.out | apply below_alloc | apply pw_below_drewN | apply below_drew1)) hb); clear HB; have HO134 := n0_; have HB := n1_; clear n0_ n1_; clear hb ho35; obtain ⟨Ao36, co36, eo36⟩ := Kd.R_slice HO134.out; subst eo36) | ((with_reducible refine gate_callee (f := 44) rfl ?_); refine goesL_ (some 35) rfl rfl Try.func44 (by kernel_rfl) rfl #[.int .i64 t131, .slice Ao36 y132.length co36] rfl (by (try simp only [List.map_toArray, List.map_cons, List.map_nil]); first | done | rfl | (simp only [List.length_drop, List.length_take]; rfl)) ?_; (with_reducible refine (fix_series.calls kj1 t131 _ _ y132 t135 _ ?side1 ?side2 A31.out).mono ?_); (case side1 => repeat (first | exact (Kd.R_reads' HO134.out).2.2 | (with_reducible refine Kd.C_alloc ?_ _) | (with_reducible refine Kd.C_drewN ?_ _) | (with_reducible refine Kd.C_drew ?_))); (case side2 => exact (Kd.R_reads' HO134.out).2.1); rintro e w' ⟨rfl, ⟨nd, rfl⟩⟩; refine ⟨_, rfl, ?_⟩) | ((with_reducible refine gate_callee (f := 27) rfl ?_); refine goesL_ (some 36) rfl rfl Try.func27 (by kernel_rfl) rfl #[.int .i64 t130, .int .i64 t135, .int .i64 30] rfl (by (try simp only [List.map_toArray, List.map_cons, List.map_nil]); first | done | rfl | (simp only [List.length_drop, List.length_take]; rfl)) ?_; (with_reducible refine (fix_Mul.calls kj1 t130 t135 30 t136 _ A32.out).mono ?_); rintro e w' ⟨rfl, ⟨nd, rfl⟩⟩; refine ⟨_, rfl, ?_⟩) | ((with_reducible refine gate_callee (f := 27) rfl ?_); refine goesL_ (some 38) rfl rfl Try.func27 (by kernel_rfl) rfl #[.int .i64 t136, .int .i64 1, .int .i64 15] rfl (by (try simp only [List.map_toArray, List.map_cons, List.map_nil]); first | done | rfl | (simp only [List.length_drop, List.length_take]; rfl)) ?_; (with_reducible refine (fix_Mul.calls kj1 t136 1 15 t137 _ A33.out).mono ?_); rintro e w' ⟨rfl, ⟨nd, rfl⟩⟩; refine ⟨_, rfl, ?_⟩))
     go_ret
     exact ⟨by first | rfl | (simp [errW_none, errW_some] <;> rfl) | (simp [*, errW_none, errW_some] <;> rfl), by repeat (with_reducible first | exact HB.out | apply below_alloc | apply pw_below_drewN | apply below_drew1)⟩

/-! ### fix_Sin: function 39 -/
def fix_Sin.f (k : Nat) (a0 : Int) : Option (Int) := (fix_Cos.f k (wrap64 ((Go.bits .and .i64 a0 65535) - 16384))).bind fun t138 => (some t138)
set_option maxHeartbeats 8000000 in
set_option maxRecDepth 100000 in
theorem fix_Sin.calls (k : Nat) (a0 : Int) (r : Int) (w : World) (h : fix_Sin.f k a0 = some r) :
  Calls Try.prog 39 #[.int .i64 a0] w fun e w' => e = .returned (.int .i64 r) ∧ Below w.heap.size w w' := by
 have HB := Aside0.mk (Below.refl w.heap.size w)
 have H : ((fix_Cos.f k (wrap64 ((Go.bits .and .i64 a0 65535) - 16384))).bind fun t138 => (some t138)) = some r := h
 clear h; replace H := Option.bind_eq_some_iff.mp H; obtain ⟨t138, A20, H⟩ := H
 replace H : (some t138) = some r := H
 have A2 := Aside0.mk A20; clear A20
 obtain rfl := Option.some.inj H
 go_enter Try.func39, Try.ntmps39
 go_wp2_with (first | ((with_reducible refine gate_callee (f := 41) rfl ?_); refine goesL_ (some 6) rfl rfl Try.func41 (by kernel_rfl) rfl #[.int .i64 (wrap64 ((Go.bits .and .i64 a0 65535) - 16384))] rfl (by (try simp only [List.map_toArray, List.map_cons, List.map_nil]); first | done | rfl | (simp only [List.length_drop, List.length_take]; rfl)) ?_; (with_reducible refine (fix_Cos.calls k (wrap64 ((Go.bits .and .i64 a0 65535) - 16384)) t138 _ A2.out).mono ?_); rintro e w3 ⟨rfl, hb⟩; refine ⟨_, rfl, ?_⟩; have n0_ := Aside0.mk (below_step (by repeat (with_reducible first | exact HB.out | apply below_alloc | apply pw_below_drewN | apply below_drew1)) hb); clear HB; have HB := n0_; clear n0_; (try clear hb); (try clear hb2); (try clear hk); (try clear hi)))
 go_ret
 exact ⟨by first | rfl | (simp [errW_none, errW_some] <;> rfl) | (simp [*, errW_none, errW_some] <;> rfl), by repeat (with_reducible first | exact HB.out | apply below_alloc | apply pw_below_drewN | apply below_drew1)⟩

/-! ### tabs_Window: function 26 -/
mutual
def tabs_Window.j0 : Nat → Int → Bool → Option (List Int)
 | 0, _, _ => none
 | k + 1, x0, x11 => if x11 = true then (some ([] : List Int)) else (if 0 ≤ x0 then (if (x0 : Int).toNat ≤ 35184372088832 then ((some (List.replicate (x0 : Int).toNat 0 : List Int)).bind fun y139 => (tabs_Window.l0 k x0 y139 (y139.length : Int) 0)) else (none)) else (none))
def tabs_Window.l0 : Nat → Int → List Int → Int → Int → Option (List Int)
 | 0, _, _, _, _ => none
 | k + 1, x0, x3, x15, x16 => if x16 < x15 then (if x0 = 0 then (none) else ((fix_Sin.f k (wrap64 (Int.tdiv (wrap64 ((wrap64 (Int.tdiv (wrap64 ((wrap64 ((wrap64 (2 * x16)) + 1)) * 16384)) x0)) + 1)) 2))).bind fun t142 => ((fix_Mul.f k t142 t142 15).bind fun t143 => ((fix_Sin.f k (wrap64 (Int.tdiv (wrap64 (t143 + 1)) 2))).bind fun t144 => (if 0 ≤ x16 then (if x16 < (x3.length : Int) then (tabs_Window.l0 k x0 (x3.set (x16 : Int).toNat t144) x15 (wrap64 (x16 + 1))) else (none)) else (none)))))) else (some x3)
end
def tabs_Window.f (k : Nat) (a0 : Int) : Option (List Int) := if a0 < 1 then (tabs_Window.j0 k a0 true) else (tabs_Window.j0 k a0 (decide (a0 > 480)))
set_option maxHeartbeats 8000000 in
set_option maxRecDepth 100000 in
theorem tabs_Window.calls (k : Nat) (a0 : Int) (r : List Int) (w : World) (h : tabs_Window.f k a0 = some r) :
  Calls Try.prog 26 #[.int .i64 a0] w fun e w' => ∃ v0_ : Value, e = .returned (v0_) ∧ Kd.R (Kd.int .i64) 2 w' w.heap.size (fun _ => True) v0_ r ∧ Below w.heap.size w w' := by
 have HB := Aside0.mk (Below.refl w.heap.size w)
 have H : (if a0 < 1 then (tabs_Window.j0 k a0 true) else (tabs_Window.j0 k a0 (decide (a0 > 480)))) = some r := h
 clear h; have HC2 := Aside0.mk H; clear H
 go_enter Try.func26, Try.ntmps26
 go_upto_region 1 with (fail)
 go_cut [11] (fun v11 wc => ∃ (kq : Nat) (x11_1 : Bool), v11 = .bool x11_1 ∧ Aside0 (tabs_Window.j0 kq a0 x11_1 = some r) ∧ Aside0 (kq ≤ k) ∧ Aside0 (Below w.heap.size w wc))
 case first =>
  have H := HC2.out; clear HC2
  by_cases c3 : a0 < 1
  ·
   rw [if_pos c3] at H; have c3b0 : decide (a0 < 1) = true := decide_eq_true c3; clear c3
   (first | rw [c3b0] | (simp only [i64_w, i32_w]; rw [c3b0]) | skip)
   have H' := Aside0.mk H; clear H
   go_wp2
   go_meet
   case rel => exact ⟨_, (true), (by first | rfl | (simp; done) | (simp [*]; done)), H', ⟨by first | omega | exact Nat.le_refl _⟩, ⟨by repeat (with_reducible first | exact HB.out | apply below_alloc | apply pw_below_drewN | apply below_drew1)⟩⟩
  ·
   rw [if_neg c3] at H; have c3b0 : decide (a0 < 1) = false := decide_eq_false c3; clear c3
   (first | rw [c3b0] | (simp only [i64_w, i32_w]; rw [c3b0]) | skip)
   have H' := Aside0.mk H; clear H
   go_wp2
   go_meet
   case rel => exact ⟨_, (decide (a0 > 480)), (by first | rfl | (simp; done) | (simp [*]; done)), H', ⟨by first | omega | exact Nat.le_refl _⟩, ⟨by repeat (with_reducible first | exact HB.out | apply below_alloc | apply pw_below_drewN | apply below_drew1)⟩⟩
 case rest =>
  clear HC2; (try clear c2); (try clear p2); (try clear c3); (try clear c3b0); (try clear c3b0z0)
  obtain ⟨kq, x11_1, rfl, HA, HJ1, HB⟩ := hcut
  cases kq with
  | zero => exact absurd HA.out (by simp [tabs_Window.j0])
  | succ kj1 =>
   have H := HA.out; clear HA
   simp only [tabs_Window.j0] at H
   by_cases c4 : x11_1 = true
   ·
    subst c4
    have H1 : (some ([] : List Int)) = some r := by rw [if_pos rfl] at H; exact H
    clear H; have H := H1; clear H1
    obtain rfl := Option.some.inj H
    go_wp2
    go_ret
    exact ⟨_, by first | rfl | (simp [errW_none, errW_some] <;> rfl) | (simp [*, errW_none, errW_some] <;> rfl), by first | exact Kd.R_nil _ _ _ _ _ | exact Kd.N_nil _ _ _ _ _ | exact Kd.V_nil _ _ _ _ _ | exact Kd.Q_nil _ _ _ _ _ | exact Kd.S_nil _ _ _ _ _, by repeat (with_reducible first | exact HB.out | apply below_alloc | apply pw_below_drewN | apply below_drew1)⟩
   ·
    replace c4 := Bool.eq_false_iff.mpr c4
    subst c4
    have H1 : (if 0 ≤ a0 then (if (a0 : Int).toNat ≤ 35184372088832 then ((some (List.replicate (a0 : Int).toNat 0 : List Int)).bind fun y139 => (tabs_Window.l0 kj1 a0 y139 (y139.length : Int) 0)) else (none)) else (none)) = some r := by rw [if_neg (show ¬ (false = true) by decide)] at H; exact H
    clear H; have H := H1; clear H1
    by_cases c5 : 0 ≤ a0; rotate_left
    · rw [if_neg c5] at H; exact absurd H (by simp)
    rw [if_pos c5] at H; have c5b0 := eq_true c5; have c5b1 : decide (0 ≤ a0) = true := decide_eq_true c5; clear c5
    by_cases c6 : (a0 : Int).toNat ≤ 35184372088832; rotate_left
    · rw [if_neg c6] at H; exact absurd H (by simp)
    rw [if_pos c6] at H; have c6b0 := eq_true c6; have c6b1 : decide ((a0 : Int).toNat ≤ 35184372088832) = true := decide_eq_true c6; clear c6
    obtain ⟨y139, hy139⟩ : ∃ y_ : List Int, y_ = (List.replicate (a0 : Int).toNat 0) := ⟨_, rfl⟩
    replace H : (tabs_Window.l0 kj1 a0 y139 (y139.length : Int) 0) = some r := by first | (rw [hy139]; with_reducible exact H) | (have H2_ := (Option.bind_some _ _).symm.trans H; rw [hy139]; with_reducible exact H2_) | (have H2_ := (Option.bind_some _ _).symm.trans H; with_reducible exact H2_) | with_reducible exact H | (rw [hy139]; exact H) | exact H
    have Ny139 := Aside0.mk hy139; clear hy139; have H' := Aside0.mk H; clear H
    go_wp2_with (first | ((with_reducible refine gate_dst (N := 13) rfl ?_); refine Kd.R_make (Kd.int .i64) _ 2 rfl (N := 13) rfl 23 _ _ rfl a0 rfl rfl Try.underlying23 (.int .i64 0) 8 info2 rfl (by decide) (by omega) 0 (ok := fun _ => True) (okp := fun _ => True) rfl (fun _ hk => hk) trivial (of_decide_eq_true (by first | (with_reducible assumption) | assumption)) (Nat.le_trans (Nat.mul_le_mul_right _ (of_decide_eq_true (by first | (with_reducible assumption) | assumption) : a0.toNat ≤ 35184372088832)) (by omega)) (Below.refl _ _) (Nat.le_refl _) ?_; intro v140 w7 ho8 hb hg_ hnew_; clear hg_ hnew_; (first | rw [← Ny139.out] at ho8 | (simp only [Int.reduceToNat] at ho8; rw [← Ny139.out] at ho8)); have n0_ := Aside0.mk (Kd.R_lower ho8 (below_size (by repeat (with_reducible first | exact HB.out | apply below_alloc | apply pw_below_drewN | apply below_drew1)))); have n1_ := Aside0.mk (below_step (by repeat (with_reducible first | exact HB.out | apply below_alloc | apply pw_below_drewN | apply below_drew1)) hb); clear HB; have HO141 := n0_; have HB := n1_; clear n0_ n1_; clear hb ho8; obtain ⟨Ao9, co9, eo9⟩ := Kd.R_slice HO141.out; subst eo9))
    go_loopg [16] kj1 (fun kq v16 w' => ∃ (x3_2 : List Int) (x16_2 : Int), v16 = .int .i64 x16_2 ∧ Aside0 (tabs_Window.l0 kq a0 x3_2 (y139.length : Int) x16_2 = some r) ∧ Aside0 (kq ≤ kj1) ∧ Aside0 (Kd.R (Kd.int .i64) 2 w' w.heap.size (fun _ => True) (.slice Ao9 y139.length co9) x3_2) ∧ Aside0 (Below w.heap.size w w'))
    case atStart => exact ⟨(y139), (0), (by first | rfl | (simp; done) | (simp [*]; done)), H', ⟨Nat.le_refl _⟩, ⟨by (with_reducible repeat first | apply Kd.R_alloc | apply Kd.R_drewN | apply Kd.R_drew); exact HO141.out⟩, ⟨by repeat (with_reducible first | exact HB.out | apply below_alloc | apply pw_below_drewN | apply below_drew1)⟩⟩
    case round =>
     clear H'
     (try clear c2); (try clear p2); (try clear c3); (try clear c3b0); (try clear c3b0z0); (try clear c4); (try clear c5); (try clear c5b0); (try clear c5b0z0); (try clear c5b1); (try clear c5b1z0); (try clear c6); (try clear c6b0); (try clear c6b0z0); (try clear c6b1); (try clear c6b1z0); (try clear p2)
     obtain ⟨x3_2, x16_2, rfl, HA, HK2, HO_3, HB⟩ := hrel
     have hl3_2 := (Kd.R_reads' HO_3.out).1
     rw [hl3_2] at HO_3; (try simp only [hl3_2])
     cases gk with
     | zero => exact absurd HA.out (by simp [tabs_Window.l0])
     | succ k2 =>
      have H := HA.out; clear HA
      simp only [tabs_Window.l0] at H
      by_cases c10 : x16_2 < (y139.length : Int)
      ·
       rw [if_pos c10] at H; have c10b0 : decide (x16_2 < (y139.length : Int)) = true := decide_eq_true c10
       (try (have c10b0z0 := c10b0; rw [hl3_2] at c10b0z0))
       clear c10
       by_cases c11 : a0 = 0
       ·
        rw [if_pos c11] at H; exact absurd H (by simp)
       ·
        rw [if_neg c11] at H; have c11b0 : (a0 == 0) = false := beq_eq_false_iff_ne.mpr c11; have c11b1 : (a0 != 0) = true := bne_iff_ne.mpr c11; replace H := Option.bind_eq_some_iff.mp H; obtain ⟨t142, A120, H⟩ := H
        replace H : ((fix_Mul.f k2 t142 t142 15).bind fun t143 => ((fix_Sin.f k2 (wrap64 (Int.tdiv (wrap64 (t143 + 1)) 2))).bind fun t144 => (if 0 ≤ x16_2 then (if x16_2 < (x3_2.length : Int) then (tabs_Window.l0 k2 a0 (x3_2.set (x16_2 : Int).toNat t144) (y139.length : Int) (wrap64 (x16_2 + 1))) else (none)) else (none)))) = some r := H
        have A12 := Aside0.mk A120; clear A120; replace H := Option.bind_eq_some_iff.mp H; obtain ⟨t143, A130, H⟩ := H
        replace H : ((fix_Sin.f k2 (wrap64 (Int.tdiv (wrap64 (t143 + 1)) 2))).bind fun t144 => (if 0 ≤ x16_2 then (if x16_2 < (x3_2.length : Int) then (tabs_Window.l0 k2 a0 (x3_2.set (x16_2 : Int).toNat t144) (y139.length : Int) (wrap64 (x16_2 + 1))) else (none)) else (none))) = some r := H
        have A13 := Aside0.mk A130; clear A130; replace H := Option.bind_eq_some_iff.mp H; obtain ⟨t144, A140, H⟩ := H
        replace H : (if 0 ≤ x16_2 then (if x16_2 < (x3_2.length : Int) then (tabs_Window.l0 k2 a0 (x3_2.set (x16_2 : Int).toNat t144) (y139.length : Int) (wrap64 (x16_2 + 1))) else (none)) else (none)) = some r := H
        have A14 := Aside0.mk A140; clear A140
        by_cases c15 : 0 ≤ x16_2; rotate_left
        · rw [if_neg c15] at H; exact absurd H (by simp)
        rw [if_pos c15] at H; have c15b0 : decide (0 ≤ x16_2) = true := decide_eq_true c15; clear c15
        by_cases c16 : x16_2 < (x3_2.length : Int); rotate_left
        · rw [if_neg c16] at H; exact absurd H (by simp)
        rw [if_pos c16] at H; have c16b0 : decide (x16_2 < (x3_2.length : Int)) = true := decide_eq_true c16
        (try (have c16b0z0 := c16b0; rw [hl3_2] at c16b0z0))
        clear c16
        obtain ⟨y145, hy145⟩ : ∃ y_ : List Int, y_ = (x3_2.set (x16_2 : Int).toNat t144) := ⟨_, rfl⟩
        replace H : (tabs_Window.l0 k2 a0 y145 (y139.length : Int) (wrap64 (x16_2 + 1))) = some r := by first | (rw [hy145]; with_reducible exact H) | (have H2_ := (Option.bind_some _ _).symm.trans H; rw [hy145]; with_reducible exact H2_) | (have H2_ := (Option.bind_some _ _).symm.trans H; with_reducible exact H2_) | with_reducible exact H | (rw [hy145]; exact H) | exact H
        have Ny145 := Aside0.mk hy145; clear hy145; have H' := Aside0.mk H; clear H
        go_wp2_with (first | ((with_reducible refine gate_callee (f := 39) rfl ?_); refine goesL_ (some 27) rfl rfl Try.func39 (by kernel_rfl) rfl #[.int .i64 (wrap64 (Int.tdiv (wrap64 ((wrap64 (Int.tdiv (wrap64 ((wrap64 ((wrap64 (2 * x16_2)) + 1)) * 16384)) a0)) + 1)) 2))] rfl (by (try simp only [List.map_toArray, List.map_cons, List.map_nil]); first | done | rfl | (simp only [List.length_drop, List.length_take]; rfl)) ?_; (with_reducible refine (fix_Sin.calls k2 (wrap64 (Int.tdiv (wrap64 ((wrap64 (Int.tdiv (wrap64 ((wrap64 ((wrap64 (2 * x16_2)) + 1)) * 16384)) a0)) + 1)) 2)) t142 _ A12.out).mono ?_); rintro e w18 ⟨rfl, hb⟩; refine ⟨_, rfl, ?_⟩; have n0_ := Aside0.mk (Kd.R_below (by (with_reducible repeat first | apply Kd.R_alloc | apply Kd.R_drewN | apply Kd.R_drew); exact HO_3.out) hb); have n1_ := Aside0.mk (below_step (by repeat (with_reducible first | exact HB.out | apply below_alloc | apply pw_below_drewN | apply below_drew1)) hb); clear HO_3; clear HB; have HO_3 := n0_; have HB := n1_; clear n0_ n1_; (try clear hb); (try clear hb2); (try clear hk); (try clear hi)) | ((with_reducible refine gate_callee (f := 27) rfl ?_); refine goesL_ (some 32) rfl rfl Try.func27 (by kernel_rfl) rfl #[.int .i64 t142, .int .i64 t142, .int .i64 15] rfl (by (try simp only [List.map_toArray, List.map_cons, List.map_nil]); first | done | rfl | (simp only [List.length_drop, List.length_take]; rfl)) ?_; (with_reducible refine (fix_Mul.calls k2 t142 t142 15 t143 _ A13.out).mono ?_); rintro e w' ⟨rfl, ⟨nd, rfl⟩⟩; refine ⟨_, rfl, ?_⟩; (try (rw [drewN_self w18]; generalize hq_ : World.drewN w18 _ = w18; have n0_ : Aside0 (Kd.R (Kd.int .i64) 2 w18 w.heap.size (fun _ => True) (.slice Ao9 x3_2.length co9) x3_2) := ⟨by rw [← hq_]; exact (by (with_reducible repeat first | apply Kd.R_alloc | apply Kd.R_drewN | apply Kd.R_drew); exact HO_3.out)⟩; have n1_ : Aside0 (Below w.heap.size w w18) := ⟨by rw [← hq_]; exact (by repeat (with_reducible first | exact HB.out | apply below_alloc | apply pw_below_drewN | apply below_drew1))⟩; clear HO_3 HB hq_; have HO_3 := n0_; have HB := n1_; clear n0_ n1_))) | ((with_reducible refine gate_callee (f := 39) rfl ?_); refine goesL_ (some 35) rfl rfl Try.func39 (by kernel_rfl) rfl #[.int .i64 (wrap64 (Int.tdiv (wrap64 (t143 + 1)) 2))] rfl (by (try simp only [List.map_toArray, List.map_cons, List.map_nil]); first | done | rfl | (simp only [List.length_drop, List.length_take]; rfl)) ?_; (with_reducible refine (fix_Sin.calls k2 (wrap64 (Int.tdiv (wrap64 (t143 + 1)) 2)) t144 _ A14.out).mono ?_); rintro e w19 ⟨rfl, hb⟩; refine ⟨_, rfl, ?_⟩; have n0_ := Aside0.mk (Kd.R_below (by (with_reducible repeat first | apply Kd.R_alloc | apply Kd.R_drewN | apply Kd.R_drew); exact HO_3.out) hb); have n1_ := Aside0.mk (below_step (by repeat (with_reducible first | exact HB.out | apply below_alloc | apply pw_below_drewN | apply below_drew1)) hb); clear HO_3; clear HB; have HO_3 := n0_; have HB := n1_; clear n0_ n1_; (try clear hb); (try clear hb2); (try clear hk); (try clear hi); have p17 : 0 ≤ (x16_2 : Int) := of_decide_eq_true (by first | (with_reducible assumption) | assumption); have q17 : (x16_2 : Int) < ((x3_2.length : Int) : Int) := of_decide_eq_true (by first | (with_reducible assumption) | assumption); obtain ⟨go17, co17, eo17, gb17, gl17, cl17, HG17⟩ := Kd.R_form HO_3.out (by omega); (first | cases eo17 | (injection eo17 with ea_ en_ ec_; (first | subst ea_ | (injection ea_ with ea_; subst ea_)); subst ec_; clear en_)); have GB17 := Aside0.mk gb17; have GG17 := Aside0.mk HG17; clear gb17 gl17 HG17; obtain ⟨hx17_0, hf17_0⟩ := Kd.R_celln 0 HO_3.out (x16_2 : Int) p17 q17; replace p17 := eq_true p17; replace q17 := eq_true q17; obtain ⟨hy20_, hz20_⟩ := Kd.R_celln 0 HO_3.out (x16_2 : Int) (of_decide_eq_true (by first | (with_reducible assumption) | assumption)) (of_decide_eq_true (by first | (with_reducible assumption) | assumption)); have HP20 := Kd.R_putg HO_3.out (x16_2 : Int) t144) | ((with_reducible refine gate_store (t := 2) (p := 36) rfl ?_); refine store_event (t := 2) (p := 36) (v := ?vo_w21) (w1 := (w19.setCell ⟨go17, (x16_2 : Int).toNat, none⟩ (.int .i64 t144))) ?hg ?ho ?hn ?hr ?_; (case ho => rfl); (case hg => rfl); (case hn => rfl); (case hr => first | (go_simp; done) | (go_simp; rfl)); intro w21 hw; have hg : w19.grownBy w21 (some go17) := (by rw [hw]; exact HP20.2); have hp_ : Kd.R (Kd.int .i64) 2 w21 w.heap.size (fun _ => True) (.slice (some ⟨go17, 0, none⟩) x3_2.length co9) y145 := (by rw [hw, Ny145.out]; exact HP20.1); clear HP20; have n0_ := Aside0.mk (hp_); have n1_ := Aside0.mk ((by rw [hw]; exact below_set (HB.out) GB17.out : Below w.heap.size w w21)); clear HO_3; clear HB; have HO_3 := n0_; have HB := n1_; clear n0_ n1_; clear hg hw hp_))
        (try simp only [← hl3_2])
        go_roundg k2
        case measure => have := HJ1.out; have := HK2.out; omega
        case rel => exact ⟨(y145), (wrap64 (x16_2 + 1)), (by first | rfl | (simp; done) | (simp [*]; done)), H', ⟨by have := HJ1.out; have := HK2.out; omega⟩, ⟨by (try simp only [hl3_2]); (with_reducible repeat first | apply Kd.R_alloc | apply Kd.R_drewN | apply Kd.R_drew); exact HO_3.out⟩, ⟨by repeat (with_reducible first | exact HB.out | apply below_alloc | apply pw_below_drewN | apply below_drew1)⟩⟩
      ·
       rw [if_neg c10] at H; have c10b0 : decide (x16_2 < (y139.length : Int)) = false := decide_eq_false c10
       (try (have c10b0z0 := c10b0; rw [hl3_2] at c10b0z0))
       clear c10
       obtain rfl := Option.some.inj H
       go_wp2
       go_ret
       exact ⟨_, by first | rfl | (simp [errW_none, errW_some] <;> rfl) | (simp [*, errW_none, errW_some] <;> rfl), by (with_reducible repeat first | apply Kd.R_alloc | apply Kd.R_drewN | apply Kd.R_drew); exact HO_3.out, by repeat (with_reducible first | exact HB.out | apply below_alloc | apply pw_below_drewN | apply below_drew1)⟩

end Go.Proofs.Ytnliianjljgcbaa.MA
