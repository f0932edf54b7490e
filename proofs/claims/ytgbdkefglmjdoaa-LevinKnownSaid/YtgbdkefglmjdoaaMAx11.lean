/- Functions of the program as plain Lean functions, and that the code comes to their answers; in a Law text: that the law holds for every input, out of its Pure statement. No condition beyond those that stand in each statement. Written by a program of this session. -/
import Derived.Test.YtgbdkefglmjdoaaMAx0
import Derived.Test.YtgbdkefglmjdoaaMAx1
import Derived.Test.YtgbdkefglmjdoaaMAx5
import Derived.Test.YtgbdkefglmjdoaaMAx6
import Derived.Test.YtgbdkefglmjdoaaMAx10
namespace Go.Proofs.Ytgbdkefglmjdoaa.MA
open Go.RowKit Go.Proofs.YtgbdkefglmjdoaaW.PrintWords Go.Proofs.YtgbdkefglmjdoaaW.PrintLast Go.Proofs.YtgbdkefglmjdoaaW.PrintMore
attribute [local go_sem] max2_int min2_int max_two min_two max_three min_three max_four min_four   -- for this text's walks alone
set_option linter.unusedVariables false
set_option linter.unusedSimpArgs false

/-! ### madrigallaw12_awake: function 10 -/
def madrigallaw12_awake0.f (k : Nat)  : Option (Bool) := (levin_Auto.f k (([1, 2, 3] : List Int)) 1).bind fun bt361 => ((levin_Solve.f k (([100, 50] : List Int))).bind fun bt368 => ((levin_Rest.f k (([5, 5] : List Int)) (([4096] : List Int))).bind fun bt378 => (if 40 ≤ 35184372088832 then ((levin_Best.f k (List.replicate 40 0) 10).bind fun bt385 => (if bt361.2 = 0 then ((madrigallaw12_same.f k bt361.1 (([14, 8] : List Int))).bind fun t390 => (if t390 = true then (if bt368.2 = 0 then (if (bt368.1.length : Int) = 1 then (if 0 < (bt368.1.length : Int) then (if (rd bt368.1 0) > 2000 then (if (rd bt368.1 0) < 2060 then (if bt378.2 = 0 then ((madrigallaw12_same.f k bt378.1 (([5, 0] : List Int))).bind fun t396 => (if t396 = true then ((levin_Power.f k (([3, 4] : List Int))).bind fun t400 => (if t400 = 25 then (some (bt385.2 == 0)) else (some false))) else (some false))) else (some false)) else (some false)) else (some false)) else (none)) else (some false)) else (some false)) else (some false))) else (some false))) else (none))))
set_option maxHeartbeats 8000000 in
set_option maxRecDepth 100000 in
theorem madrigallaw12_awake0.calls (k : Nat)  (r : Bool) (w : World) (hrt : r = true) (h : madrigallaw12_awake0.f k  = some r) :
  Calls Try.prog 10 #[] w fun e w' => e = .returned (.bool r) ∧ Below w.heap.size w w' := by
 have HRT := Aside0.mk hrt
 clear hrt
 have HB := Aside0.mk (Below.refl w.heap.size w)
 have H : ((levin_Auto.f k (([1, 2, 3] : List Int)) 1).bind fun bt361 => ((levin_Solve.f k (([100, 50] : List Int))).bind fun bt368 => ((levin_Rest.f k (([5, 5] : List Int)) (([4096] : List Int))).bind fun bt378 => (if 40 ≤ 35184372088832 then ((levin_Best.f k (List.replicate 40 0) 10).bind fun bt385 => (if bt361.2 = 0 then ((madrigallaw12_same.f k bt361.1 (([14, 8] : List Int))).bind fun t390 => (if t390 = true then (if bt368.2 = 0 then (if (bt368.1.length : Int) = 1 then (if 0 < (bt368.1.length : Int) then (if (rd bt368.1 0) > 2000 then (if (rd bt368.1 0) < 2060 then (if bt378.2 = 0 then ((madrigallaw12_same.f k bt378.1 (([5, 0] : List Int))).bind fun t396 => (if t396 = true then ((levin_Power.f k (([3, 4] : List Int))).bind fun t400 => (if t400 = 25 then (some (bt385.2 == 0)) else (some false))) else (some false))) else (some false)) else (some false)) else (some false)) else (none)) else (some false)) else (some false)) else (some false))) else (some false))) else (none))))) = some r := h
 clear h
 obtain ⟨y358, hy358⟩ : ∃ y_ : List Int, y_ = (([1, 2, 3] : List Int)) := ⟨_, rfl⟩
 replace H : ((levin_Auto.f k y358 1).bind fun bt361 => ((levin_Solve.f k (([100, 50] : List Int))).bind fun bt368 => ((levin_Rest.f k (([5, 5] : List Int)) (([4096] : List Int))).bind fun bt378 => (if 40 ≤ 35184372088832 then ((levin_Best.f k (List.replicate 40 0) 10).bind fun bt385 => (if bt361.2 = 0 then ((madrigallaw12_same.f k bt361.1 (([14, 8] : List Int))).bind fun t390 => (if t390 = true then (if bt368.2 = 0 then (if (bt368.1.length : Int) = 1 then (if 0 < (bt368.1.length : Int) then (if (rd bt368.1 0) > 2000 then (if (rd bt368.1 0) < 2060 then (if bt378.2 = 0 then ((madrigallaw12_same.f k bt378.1 (([5, 0] : List Int))).bind fun t396 => (if t396 = true then ((levin_Power.f k (([3, 4] : List Int))).bind fun t400 => (if t400 = 25 then (some (bt385.2 == 0)) else (some false))) else (some false))) else (some false)) else (some false)) else (some false)) else (none)) else (some false)) else (some false)) else (some false))) else (some false))) else (none))))) = some r := by first | (rw [hy358]; with_reducible exact H) | (have H2_ := (Option.bind_some _ _).symm.trans H; rw [hy358]; with_reducible exact H2_) | (have H2_ := (Option.bind_some _ _).symm.trans H; with_reducible exact H2_) | with_reducible exact H | (rw [hy358]; exact H) | exact H
 have Ny358 := Aside0.mk hy358
 clear hy358
 replace H := Option.bind_eq_some_iff.mp H
 obtain ⟨⟨t361, t362⟩, A10, H⟩ := H
 replace H : ((levin_Solve.f k (([100, 50] : List Int))).bind fun bt368 => ((levin_Rest.f k (([5, 5] : List Int)) (([4096] : List Int))).bind fun bt378 => (if 40 ≤ 35184372088832 then ((levin_Best.f k (List.replicate 40 0) 10).bind fun bt385 => (if t362 = 0 then ((madrigallaw12_same.f k t361 (([14, 8] : List Int))).bind fun t390 => (if t390 = true then (if bt368.2 = 0 then (if (bt368.1.length : Int) = 1 then (if 0 < (bt368.1.length : Int) then (if (rd bt368.1 0) > 2000 then (if (rd bt368.1 0) < 2060 then (if bt378.2 = 0 then ((madrigallaw12_same.f k bt378.1 (([5, 0] : List Int))).bind fun t396 => (if t396 = true then ((levin_Power.f k (([3, 4] : List Int))).bind fun t400 => (if t400 = 25 then (some (bt385.2 == 0)) else (some false))) else (some false))) else (some false)) else (some false)) else (some false)) else (none)) else (some false)) else (some false)) else (some false))) else (some false))) else (none)))) = some r := H
 have A1 := Aside0.mk A10
 clear A10
 obtain ⟨y365, hy365⟩ : ∃ y_ : List Int, y_ = (([100, 50] : List Int)) := ⟨_, rfl⟩
 replace H : ((levin_Solve.f k y365).bind fun bt368 => ((levin_Rest.f k (([5, 5] : List Int)) (([4096] : List Int))).bind fun bt378 => (if 40 ≤ 35184372088832 then ((levin_Best.f k (List.replicate 40 0) 10).bind fun bt385 => (if t362 = 0 then ((madrigallaw12_same.f k t361 (([14, 8] : List Int))).bind fun t390 => (if t390 = true then (if bt368.2 = 0 then (if (bt368.1.length : Int) = 1 then (if 0 < (bt368.1.length : Int) then (if (rd bt368.1 0) > 2000 then (if (rd bt368.1 0) < 2060 then (if bt378.2 = 0 then ((madrigallaw12_same.f k bt378.1 (([5, 0] : List Int))).bind fun t396 => (if t396 = true then ((levin_Power.f k (([3, 4] : List Int))).bind fun t400 => (if t400 = 25 then (some (bt385.2 == 0)) else (some false))) else (some false))) else (some false)) else (some false)) else (some false)) else (none)) else (some false)) else (some false)) else (some false))) else (some false))) else (none)))) = some r := by first | (rw [hy365]; with_reducible exact H) | (have H2_ := (Option.bind_some _ _).symm.trans H; rw [hy365]; with_reducible exact H2_) | (have H2_ := (Option.bind_some _ _).symm.trans H; with_reducible exact H2_) | with_reducible exact H | (rw [hy365]; exact H) | exact H
 have Ny365 := Aside0.mk hy365
 clear hy365
 replace H := Option.bind_eq_some_iff.mp H
 obtain ⟨⟨t368, t369⟩, A20, H⟩ := H
 replace H : ((levin_Rest.f k (([5, 5] : List Int)) (([4096] : List Int))).bind fun bt378 => (if 40 ≤ 35184372088832 then ((levin_Best.f k (List.replicate 40 0) 10).bind fun bt385 => (if t362 = 0 then ((madrigallaw12_same.f k t361 (([14, 8] : List Int))).bind fun t390 => (if t390 = true then (if t369 = 0 then (if (t368.length : Int) = 1 then (if 0 < (t368.length : Int) then (if (rd t368 0) > 2000 then (if (rd t368 0) < 2060 then (if bt378.2 = 0 then ((madrigallaw12_same.f k bt378.1 (([5, 0] : List Int))).bind fun t396 => (if t396 = true then ((levin_Power.f k (([3, 4] : List Int))).bind fun t400 => (if t400 = 25 then (some (bt385.2 == 0)) else (some false))) else (some false))) else (some false)) else (some false)) else (some false)) else (none)) else (some false)) else (some false)) else (some false))) else (some false))) else (none))) = some r := H
 have A2 := Aside0.mk A20
 clear A20
 obtain ⟨y372, hy372⟩ : ∃ y_ : List Int, y_ = (([5, 5] : List Int)) := ⟨_, rfl⟩
 replace H : ((levin_Rest.f k y372 (([4096] : List Int))).bind fun bt378 => (if 40 ≤ 35184372088832 then ((levin_Best.f k (List.replicate 40 0) 10).bind fun bt385 => (if t362 = 0 then ((madrigallaw12_same.f k t361 (([14, 8] : List Int))).bind fun t390 => (if t390 = true then (if t369 = 0 then (if (t368.length : Int) = 1 then (if 0 < (t368.length : Int) then (if (rd t368 0) > 2000 then (if (rd t368 0) < 2060 then (if bt378.2 = 0 then ((madrigallaw12_same.f k bt378.1 (([5, 0] : List Int))).bind fun t396 => (if t396 = true then ((levin_Power.f k (([3, 4] : List Int))).bind fun t400 => (if t400 = 25 then (some (bt385.2 == 0)) else (some false))) else (some false))) else (some false)) else (some false)) else (some false)) else (none)) else (some false)) else (some false)) else (some false))) else (some false))) else (none))) = some r := by first | (rw [hy372]; with_reducible exact H) | (have H2_ := (Option.bind_some _ _).symm.trans H; rw [hy372]; with_reducible exact H2_) | (have H2_ := (Option.bind_some _ _).symm.trans H; with_reducible exact H2_) | with_reducible exact H | (rw [hy372]; exact H) | exact H
 have Ny372 := Aside0.mk hy372
 clear hy372
 obtain ⟨y375, hy375⟩ : ∃ y_ : List Int, y_ = (([4096] : List Int)) := ⟨_, rfl⟩
 replace H : ((levin_Rest.f k y372 y375).bind fun bt378 => (if 40 ≤ 35184372088832 then ((levin_Best.f k (List.replicate 40 0) 10).bind fun bt385 => (if t362 = 0 then ((madrigallaw12_same.f k t361 (([14, 8] : List Int))).bind fun t390 => (if t390 = true then (if t369 = 0 then (if (t368.length : Int) = 1 then (if 0 < (t368.length : Int) then (if (rd t368 0) > 2000 then (if (rd t368 0) < 2060 then (if bt378.2 = 0 then ((madrigallaw12_same.f k bt378.1 (([5, 0] : List Int))).bind fun t396 => (if t396 = true then ((levin_Power.f k (([3, 4] : List Int))).bind fun t400 => (if t400 = 25 then (some (bt385.2 == 0)) else (some false))) else (some false))) else (some false)) else (some false)) else (some false)) else (none)) else (some false)) else (some false)) else (some false))) else (some false))) else (none))) = some r := by first | (rw [hy375]; with_reducible exact H) | (have H2_ := (Option.bind_some _ _).symm.trans H; rw [hy375]; with_reducible exact H2_) | (have H2_ := (Option.bind_some _ _).symm.trans H; with_reducible exact H2_) | with_reducible exact H | (rw [hy375]; exact H) | exact H
 have Ny375 := Aside0.mk hy375
 clear hy375
 replace H := Option.bind_eq_some_iff.mp H
 obtain ⟨⟨t378, t379⟩, A30, H⟩ := H
 replace H : (if 40 ≤ 35184372088832 then ((levin_Best.f k (List.replicate 40 0) 10).bind fun bt385 => (if t362 = 0 then ((madrigallaw12_same.f k t361 (([14, 8] : List Int))).bind fun t390 => (if t390 = true then (if t369 = 0 then (if (t368.length : Int) = 1 then (if 0 < (t368.length : Int) then (if (rd t368 0) > 2000 then (if (rd t368 0) < 2060 then (if t379 = 0 then ((madrigallaw12_same.f k t378 (([5, 0] : List Int))).bind fun t396 => (if t396 = true then ((levin_Power.f k (([3, 4] : List Int))).bind fun t400 => (if t400 = 25 then (some (bt385.2 == 0)) else (some false))) else (some false))) else (some false)) else (some false)) else (some false)) else (none)) else (some false)) else (some false)) else (some false))) else (some false))) else (none)) = some r := H
 have A3 := Aside0.mk A30
 clear A30
 by_cases c4 : 40 ≤ 35184372088832
 ·
  rw [if_pos c4] at H
  have c4b0 := eq_true c4
  have c4b1 : decide (40 ≤ 35184372088832) = true := decide_eq_true c4
  clear c4
  obtain ⟨y382, hy382⟩ : ∃ y_ : List Int, y_ = (List.replicate 40 0) := ⟨_, rfl⟩
  replace H : ((levin_Best.f k y382 10).bind fun bt385 => (if t362 = 0 then ((madrigallaw12_same.f k t361 (([14, 8] : List Int))).bind fun t390 => (if t390 = true then (if t369 = 0 then (if (t368.length : Int) = 1 then (if 0 < (t368.length : Int) then (if (rd t368 0) > 2000 then (if (rd t368 0) < 2060 then (if t379 = 0 then ((madrigallaw12_same.f k t378 (([5, 0] : List Int))).bind fun t396 => (if t396 = true then ((levin_Power.f k (([3, 4] : List Int))).bind fun t400 => (if t400 = 25 then (some (bt385.2 == 0)) else (some false))) else (some false))) else (some false)) else (some false)) else (some false)) else (none)) else (some false)) else (some false)) else (some false))) else (some false))) = some r := by first | (rw [hy382]; with_reducible exact H) | (have H2_ := (Option.bind_some _ _).symm.trans H; rw [hy382]; with_reducible exact H2_) | (have H2_ := (Option.bind_some _ _).symm.trans H; with_reducible exact H2_) | with_reducible exact H | (rw [hy382]; exact H) | exact H
  have Ny382 := Aside0.mk hy382
  clear hy382
  replace H := Option.bind_eq_some_iff.mp H
  obtain ⟨⟨t385, t386⟩, A50, H⟩ := H
  replace H : (if t362 = 0 then ((madrigallaw12_same.f k t361 (([14, 8] : List Int))).bind fun t390 => (if t390 = true then (if t369 = 0 then (if (t368.length : Int) = 1 then (if 0 < (t368.length : Int) then (if (rd t368 0) > 2000 then (if (rd t368 0) < 2060 then (if t379 = 0 then ((madrigallaw12_same.f k t378 (([5, 0] : List Int))).bind fun t396 => (if t396 = true then ((levin_Power.f k (([3, 4] : List Int))).bind fun t400 => (if t400 = 25 then (some (t386 == 0)) else (some false))) else (some false))) else (some false)) else (some false)) else (some false)) else (none)) else (some false)) else (some false)) else (some false))) else (some false)) = some r := H
  have A5 := Aside0.mk A50
  clear A50
  by_cases c6 : t362 = 0
  ·
   rw [if_pos c6] at H
   have c6b0 : (t362 == 0) = true := beq_iff_eq.mpr c6
   have c6b1 : (t362 != 0) = false := bne_eq_false_iff_eq.mpr c6
   clear c6
   obtain ⟨y387, hy387⟩ : ∃ y_ : List Int, y_ = (([14, 8] : List Int)) := ⟨_, rfl⟩
   replace H : ((madrigallaw12_same.f k t361 y387).bind fun t390 => (if t390 = true then (if t369 = 0 then (if (t368.length : Int) = 1 then (if 0 < (t368.length : Int) then (if (rd t368 0) > 2000 then (if (rd t368 0) < 2060 then (if t379 = 0 then ((madrigallaw12_same.f k t378 (([5, 0] : List Int))).bind fun t396 => (if t396 = true then ((levin_Power.f k (([3, 4] : List Int))).bind fun t400 => (if t400 = 25 then (some (t386 == 0)) else (some false))) else (some false))) else (some false)) else (some false)) else (some false)) else (none)) else (some false)) else (some false)) else (some false))) = some r := by first | (rw [hy387]; with_reducible exact H) | (have H2_ := (Option.bind_some _ _).symm.trans H; rw [hy387]; with_reducible exact H2_) | (have H2_ := (Option.bind_some _ _).symm.trans H; with_reducible exact H2_) | with_reducible exact H | (rw [hy387]; exact H) | exact H
   have Ny387 := Aside0.mk hy387
   clear hy387
   replace H := Option.bind_eq_some_iff.mp H
   obtain ⟨t390, A70, H⟩ := H
   replace H : (if t390 = true then (if t369 = 0 then (if (t368.length : Int) = 1 then (if 0 < (t368.length : Int) then (if (rd t368 0) > 2000 then (if (rd t368 0) < 2060 then (if t379 = 0 then ((madrigallaw12_same.f k t378 (([5, 0] : List Int))).bind fun t396 => (if t396 = true then ((levin_Power.f k (([3, 4] : List Int))).bind fun t400 => (if t400 = 25 then (some (t386 == 0)) else (some false))) else (some false))) else (some false)) else (some false)) else (some false)) else (none)) else (some false)) else (some false)) else (some false)) = some r := H
   have A7 := Aside0.mk A70
   clear A70
   by_cases c8 : t390 = true
   ·
    subst c8
    have H1 : (if t369 = 0 then (if (t368.length : Int) = 1 then (if 0 < (t368.length : Int) then (if (rd t368 0) > 2000 then (if (rd t368 0) < 2060 then (if t379 = 0 then ((madrigallaw12_same.f k t378 (([5, 0] : List Int))).bind fun t396 => (if t396 = true then ((levin_Power.f k (([3, 4] : List Int))).bind fun t400 => (if t400 = 25 then (some (t386 == 0)) else (some false))) else (some false))) else (some false)) else (some false)) else (some false)) else (none)) else (some false)) else (some false)) = some r := by rw [if_pos rfl] at H; exact H
    clear H
    have H := H1
    clear H1
    by_cases c9 : t369 = 0
    ·
     rw [if_pos c9] at H
     have c9b0 : (t369 == 0) = true := beq_iff_eq.mpr c9
     have c9b1 : (t369 != 0) = false := bne_eq_false_iff_eq.mpr c9
     clear c9
     by_cases c10 : (t368.length : Int) = 1
     ·
      rw [if_pos c10] at H
      have c10b0 : ((t368.length : Int) == 1) = true := beq_iff_eq.mpr c10
      have c10b1 : ((t368.length : Int) != 1) = false := bne_eq_false_iff_eq.mpr c10
      clear c10
      by_cases c11 : 0 < (t368.length : Int)
      ·
       rw [if_pos c11] at H
       have c11b0 : decide (0 < (t368.length : Int)) = true := decide_eq_true c11
       have c11b1 : decide (0 < t368.length) = true := decide_eq_true (by omega)
       clear c11
       by_cases c12 : (rd t368 0) > 2000
       ·
        rw [if_pos c12] at H
        have c12b0 : decide (2000 < (rd t368 0)) = true := decide_eq_true c12
        clear c12
        by_cases c13 : (rd t368 0) < 2060
        ·
         rw [if_pos c13] at H
         have c13b0 : decide ((rd t368 0) < 2060) = true := decide_eq_true c13
         clear c13
         by_cases c14 : t379 = 0
         ·
          rw [if_pos c14] at H
          have c14b0 : (t379 == 0) = true := beq_iff_eq.mpr c14
          have c14b1 : (t379 != 0) = false := bne_eq_false_iff_eq.mpr c14
          clear c14
          obtain ⟨y393, hy393⟩ : ∃ y_ : List Int, y_ = (([5, 0] : List Int)) := ⟨_, rfl⟩
          replace H : ((madrigallaw12_same.f k t378 y393).bind fun t396 => (if t396 = true then ((levin_Power.f k (([3, 4] : List Int))).bind fun t400 => (if t400 = 25 then (some (t386 == 0)) else (some false))) else (some false))) = some r := by first | (rw [hy393]; with_reducible exact H) | (have H2_ := (Option.bind_some _ _).symm.trans H; rw [hy393]; with_reducible exact H2_) | (have H2_ := (Option.bind_some _ _).symm.trans H; with_reducible exact H2_) | with_reducible exact H | (rw [hy393]; exact H) | exact H
          have Ny393 := Aside0.mk hy393
          clear hy393
          replace H := Option.bind_eq_some_iff.mp H
          obtain ⟨t396, A150, H⟩ := H
          replace H : (if t396 = true then ((levin_Power.f k (([3, 4] : List Int))).bind fun t400 => (if t400 = 25 then (some (t386 == 0)) else (some false))) else (some false)) = some r := H
          have A15 := Aside0.mk A150
          clear A150
          by_cases c16 : t396 = true
          ·
           subst c16
           have H1 : ((levin_Power.f k (([3, 4] : List Int))).bind fun t400 => (if t400 = 25 then (some (t386 == 0)) else (some false))) = some r := by rw [if_pos rfl] at H; exact H
           clear H
           have H := H1
           clear H1
           obtain ⟨y397, hy397⟩ : ∃ y_ : List Int, y_ = (([3, 4] : List Int)) := ⟨_, rfl⟩
           replace H : ((levin_Power.f k y397).bind fun t400 => (if t400 = 25 then (some (t386 == 0)) else (some false))) = some r := by first | (rw [hy397]; with_reducible exact H) | (have H2_ := (Option.bind_some _ _).symm.trans H; rw [hy397]; with_reducible exact H2_) | (have H2_ := (Option.bind_some _ _).symm.trans H; with_reducible exact H2_) | with_reducible exact H | (rw [hy397]; exact H) | exact H
           have Ny397 := Aside0.mk hy397
           clear hy397
           replace H := Option.bind_eq_some_iff.mp H
           obtain ⟨t400, A170, H⟩ := H
           replace H : (if t400 = 25 then (some (t386 == 0)) else (some false)) = some r := H
           have A17 := Aside0.mk A170
           clear A170
           by_cases c18 : t400 = 25
           ·
            rw [if_pos c18] at H
            have c18b0 : (t400 == 25) = true := beq_iff_eq.mpr c18
            have c18b1 : (t400 != 25) = false := bne_eq_false_iff_eq.mpr c18
            clear c18
            obtain rfl := Option.some.inj H
            go_enter Try.func10, Try.ntmps10
            go_wp2_with (first | ((with_reducible refine gate_dst (N := 10) rfl ?_); (try (refine gate_guard (by rfl) ?_; dsimp only)); refine Kd.R_lit (Kd.int .i64) _ 2 ?hg (N := 10) ?hd (xs := ([1, 2, 3] : List Int)) (inner := [.int .i64 1, .int .i64 2, .int .i64 3]) (ok := fun _ => True) (okp := fun _ => True) ?hr ?hp (fun _ hk => hk) trivial (Below.refl _ _) (Nat.le_refl _) (by simp) ?_; (case hd => rfl); (case hg => rfl); (case hr => first | (go_simp; done) | (go_simp; rfl)); (case hp => exact (Reps.one (show Kd.M (Kd.int .i64) _ _ _ 1 [.int .i64 1] from rfl) (Reps.one (show Kd.M (Kd.int .i64) _ _ _ 2 [.int .i64 2] from rfl) (Reps.one (show Kd.M (Kd.int .i64) _ _ _ 3 [.int .i64 3] from rfl) (Reps.none _ _))))); intro v359 w19 ho20 hb hg_ hnew_; clear hg_ hnew_; (first | rw [← Ny358.out] at ho20 | (simp only [Int.reduceToNat] at ho20; rw [← Ny358.out] at ho20)); have n0_ := Aside0.mk (Kd.R_lower ho20 (below_size (by repeat (first | (with_reducible first | exact HB.out | apply below_alloc | apply pw_below_drewN | apply below_drew1) | exact HB.out)))); have n1_ := Aside0.mk (below_step (by repeat (first | (with_reducible first | exact HB.out | apply below_alloc | apply pw_below_drewN | apply below_drew1) | exact HB.out)) hb); clear HB; have HO360 := n0_; have HB := n1_; clear n0_ n1_; clear hb ho20; obtain ⟨Ao21, co21, eo21⟩ := Kd.R_slice HO360.out; subst eo21) | ((with_reducible refine gate_callee (f := 11) rfl ?_); refine goesL_ (some 11) rfl rfl Try.func11 (by kernel_rfl) rfl #[.slice Ao21 y358.length co21, .int .i64 1] rfl (by (try simp only [List.map_toArray, List.map_cons, List.map_nil]); first | done | rfl | (simp only [List.length_drop, List.length_take]; rfl)) ?_; (with_reducible refine (levin_Auto.calls k _ _ y358 1 t361 t362 _ ?side1 ?side2 A1.out).mono ?_); (case side1 => repeat (first | exact (Kd.R_reads' HO360.out).2.2 | (with_reducible refine Kd.C_alloc ?_ _) | (with_reducible refine Kd.C_drewN ?_ _) | (with_reducible refine Kd.C_drew ?_))); (case side2 => exact (Kd.R_reads' HO360.out).2.1); rintro e w22 ⟨v363, rfl, ho0, hb⟩; refine ⟨_, rfl, ?_⟩; have n0_ := Aside0.mk (Kd.R_elder' (by (with_reducible repeat (first | apply Kd.R_alloc | apply Kd.R_drewN | apply Kd.R_drew)); exact HO360.out) (Kd.R_base ho0) hb); have n1_ := Aside0.mk (Kd.R_lower (Kd.R_new' ho0 (Kd.R_lt (by (with_reducible repeat (first | apply Kd.R_alloc | apply Kd.R_drewN | apply Kd.R_drew)); exact HO360.out))) (below_size (by repeat (first | (with_reducible first | exact HB.out | apply below_alloc | apply pw_below_drewN | apply below_drew1) | exact HB.out)))); have n2_ := Aside0.mk (below_step (by repeat (first | (with_reducible first | exact HB.out | apply below_alloc | apply pw_below_drewN | apply below_drew1) | exact HB.out)) hb); clear HO360; clear HB; have HO360 := n0_; have HO364 := n1_; have HB := n2_; clear n0_ n1_ n2_; (try clear hb); (try clear hb2); (try clear hk); (try clear hi); (try clear ho0)) | ((with_reducible refine gate_dst (N := 15) rfl ?_); (try (refine gate_guard (by rfl) ?_; dsimp only)); refine Kd.R_lit (Kd.int .i64) _ 2 ?hg (N := 15) ?hd (xs := ([100, 50] : List Int)) (inner := [.int .i64 100, .int .i64 50]) (ok := fun _ => True) (okp := fun _ => True) ?hr ?hp (fun _ hk => hk) trivial (Below.refl _ _) (Nat.le_refl _) (by simp) ?_; (case hd => rfl); (case hg => rfl); (case hr => first | (go_simp; done) | (go_simp; rfl)); (case hp => exact (Reps.one (show Kd.M (Kd.int .i64) _ _ _ 100 [.int .i64 100] from rfl) (Reps.one (show Kd.M (Kd.int .i64) _ _ _ 50 [.int .i64 50] from rfl) (Reps.none _ _)))); intro v366 w23 ho24 hb hg_ hnew_; clear hg_ hnew_; (first | rw [← Ny365.out] at ho24 | (simp only [Int.reduceToNat] at ho24; rw [← Ny365.out] at ho24)); have n0_ := Aside0.mk (Kd.R_elder' (by (with_reducible repeat (first | apply Kd.R_alloc | apply Kd.R_drewN | apply Kd.R_drew)); exact HO360.out) (Kd.R_base ho24) hb); have n1_ := Aside0.mk (Kd.R_elder' (by (with_reducible repeat (first | apply Kd.R_alloc | apply Kd.R_drewN | apply Kd.R_drew)); exact HO364.out) (Kd.R_base ho24) hb); have n2_ := Aside0.mk (Kd.R_lower (Kd.R_new' (Kd.R_new' ho24 (Kd.R_lt (by (with_reducible repeat (first | apply Kd.R_alloc | apply Kd.R_drewN | apply Kd.R_drew)); exact HO360.out))) (Kd.R_lt (by (with_reducible repeat (first | apply Kd.R_alloc | apply Kd.R_drewN | apply Kd.R_drew)); exact HO364.out))) (below_size (by repeat (first | (with_reducible first | exact HB.out | apply below_alloc | apply pw_below_drewN | apply below_drew1) | exact HB.out)))); have n3_ := Aside0.mk (below_step (by repeat (first | (with_reducible first | exact HB.out | apply below_alloc | apply pw_below_drewN | apply below_drew1) | exact HB.out)) hb); clear HO360; clear HO364; clear HB; have HO360 := n0_; have HO364 := n1_; have HO367 := n2_; have HB := n3_; clear n0_ n1_ n2_ n3_; clear hb ho24; obtain ⟨Ao25, co25, eo25⟩ := Kd.R_slice HO367.out; subst eo25) | ((with_reducible refine gate_callee (f := 12) rfl ?_); refine goesL_ (some 16) rfl rfl Try.func12 (by kernel_rfl) rfl #[.slice Ao25 y365.length co25] rfl (by (try simp only [List.map_toArray, List.map_cons, List.map_nil]); first | done | rfl | (simp only [List.length_drop, List.length_take]; rfl)) ?_; (with_reducible refine (levin_Solve.calls k _ _ y365 t368 t369 _ ?side1 ?side2 A2.out).mono ?_); (case side1 => repeat (first | exact (Kd.R_reads' HO367.out).2.2 | (with_reducible refine Kd.C_alloc ?_ _) | (with_reducible refine Kd.C_drewN ?_ _) | (with_reducible refine Kd.C_drew ?_))); (case side2 => exact (Kd.R_reads' HO367.out).2.1); rintro e w26 ⟨v370, rfl, ho0, hb⟩; refine ⟨_, rfl, ?_⟩; have n0_ := Aside0.mk (Kd.R_elder' (by (with_reducible repeat (first | apply Kd.R_alloc | apply Kd.R_drewN | apply Kd.R_drew)); exact HO360.out) (Kd.R_base ho0) hb); have n1_ := Aside0.mk (Kd.R_elder' (by (with_reducible repeat (first | apply Kd.R_alloc | apply Kd.R_drewN | apply Kd.R_drew)); exact HO364.out) (Kd.R_base ho0) hb); have n2_ := Aside0.mk (Kd.R_elder' (by (with_reducible repeat (first | apply Kd.R_alloc | apply Kd.R_drewN | apply Kd.R_drew)); exact HO367.out) (Kd.R_base ho0) hb); have n3_ := Aside0.mk (Kd.R_lower (Kd.R_new' (Kd.R_new' (Kd.R_new' ho0 (Kd.R_lt (by (with_reducible repeat (first | apply Kd.R_alloc | apply Kd.R_drewN | apply Kd.R_drew)); exact HO360.out))) (Kd.R_lt (by (with_reducible repeat (first | apply Kd.R_alloc | apply Kd.R_drewN | apply Kd.R_drew)); exact HO364.out))) (Kd.R_lt (by (with_reducible repeat (first | apply Kd.R_alloc | apply Kd.R_drewN | apply Kd.R_drew)); exact HO367.out))) (below_size (by repeat (first | (with_reducible first | exact HB.out | apply below_alloc | apply pw_below_drewN | apply below_drew1) | exact HB.out)))); have n4_ := Aside0.mk (below_step (by repeat (first | (with_reducible first | exact HB.out | apply below_alloc | apply pw_below_drewN | apply below_drew1) | exact HB.out)) hb); clear HO360; clear HO364; clear HO367; clear HB; have HO360 := n0_; have HO364 := n1_; have HO367 := n2_; have HO371 := n3_; have HB := n4_; clear n0_ n1_ n2_ n3_ n4_; (try clear hb); (try clear hb2); (try clear hk); (try clear hi); (try clear ho0)) | ((with_reducible refine gate_dst (N := 20) rfl ?_); (try (refine gate_guard (by rfl) ?_; dsimp only)); refine Kd.R_lit (Kd.int .i64) _ 2 ?hg (N := 20) ?hd (xs := ([5, 5] : List Int)) (inner := [.int .i64 5, .int .i64 5]) (ok := fun _ => True) (okp := fun _ => True) ?hr ?hp (fun _ hk => hk) trivial (Below.refl _ _) (Nat.le_refl _) (by simp) ?_; (case hd => rfl); (case hg => rfl); (case hr => first | (go_simp; done) | (go_simp; rfl)); (case hp => exact (Reps.one (show Kd.M (Kd.int .i64) _ _ _ 5 [.int .i64 5] from rfl) (Reps.one (show Kd.M (Kd.int .i64) _ _ _ 5 [.int .i64 5] from rfl) (Reps.none _ _)))); intro v373 w27 ho28 hb hg_ hnew_; clear hg_ hnew_; (first | rw [← Ny372.out] at ho28 | (simp only [Int.reduceToNat] at ho28; rw [← Ny372.out] at ho28)); have n0_ := Aside0.mk (Kd.R_elder' (by (with_reducible repeat (first | apply Kd.R_alloc | apply Kd.R_drewN | apply Kd.R_drew)); exact HO360.out) (Kd.R_base ho28) hb); have n1_ := Aside0.mk (Kd.R_elder' (by (with_reducible repeat (first | apply Kd.R_alloc | apply Kd.R_drewN | apply Kd.R_drew)); exact HO364.out) (Kd.R_base ho28) hb); have n2_ := Aside0.mk (Kd.R_elder' (by (with_reducible repeat (first | apply Kd.R_alloc | apply Kd.R_drewN | apply Kd.R_drew)); exact HO367.out) (Kd.R_base ho28) hb); have n3_ := Aside0.mk (Kd.R_elder' (by (with_reducible repeat (first | apply Kd.R_alloc | apply Kd.R_drewN | apply Kd.R_drew)); exact HO371.out) (Kd.R_base ho28) hb); have n4_ := Aside0.mk (Kd.R_lower (Kd.R_new' (Kd.R_new' (Kd.R_new' (Kd.R_new' ho28 (Kd.R_lt (by (with_reducible repeat (first | apply Kd.R_alloc | apply Kd.R_drewN | apply Kd.R_drew)); exact HO360.out))) (Kd.R_lt (by (with_reducible repeat (first | apply Kd.R_alloc | apply Kd.R_drewN | apply Kd.R_drew)); exact HO364.out))) (Kd.R_lt (by (with_reducible repeat (first | apply Kd.R_alloc | apply Kd.R_drewN | apply Kd.R_drew)); exact HO367.out))) (Kd.R_lt (by (with_reducible repeat (first | apply Kd.R_alloc | apply Kd.R_drewN | apply Kd.R_drew)); exact HO371.out))) (below_size (by repeat (first | (with_reducible first | exact HB.out | apply below_alloc | apply pw_below_drewN | apply below_drew1) | exact HB.out)))); have n5_ := Aside0.mk (below_step (by repeat (first | (with_reducible first | exact HB.out | apply below_alloc | apply pw_below_drewN | apply below_drew1) | exact HB.out)) hb); clear HO360; clear HO364; clear HO367; clear HO371; clear HB; have HO360 := n0_; have HO364 := n1_; have HO367 := n2_; have HO371 := n3_; have HO374 := n4_; have HB := n5_; clear n0_ n1_ n2_ n3_ n4_ n5_; clear hb ho28) | ((with_reducible refine gate_dst (N := 21) rfl ?_); (try (refine gate_guard (by rfl) ?_; dsimp only)); refine Kd.R_lit (Kd.int .i64) _ 2 ?hg (N := 21) ?hd (xs := ([4096] : List Int)) (inner := [.int .i64 4096]) (ok := fun _ => True) (okp := fun _ => True) ?hr ?hp (fun _ hk => hk) trivial (Below.refl _ _) (Nat.le_refl _) (by simp) ?_; (case hd => rfl); (case hg => rfl); (case hr => first | (go_simp; done) | (go_simp; rfl)); (case hp => exact (Reps.one (show Kd.M (Kd.int .i64) _ _ _ 4096 [.int .i64 4096] from rfl) (Reps.none _ _))); intro v376 w29 ho30 hb hg_ hnew_; clear hg_ hnew_; (first | rw [← Ny375.out] at ho30 | (simp only [Int.reduceToNat] at ho30; rw [← Ny375.out] at ho30)); have n0_ := Aside0.mk (Kd.R_elder' (by (with_reducible repeat (first | apply Kd.R_alloc | apply Kd.R_drewN | apply Kd.R_drew)); exact HO360.out) (Kd.R_base ho30) hb); have n1_ := Aside0.mk (Kd.R_elder' (by (with_reducible repeat (first | apply Kd.R_alloc | apply Kd.R_drewN | apply Kd.R_drew)); exact HO364.out) (Kd.R_base ho30) hb); have n2_ := Aside0.mk (Kd.R_elder' (by (with_reducible repeat (first | apply Kd.R_alloc | apply Kd.R_drewN | apply Kd.R_drew)); exact HO367.out) (Kd.R_base ho30) hb); have n3_ := Aside0.mk (Kd.R_elder' (by (with_reducible repeat (first | apply Kd.R_alloc | apply Kd.R_drewN | apply Kd.R_drew)); exact HO371.out) (Kd.R_base ho30) hb); have n4_ := Aside0.mk (Kd.R_elder' (by (with_reducible repeat (first | apply Kd.R_alloc | apply Kd.R_drewN | apply Kd.R_drew)); exact HO374.out) (Kd.R_base ho30) hb); have n5_ := Aside0.mk (Kd.R_lower (Kd.R_new' (Kd.R_new' (Kd.R_new' (Kd.R_new' (Kd.R_new' ho30 (Kd.R_lt (by (with_reducible repeat (first | apply Kd.R_alloc | apply Kd.R_drewN | apply Kd.R_drew)); exact HO360.out))) (Kd.R_lt (by (with_reducible repeat (first | apply Kd.R_alloc | apply Kd.R_drewN | apply Kd.R_drew)); exact HO364.out))) (Kd.R_lt (by (with_reducible repeat (first | apply Kd.R_alloc | apply Kd.R_drewN | apply Kd.R_drew)); exact HO367.out))) (Kd.R_lt (by (with_reducible repeat (first | apply Kd.R_alloc | apply Kd.R_drewN | apply Kd.R_drew)); exact HO371.out))) (Kd.R_lt (by (with_reducible repeat (first | apply Kd.R_alloc | apply Kd.R_drewN | apply Kd.R_drew)); exact HO374.out))) (below_size (by repeat (first | (with_reducible first | exact HB.out | apply below_alloc | apply pw_below_drewN | apply below_drew1) | exact HB.out)))); have n6_ := Aside0.mk (below_step (by repeat (first | (with_reducible first | exact HB.out | apply below_alloc | apply pw_below_drewN | apply below_drew1) | exact HB.out)) hb); clear HO360; clear HO364; clear HO367; clear HO371; clear HO374; clear HB; have HO360 := n0_; have HO364 := n1_; have HO367 := n2_; have HO371 := n3_; have HO374 := n4_; have HO377 := n5_; have HB := n6_; clear n0_ n1_ n2_ n3_ n4_ n5_ n6_; clear hb ho30; obtain ⟨Ao31, co31, eo31⟩ := Kd.R_slice HO374.out; subst eo31; obtain ⟨Ao32, co32, eo32⟩ := Kd.R_slice HO377.out; subst eo32) | ((with_reducible refine gate_callee (f := 13) rfl ?_); refine goesL_ (some 22) rfl rfl Try.func13 (by kernel_rfl) rfl #[.slice Ao31 y372.length co31, .slice Ao32 y375.length co32] rfl (by (try simp only [List.map_toArray, List.map_cons, List.map_nil]); first | done | rfl | (simp only [List.length_drop, List.length_take]; rfl)) ?_; (with_reducible refine (levin_Rest.calls k _ _ y372 _ _ y375 t378 t379 _ ?side1 ?side2 ?side3 ?side4 A3.out).mono ?_); (case side1 => repeat (first | exact (Kd.R_reads' HO374.out).2.2 | (with_reducible refine Kd.C_alloc ?_ _) | (with_reducible refine Kd.C_drewN ?_ _) | (with_reducible refine Kd.C_drew ?_))); (case side2 => exact (Kd.R_reads' HO374.out).2.1); (case side3 => repeat (first | exact (Kd.R_reads' HO377.out).2.2 | (with_reducible refine Kd.C_alloc ?_ _) | (with_reducible refine Kd.C_drewN ?_ _) | (with_reducible refine Kd.C_drew ?_))); (case side4 => exact (Kd.R_reads' HO377.out).2.1); rintro e w33 ⟨v380, rfl, ho0, hb⟩; refine ⟨_, rfl, ?_⟩; have n0_ := Aside0.mk (Kd.R_elder' (by (with_reducible repeat (first | apply Kd.R_alloc | apply Kd.R_drewN | apply Kd.R_drew)); exact HO360.out) (Kd.R_base ho0) hb); have n1_ := Aside0.mk (Kd.R_elder' (by (with_reducible repeat (first | apply Kd.R_alloc | apply Kd.R_drewN | apply Kd.R_drew)); exact HO364.out) (Kd.R_base ho0) hb); have n2_ := Aside0.mk (Kd.R_elder' (by (with_reducible repeat (first | apply Kd.R_alloc | apply Kd.R_drewN | apply Kd.R_drew)); exact HO367.out) (Kd.R_base ho0) hb); have n3_ := Aside0.mk (Kd.R_elder' (by (with_reducible repeat (first | apply Kd.R_alloc | apply Kd.R_drewN | apply Kd.R_drew)); exact HO371.out) (Kd.R_base ho0) hb); have n4_ := Aside0.mk (Kd.R_elder' (by (with_reducible repeat (first | apply Kd.R_alloc | apply Kd.R_drewN | apply Kd.R_drew)); exact HO374.out) (Kd.R_base ho0) hb); have n5_ := Aside0.mk (Kd.R_elder' (by (with_reducible repeat (first | apply Kd.R_alloc | apply Kd.R_drewN | apply Kd.R_drew)); exact HO377.out) (Kd.R_base ho0) hb); have n6_ := Aside0.mk (Kd.R_lower (Kd.R_new' (Kd.R_new' (Kd.R_new' (Kd.R_new' (Kd.R_new' (Kd.R_new' ho0 (Kd.R_lt (by (with_reducible repeat (first | apply Kd.R_alloc | apply Kd.R_drewN | apply Kd.R_drew)); exact HO360.out))) (Kd.R_lt (by (with_reducible repeat (first | apply Kd.R_alloc | apply Kd.R_drewN | apply Kd.R_drew)); exact HO364.out))) (Kd.R_lt (by (with_reducible repeat (first | apply Kd.R_alloc | apply Kd.R_drewN | apply Kd.R_drew)); exact HO367.out))) (Kd.R_lt (by (with_reducible repeat (first | apply Kd.R_alloc | apply Kd.R_drewN | apply Kd.R_drew)); exact HO371.out))) (Kd.R_lt (by (with_reducible repeat (first | apply Kd.R_alloc | apply Kd.R_drewN | apply Kd.R_drew)); exact HO374.out))) (Kd.R_lt (by (with_reducible repeat (first | apply Kd.R_alloc | apply Kd.R_drewN | apply Kd.R_drew)); exact HO377.out))) (below_size (by repeat (first | (with_reducible first | exact HB.out | apply below_alloc | apply pw_below_drewN | apply below_drew1) | exact HB.out)))); have n7_ := Aside0.mk (below_step (by repeat (first | (with_reducible first | exact HB.out | apply below_alloc | apply pw_below_drewN | apply below_drew1) | exact HB.out)) hb); clear HO360; clear HO364; clear HO367; clear HO371; clear HO374; clear HO377; clear HB; have HO360 := n0_; have HO364 := n1_; have HO367 := n2_; have HO371 := n3_; have HO374 := n4_; have HO377 := n5_; have HO381 := n6_; have HB := n7_; clear n0_ n1_ n2_ n3_ n4_ n5_ n6_ n7_; (try clear hb); (try clear hb2); (try clear hk); (try clear hi); (try clear ho0)) | ((with_reducible refine gate_dst (N := 26) rfl ?_); (try (refine gate_guard (by rfl) ?_; dsimp only)); refine Kd.R_make (Kd.int .i64) _ 2 rfl (N := 26) rfl 23 _ _ rfl 40 rfl rfl Try.underlying23 (.int .i64 0) 8 info2 rfl (by decide) (by omega) 0 (ok := fun _ => True) (okp := fun _ => True) rfl (fun _ hk => hk) trivial (by omega) (by omega) (Below.refl _ _) (Nat.le_refl _) ?_; intro v383 w34 ho35 hb hg_ hnew_; clear hg_ hnew_; (first | rw [← Ny382.out] at ho35 | (simp only [Int.reduceToNat] at ho35; rw [← Ny382.out] at ho35)); have n0_ := Aside0.mk (Kd.R_elder' (by (with_reducible repeat (first | apply Kd.R_alloc | apply Kd.R_drewN | apply Kd.R_drew)); exact HO360.out) (Kd.R_base ho35) hb); have n1_ := Aside0.mk (Kd.R_elder' (by (with_reducible repeat (first | apply Kd.R_alloc | apply Kd.R_drewN | apply Kd.R_drew)); exact HO364.out) (Kd.R_base ho35) hb); have n2_ := Aside0.mk (Kd.R_elder' (by (with_reducible repeat (first | apply Kd.R_alloc | apply Kd.R_drewN | apply Kd.R_drew)); exact HO367.out) (Kd.R_base ho35) hb); have n3_ := Aside0.mk (Kd.R_elder' (by (with_reducible repeat (first | apply Kd.R_alloc | apply Kd.R_drewN | apply Kd.R_drew)); exact HO371.out) (Kd.R_base ho35) hb); have n4_ := Aside0.mk (Kd.R_elder' (by (with_reducible repeat (first | apply Kd.R_alloc | apply Kd.R_drewN | apply Kd.R_drew)); exact HO374.out) (Kd.R_base ho35) hb); have n5_ := Aside0.mk (Kd.R_elder' (by (with_reducible repeat (first | apply Kd.R_alloc | apply Kd.R_drewN | apply Kd.R_drew)); exact HO377.out) (Kd.R_base ho35) hb); have n6_ := Aside0.mk (Kd.R_elder' (by (with_reducible repeat (first | apply Kd.R_alloc | apply Kd.R_drewN | apply Kd.R_drew)); exact HO381.out) (Kd.R_base ho35) hb); have n7_ := Aside0.mk (Kd.R_lower (Kd.R_new' (Kd.R_new' (Kd.R_new' (Kd.R_new' (Kd.R_new' (Kd.R_new' (Kd.R_new' ho35 (Kd.R_lt (by (with_reducible repeat (first | apply Kd.R_alloc | apply Kd.R_drewN | apply Kd.R_drew)); exact HO360.out))) (Kd.R_lt (by (with_reducible repeat (first | apply Kd.R_alloc | apply Kd.R_drewN | apply Kd.R_drew)); exact HO364.out))) (Kd.R_lt (by (with_reducible repeat (first | apply Kd.R_alloc | apply Kd.R_drewN | apply Kd.R_drew)); exact HO367.out))) (Kd.R_lt (by (with_reducible repeat (first | apply Kd.R_alloc | apply Kd.R_drewN | apply Kd.R_drew)); exact HO371.out))) (Kd.R_lt (by (with_reducible repeat (first | apply Kd.R_alloc | apply Kd.R_drewN | apply Kd.R_drew)); exact HO374.out))) (Kd.R_lt (by (with_reducible repeat (first | apply Kd.R_alloc | apply Kd.R_drewN | apply Kd.R_drew)); exact HO377.out))) (Kd.R_lt (by (with_reducible repeat (first | apply Kd.R_alloc | apply Kd.R_drewN | apply Kd.R_drew)); exact HO381.out))) (below_size (by repeat (first | (with_reducible first | exact HB.out | apply below_alloc | apply pw_below_drewN | apply below_drew1) | exact HB.out)))); have n8_ := Aside0.mk (below_step (by repeat (first | (with_reducible first | exact HB.out | apply below_alloc | apply pw_below_drewN | apply below_drew1) | exact HB.out)) hb); clear HO360; clear HO364; clear HO367; clear HO371; clear HO374; clear HO377; clear HO381; clear HB; have HO360 := n0_; have HO364 := n1_; have HO367 := n2_; have HO371 := n3_; have HO374 := n4_; have HO377 := n5_; have HO381 := n6_; have HO384 := n7_; have HB := n8_; clear n0_ n1_ n2_ n3_ n4_ n5_ n6_ n7_ n8_; clear hb ho35; obtain ⟨Ao36, co36, eo36⟩ := Kd.R_slice HO384.out; subst eo36) | ((with_reducible refine gate_callee (f := 14) rfl ?_); refine goesL_ (some 27) rfl rfl Try.func14 (by kernel_rfl) rfl #[.slice Ao36 y382.length co36, .int .i64 10] rfl (by (try simp only [List.map_toArray, List.map_cons, List.map_nil]); first | done | rfl | (simp only [List.length_drop, List.length_take]; rfl)) ?_; (with_reducible refine (levin_Best.calls k _ _ y382 10 t385 t386 _ ?side1 ?side2 A5.out).mono ?_); (case side1 => repeat (first | exact (Kd.R_reads' HO384.out).2.2 | (with_reducible refine Kd.C_alloc ?_ _) | (with_reducible refine Kd.C_drewN ?_ _) | (with_reducible refine Kd.C_drew ?_))); (case side2 => exact (Kd.R_reads' HO384.out).2.1); rintro e w37 ⟨rfl, hb⟩; refine ⟨_, rfl, ?_⟩; have n0_ := Aside0.mk (Kd.R_below (by (with_reducible repeat (first | apply Kd.R_alloc | apply Kd.R_drewN | apply Kd.R_drew)); exact HO360.out) hb); have n1_ := Aside0.mk (Kd.R_below (by (with_reducible repeat (first | apply Kd.R_alloc | apply Kd.R_drewN | apply Kd.R_drew)); exact HO364.out) hb); have n2_ := Aside0.mk (Kd.R_below (by (with_reducible repeat (first | apply Kd.R_alloc | apply Kd.R_drewN | apply Kd.R_drew)); exact HO367.out) hb); have n3_ := Aside0.mk (Kd.R_below (by (with_reducible repeat (first | apply Kd.R_alloc | apply Kd.R_drewN | apply Kd.R_drew)); exact HO371.out) hb); have n4_ := Aside0.mk (Kd.R_below (by (with_reducible repeat (first | apply Kd.R_alloc | apply Kd.R_drewN | apply Kd.R_drew)); exact HO374.out) hb); have n5_ := Aside0.mk (Kd.R_below (by (with_reducible repeat (first | apply Kd.R_alloc | apply Kd.R_drewN | apply Kd.R_drew)); exact HO377.out) hb); have n6_ := Aside0.mk (Kd.R_below (by (with_reducible repeat (first | apply Kd.R_alloc | apply Kd.R_drewN | apply Kd.R_drew)); exact HO381.out) hb); have n7_ := Aside0.mk (Kd.R_below (by (with_reducible repeat (first | apply Kd.R_alloc | apply Kd.R_drewN | apply Kd.R_drew)); exact HO384.out) hb); have n8_ := Aside0.mk (below_step (by repeat (first | (with_reducible first | exact HB.out | apply below_alloc | apply pw_below_drewN | apply below_drew1) | exact HB.out)) hb); clear HO360; clear HO364; clear HO367; clear HO371; clear HO374; clear HO377; clear HO381; clear HO384; clear HB; have HO360 := n0_; have HO364 := n1_; have HO367 := n2_; have HO371 := n3_; have HO374 := n4_; have HO377 := n5_; have HO381 := n6_; have HO384 := n7_; have HB := n8_; clear n0_ n1_ n2_ n3_ n4_ n5_ n6_ n7_ n8_; (try clear hb); (try clear hb2); (try clear hk); (try clear hi)) | ((with_reducible refine gate_dst (N := 34) rfl ?_); (try (refine gate_guard (by rfl) ?_; dsimp only)); refine Kd.R_lit (Kd.int .i64) _ 2 ?hg (N := 34) ?hd (xs := ([14, 8] : List Int)) (inner := [.int .i64 14, .int .i64 8]) (ok := fun _ => True) (okp := fun _ => True) ?hr ?hp (fun _ hk => hk) trivial (Below.refl _ _) (Nat.le_refl _) (by simp) ?_; (case hd => rfl); (case hg => rfl); (case hr => first | (go_simp; done) | (go_simp; rfl)); (case hp => exact (Reps.one (show Kd.M (Kd.int .i64) _ _ _ 14 [.int .i64 14] from rfl) (Reps.one (show Kd.M (Kd.int .i64) _ _ _ 8 [.int .i64 8] from rfl) (Reps.none _ _)))); intro v388 w38 ho39 hb hg_ hnew_; clear hg_ hnew_; (first | rw [← Ny387.out] at ho39 | (simp only [Int.reduceToNat] at ho39; rw [← Ny387.out] at ho39)); have n0_ := Aside0.mk (Kd.R_elder' (by (with_reducible repeat (first | apply Kd.R_alloc | apply Kd.R_drewN | apply Kd.R_drew)); exact HO360.out) (Kd.R_base ho39) hb); have n1_ := Aside0.mk (Kd.R_elder' (by (with_reducible repeat (first | apply Kd.R_alloc | apply Kd.R_drewN | apply Kd.R_drew)); exact HO364.out) (Kd.R_base ho39) hb); have n2_ := Aside0.mk (Kd.R_elder' (by (with_reducible repeat (first | apply Kd.R_alloc | apply Kd.R_drewN | apply Kd.R_drew)); exact HO367.out) (Kd.R_base ho39) hb); have n3_ := Aside0.mk (Kd.R_elder' (by (with_reducible repeat (first | apply Kd.R_alloc | apply Kd.R_drewN | apply Kd.R_drew)); exact HO371.out) (Kd.R_base ho39) hb); have n4_ := Aside0.mk (Kd.R_elder' (by (with_reducible repeat (first | apply Kd.R_alloc | apply Kd.R_drewN | apply Kd.R_drew)); exact HO374.out) (Kd.R_base ho39) hb); have n5_ := Aside0.mk (Kd.R_elder' (by (with_reducible repeat (first | apply Kd.R_alloc | apply Kd.R_drewN | apply Kd.R_drew)); exact HO377.out) (Kd.R_base ho39) hb); have n6_ := Aside0.mk (Kd.R_elder' (by (with_reducible repeat (first | apply Kd.R_alloc | apply Kd.R_drewN | apply Kd.R_drew)); exact HO381.out) (Kd.R_base ho39) hb); have n7_ := Aside0.mk (Kd.R_elder' (by (with_reducible repeat (first | apply Kd.R_alloc | apply Kd.R_drewN | apply Kd.R_drew)); exact HO384.out) (Kd.R_base ho39) hb); have n8_ := Aside0.mk (Kd.R_lower (Kd.R_new' (Kd.R_new' (Kd.R_new' (Kd.R_new' (Kd.R_new' (Kd.R_new' (Kd.R_new' (Kd.R_new' ho39 (Kd.R_lt (by (with_reducible repeat (first | apply Kd.R_alloc | apply Kd.R_drewN | apply Kd.R_drew)); exact HO360.out))) (Kd.R_lt (by (with_reducible repeat (first | apply Kd.R_alloc | apply Kd.R_drewN | apply Kd.R_drew)); exact HO364.out))) (Kd.R_lt (by (with_reducible repeat (first | apply Kd.R_alloc | apply Kd.R_drewN | apply Kd.R_drew)); exact HO367.out))) (Kd.R_lt (by (with_reducible repeat (first | apply Kd.R_alloc | apply Kd.R_drewN | apply Kd.R_drew)); exact HO371.out))) (Kd.R_lt (by (with_reducible repeat (first | apply Kd.R_alloc | apply Kd.R_drewN | apply Kd.R_drew)); exact HO374.out))) (Kd.R_lt (by (with_reducible repeat (first | apply Kd.R_alloc | apply Kd.R_drewN | apply Kd.R_drew)); exact HO377.out))) (Kd.R_lt (by (with_reducible repeat (first | apply Kd.R_alloc | apply Kd.R_drewN | apply Kd.R_drew)); exact HO381.out))) (Kd.R_lt (by (with_reducible repeat (first | apply Kd.R_alloc | apply Kd.R_drewN | apply Kd.R_drew)); exact HO384.out))) (below_size (by repeat (first | (with_reducible first | exact HB.out | apply below_alloc | apply pw_below_drewN | apply below_drew1) | exact HB.out)))); have n9_ := Aside0.mk (below_step (by repeat (first | (with_reducible first | exact HB.out | apply below_alloc | apply pw_below_drewN | apply below_drew1) | exact HB.out)) hb); clear HO360; clear HO364; clear HO367; clear HO371; clear HO374; clear HO377; clear HO381; clear HO384; clear HB; have HO360 := n0_; have HO364 := n1_; have HO367 := n2_; have HO371 := n3_; have HO374 := n4_; have HO377 := n5_; have HO381 := n6_; have HO384 := n7_; have HO389 := n8_; have HB := n9_; clear n0_ n1_ n2_ n3_ n4_ n5_ n6_ n7_ n8_ n9_; clear hb ho39; obtain ⟨Ao40, co40, eo40⟩ := Kd.R_slice HO364.out; subst eo40; obtain ⟨Ao41, co41, eo41⟩ := Kd.R_slice HO389.out; subst eo41) | (go_at_call 15; (with_reducible refine (madrigallaw12_same.calls k _ _ t361 _ _ y387 true _ ?side1 ?side2 ?side3 ?side4 A7.out).mono ?_); (case side1 => repeat (first | exact (Kd.R_reads' HO364.out).2.2 | (with_reducible refine Kd.C_alloc ?_ _) | (with_reducible refine Kd.C_drewN ?_ _) | (with_reducible refine Kd.C_drew ?_))); (case side2 => exact (Kd.R_reads' HO364.out).2.1); (case side3 => repeat (first | exact (Kd.R_reads' HO389.out).2.2 | (with_reducible refine Kd.C_alloc ?_ _) | (with_reducible refine Kd.C_drewN ?_ _) | (with_reducible refine Kd.C_drew ?_))); (case side4 => exact (Kd.R_reads' HO389.out).2.1); rintro e w' ⟨rfl, ⟨nd, rfl⟩⟩; obtain ⟨Ao42, co42, eo42⟩ := Kd.R_slice HO371.out; subst eo42; have p391 : 0 ≤ (0 : Int) := (by omega); have q391 : 0 < (t368.length : Int) := of_decide_eq_true (by first | (with_reducible assumption) | assumption); obtain ⟨ad391, e391, hx391_0⟩ := Kd.at_int (Kd.R_reads' HO371.out).2.2 0 p391 q391; cases e391; have qi391 : (0 < t368.length) = True := eq_true (by omega); (try rw [show ((0 : Int)).toNat = 0 from rfl] at hx391_0); (try rw [Addr.add_zero'] at hx391_0); replace p391 := eq_true p391; replace q391 := eq_true q391; have p392 : 0 ≤ (0 : Int) := (by omega); have q392 : 0 < (t368.length : Int) := of_decide_eq_true (by first | (with_reducible assumption) | assumption); obtain ⟨ad392, e392, hx392_0⟩ := Kd.at_int (Kd.R_reads' HO371.out).2.2 0 p392 q392; obtain rfl : ad391 = ad392 := (by injection e392); have qi392 : (0 < t368.length) = True := eq_true (by omega); (try rw [show ((0 : Int)).toNat = 0 from rfl] at hx392_0); (try rw [Addr.add_zero'] at hx392_0); replace p392 := eq_true p392; replace q392 := eq_true q392) | ((with_reducible refine gate_dst (N := 64) rfl ?_); (try (refine gate_guard (by rfl) ?_; dsimp only)); refine Kd.R_lit (Kd.int .i64) _ 2 ?hg (N := 64) ?hd (xs := ([5, 0] : List Int)) (inner := [.int .i64 5, .int .i64 0]) (ok := fun _ => True) (okp := fun _ => True) ?hr ?hp (fun _ hk => hk) trivial (Below.refl _ _) (Nat.le_refl _) (by simp) ?_; (case hd => rfl); (case hg => rfl); (case hr => first | (go_simp; done) | (go_simp; rfl)); (case hp => exact (Reps.one (show Kd.M (Kd.int .i64) _ _ _ 5 [.int .i64 5] from rfl) (Reps.one (show Kd.M (Kd.int .i64) _ _ _ 0 [.int .i64 0] from rfl) (Reps.none _ _)))); intro v394 w43 ho44 hb hg_ hnew_; clear hg_ hnew_; (first | rw [← Ny393.out] at ho44 | (simp only [Int.reduceToNat] at ho44; rw [← Ny393.out] at ho44)); have n0_ := Aside0.mk (Kd.R_elder' (by (with_reducible repeat (first | apply Kd.R_alloc | apply Kd.R_drewN | apply Kd.R_drew)); exact HO360.out) (Kd.R_base ho44) hb); have n1_ := Aside0.mk (Kd.R_elder' (by (with_reducible repeat (first | apply Kd.R_alloc | apply Kd.R_drewN | apply Kd.R_drew)); exact HO364.out) (Kd.R_base ho44) hb); have n2_ := Aside0.mk (Kd.R_elder' (by (with_reducible repeat (first | apply Kd.R_alloc | apply Kd.R_drewN | apply Kd.R_drew)); exact HO367.out) (Kd.R_base ho44) hb); have n3_ := Aside0.mk (Kd.R_elder' (by (with_reducible repeat (first | apply Kd.R_alloc | apply Kd.R_drewN | apply Kd.R_drew)); exact HO371.out) (Kd.R_base ho44) hb); have n4_ := Aside0.mk (Kd.R_elder' (by (with_reducible repeat (first | apply Kd.R_alloc | apply Kd.R_drewN | apply Kd.R_drew)); exact HO374.out) (Kd.R_base ho44) hb); have n5_ := Aside0.mk (Kd.R_elder' (by (with_reducible repeat (first | apply Kd.R_alloc | apply Kd.R_drewN | apply Kd.R_drew)); exact HO377.out) (Kd.R_base ho44) hb); have n6_ := Aside0.mk (Kd.R_elder' (by (with_reducible repeat (first | apply Kd.R_alloc | apply Kd.R_drewN | apply Kd.R_drew)); exact HO381.out) (Kd.R_base ho44) hb); have n7_ := Aside0.mk (Kd.R_elder' (by (with_reducible repeat (first | apply Kd.R_alloc | apply Kd.R_drewN | apply Kd.R_drew)); exact HO384.out) (Kd.R_base ho44) hb); have n8_ := Aside0.mk (Kd.R_elder' (by (with_reducible repeat (first | apply Kd.R_alloc | apply Kd.R_drewN | apply Kd.R_drew)); exact HO389.out) (Kd.R_base ho44) hb); have n9_ := Aside0.mk (Kd.R_lower (Kd.R_new' (Kd.R_new' (Kd.R_new' (Kd.R_new' (Kd.R_new' (Kd.R_new' (Kd.R_new' (Kd.R_new' (Kd.R_new' ho44 (Kd.R_lt (by (with_reducible repeat (first | apply Kd.R_alloc | apply Kd.R_drewN | apply Kd.R_drew)); exact HO360.out))) (Kd.R_lt (by (with_reducible repeat (first | apply Kd.R_alloc | apply Kd.R_drewN | apply Kd.R_drew)); exact HO364.out))) (Kd.R_lt (by (with_reducible repeat (first | apply Kd.R_alloc | apply Kd.R_drewN | apply Kd.R_drew)); exact HO367.out))) (Kd.R_lt (by (with_reducible repeat (first | apply Kd.R_alloc | apply Kd.R_drewN | apply Kd.R_drew)); exact HO371.out))) (Kd.R_lt (by (with_reducible repeat (first | apply Kd.R_alloc | apply Kd.R_drewN | apply Kd.R_drew)); exact HO374.out))) (Kd.R_lt (by (with_reducible repeat (first | apply Kd.R_alloc | apply Kd.R_drewN | apply Kd.R_drew)); exact HO377.out))) (Kd.R_lt (by (with_reducible repeat (first | apply Kd.R_alloc | apply Kd.R_drewN | apply Kd.R_drew)); exact HO381.out))) (Kd.R_lt (by (with_reducible repeat (first | apply Kd.R_alloc | apply Kd.R_drewN | apply Kd.R_drew)); exact HO384.out))) (Kd.R_lt (by (with_reducible repeat (first | apply Kd.R_alloc | apply Kd.R_drewN | apply Kd.R_drew)); exact HO389.out))) (below_size (by repeat (first | (with_reducible first | exact HB.out | apply below_alloc | apply pw_below_drewN | apply below_drew1) | exact HB.out)))); have n10_ := Aside0.mk (below_step (by repeat (first | (with_reducible first | exact HB.out | apply below_alloc | apply pw_below_drewN | apply below_drew1) | exact HB.out)) hb); clear HO360; clear HO364; clear HO367; clear HO371; clear HO374; clear HO377; clear HO381; clear HO384; clear HO389; clear HB; have HO360 := n0_; have HO364 := n1_; have HO367 := n2_; have HO371 := n3_; have HO374 := n4_; have HO377 := n5_; have HO381 := n6_; have HO384 := n7_; have HO389 := n8_; have HO395 := n9_; have HB := n10_; clear n0_ n1_ n2_ n3_ n4_ n5_ n6_ n7_ n8_ n9_ n10_; clear hb ho44; obtain ⟨Ao45, co45, eo45⟩ := Kd.R_slice HO381.out; subst eo45; obtain ⟨Ao46, co46, eo46⟩ := Kd.R_slice HO395.out; subst eo46) | (go_at_call 15; (with_reducible refine (madrigallaw12_same.calls k _ _ t378 _ _ y393 true _ ?side1 ?side2 ?side3 ?side4 A15.out).mono ?_); (case side1 => repeat (first | exact (Kd.R_reads' HO381.out).2.2 | (with_reducible refine Kd.C_alloc ?_ _) | (with_reducible refine Kd.C_drewN ?_ _) | (with_reducible refine Kd.C_drew ?_))); (case side2 => exact (Kd.R_reads' HO381.out).2.1); (case side3 => repeat (first | exact (Kd.R_reads' HO395.out).2.2 | (with_reducible refine Kd.C_alloc ?_ _) | (with_reducible refine Kd.C_drewN ?_ _) | (with_reducible refine Kd.C_drew ?_))); (case side4 => exact (Kd.R_reads' HO395.out).2.1); rintro e w' ⟨rfl, ⟨nd, rfl⟩⟩) | ((with_reducible refine gate_dst (N := 68) rfl ?_); (try (refine gate_guard (by rfl) ?_; dsimp only)); refine Kd.R_lit (Kd.int .i64) _ 2 ?hg (N := 68) ?hd (xs := ([3, 4] : List Int)) (inner := [.int .i64 3, .int .i64 4]) (ok := fun _ => True) (okp := fun _ => True) ?hr ?hp (fun _ hk => hk) trivial (Below.refl _ _) (Nat.le_refl _) (by simp) ?_; (case hd => rfl); (case hg => rfl); (case hr => first | (go_simp; done) | (go_simp; rfl)); (case hp => exact (Reps.one (show Kd.M (Kd.int .i64) _ _ _ 3 [.int .i64 3] from rfl) (Reps.one (show Kd.M (Kd.int .i64) _ _ _ 4 [.int .i64 4] from rfl) (Reps.none _ _)))); intro v398 w47 ho48 hb hg_ hnew_; clear hg_ hnew_; (first | rw [← Ny397.out] at ho48 | (simp only [Int.reduceToNat] at ho48; rw [← Ny397.out] at ho48)); have n0_ := Aside0.mk (Kd.R_elder' (by (with_reducible repeat (first | apply Kd.R_alloc | apply Kd.R_drewN | apply Kd.R_drew)); exact HO360.out) (Kd.R_base ho48) hb); have n1_ := Aside0.mk (Kd.R_elder' (by (with_reducible repeat (first | apply Kd.R_alloc | apply Kd.R_drewN | apply Kd.R_drew)); exact HO364.out) (Kd.R_base ho48) hb); have n2_ := Aside0.mk (Kd.R_elder' (by (with_reducible repeat (first | apply Kd.R_alloc | apply Kd.R_drewN | apply Kd.R_drew)); exact HO367.out) (Kd.R_base ho48) hb); have n3_ := Aside0.mk (Kd.R_elder' (by (with_reducible repeat (first | apply Kd.R_alloc | apply Kd.R_drewN | apply Kd.R_drew)); exact HO371.out) (Kd.R_base ho48) hb); have n4_ := Aside0.mk (Kd.R_elder' (by (with_reducible repeat (first | apply Kd.R_alloc | apply Kd.R_drewN | apply Kd.R_drew)); exact HO374.out) (Kd.R_base ho48) hb); have n5_ := Aside0.mk (Kd.R_elder' (by (with_reducible repeat (first | apply Kd.R_alloc | apply Kd.R_drewN | apply Kd.R_drew)); exact HO377.out) (Kd.R_base ho48) hb); have n6_ := Aside0.mk (Kd.R_elder' (by (with_reducible repeat (first | apply Kd.R_alloc | apply Kd.R_drewN | apply Kd.R_drew)); exact HO381.out) (Kd.R_base ho48) hb); have n7_ := Aside0.mk (Kd.R_elder' (by (with_reducible repeat (first | apply Kd.R_alloc | apply Kd.R_drewN | apply Kd.R_drew)); exact HO384.out) (Kd.R_base ho48) hb); have n8_ := Aside0.mk (Kd.R_elder' (by (with_reducible repeat (first | apply Kd.R_alloc | apply Kd.R_drewN | apply Kd.R_drew)); exact HO389.out) (Kd.R_base ho48) hb); have n9_ := Aside0.mk (Kd.R_elder' (by (with_reducible repeat (first | apply Kd.R_alloc | apply Kd.R_drewN | apply Kd.R_drew)); exact HO395.out) (Kd.R_base ho48) hb); have n10_ := Aside0.mk (Kd.R_lower (Kd.R_new' (Kd.R_new' (Kd.R_new' (Kd.R_new' (Kd.R_new' (Kd.R_new' (Kd.R_new' (Kd.R_new' (Kd.R_new' (Kd.R_new' ho48 (Kd.R_lt (by (with_reducible repeat (first | apply Kd.R_alloc | apply Kd.R_drewN | apply Kd.R_drew)); exact HO360.out))) (Kd.R_lt (by (with_reducible repeat (first | apply Kd.R_alloc | apply Kd.R_drewN | apply Kd.R_drew)); exact HO364.out))) (Kd.R_lt (by (with_reducible repeat (first | apply Kd.R_alloc | apply Kd.R_drewN | apply Kd.R_drew)); exact HO367.out))) (Kd.R_lt (by (with_reducible repeat (first | apply Kd.R_alloc | apply Kd.R_drewN | apply Kd.R_drew)); exact HO371.out))) (Kd.R_lt (by (with_reducible repeat (first | apply Kd.R_alloc | apply Kd.R_drewN | apply Kd.R_drew)); exact HO374.out))) (Kd.R_lt (by (with_reducible repeat (first | apply Kd.R_alloc | apply Kd.R_drewN | apply Kd.R_drew)); exact HO377.out))) (Kd.R_lt (by (with_reducible repeat (first | apply Kd.R_alloc | apply Kd.R_drewN | apply Kd.R_drew)); exact HO381.out))) (Kd.R_lt (by (with_reducible repeat (first | apply Kd.R_alloc | apply Kd.R_drewN | apply Kd.R_drew)); exact HO384.out))) (Kd.R_lt (by (with_reducible repeat (first | apply Kd.R_alloc | apply Kd.R_drewN | apply Kd.R_drew)); exact HO389.out))) (Kd.R_lt (by (with_reducible repeat (first | apply Kd.R_alloc | apply Kd.R_drewN | apply Kd.R_drew)); exact HO395.out))) (below_size (by repeat (first | (with_reducible first | exact HB.out | apply below_alloc | apply pw_below_drewN | apply below_drew1) | exact HB.out)))); have n11_ := Aside0.mk (below_step (by repeat (first | (with_reducible first | exact HB.out | apply below_alloc | apply pw_below_drewN | apply below_drew1) | exact HB.out)) hb); clear HO360; clear HO364; clear HO367; clear HO371; clear HO374; clear HO377; clear HO381; clear HO384; clear HO389; clear HO395; clear HB; have HO360 := n0_; have HO364 := n1_; have HO367 := n2_; have HO371 := n3_; have HO374 := n4_; have HO377 := n5_; have HO381 := n6_; have HO384 := n7_; have HO389 := n8_; have HO395 := n9_; have HO399 := n10_; have HB := n11_; clear n0_ n1_ n2_ n3_ n4_ n5_ n6_ n7_ n8_ n9_ n10_ n11_; clear hb ho48; obtain ⟨Ao49, co49, eo49⟩ := Kd.R_slice HO399.out; subst eo49) | (go_at_call 16; (with_reducible refine (levin_Power.calls k _ _ y397 t400 _ ?side1 ?side2 A17.out).mono ?_); (case side1 => repeat (first | exact (Kd.R_reads' HO399.out).2.2 | (with_reducible refine Kd.C_alloc ?_ _) | (with_reducible refine Kd.C_drewN ?_ _) | (with_reducible refine Kd.C_drew ?_))); (case side2 => exact (Kd.R_reads' HO399.out).2.1); rintro e w50 ⟨rfl, hb⟩; have n0_ := Aside0.mk (Kd.R_below (by (with_reducible repeat (first | apply Kd.R_alloc | apply Kd.R_drewN | apply Kd.R_drew)); exact HO360.out) hb); have n1_ := Aside0.mk (Kd.R_below (by (with_reducible repeat (first | apply Kd.R_alloc | apply Kd.R_drewN | apply Kd.R_drew)); exact HO364.out) hb); have n2_ := Aside0.mk (Kd.R_below (by (with_reducible repeat (first | apply Kd.R_alloc | apply Kd.R_drewN | apply Kd.R_drew)); exact HO367.out) hb); have n3_ := Aside0.mk (Kd.R_below (by (with_reducible repeat (first | apply Kd.R_alloc | apply Kd.R_drewN | apply Kd.R_drew)); exact HO371.out) hb); have n4_ := Aside0.mk (Kd.R_below (by (with_reducible repeat (first | apply Kd.R_alloc | apply Kd.R_drewN | apply Kd.R_drew)); exact HO374.out) hb); have n5_ := Aside0.mk (Kd.R_below (by (with_reducible repeat (first | apply Kd.R_alloc | apply Kd.R_drewN | apply Kd.R_drew)); exact HO377.out) hb); have n6_ := Aside0.mk (Kd.R_below (by (with_reducible repeat (first | apply Kd.R_alloc | apply Kd.R_drewN | apply Kd.R_drew)); exact HO381.out) hb); have n7_ := Aside0.mk (Kd.R_below (by (with_reducible repeat (first | apply Kd.R_alloc | apply Kd.R_drewN | apply Kd.R_drew)); exact HO384.out) hb); have n8_ := Aside0.mk (Kd.R_below (by (with_reducible repeat (first | apply Kd.R_alloc | apply Kd.R_drewN | apply Kd.R_drew)); exact HO389.out) hb); have n9_ := Aside0.mk (Kd.R_below (by (with_reducible repeat (first | apply Kd.R_alloc | apply Kd.R_drewN | apply Kd.R_drew)); exact HO395.out) hb); have n10_ := Aside0.mk (Kd.R_below (by (with_reducible repeat (first | apply Kd.R_alloc | apply Kd.R_drewN | apply Kd.R_drew)); exact HO399.out) hb); have n11_ := Aside0.mk (below_step (by repeat (first | (with_reducible first | exact HB.out | apply below_alloc | apply pw_below_drewN | apply below_drew1) | exact HB.out)) hb); clear HO360; clear HO364; clear HO367; clear HO371; clear HO374; clear HO377; clear HO381; clear HO384; clear HO389; clear HO395; clear HO399; clear HB; have HO360 := n0_; have HO364 := n1_; have HO367 := n2_; have HO371 := n3_; have HO374 := n4_; have HO377 := n5_; have HO381 := n6_; have HO384 := n7_; have HO389 := n8_; have HO395 := n9_; have HO399 := n10_; have HB := n11_; clear n0_ n1_ n2_ n3_ n4_ n5_ n6_ n7_ n8_ n9_ n10_ n11_; (try clear hb); (try clear hb2); (try clear hk); (try clear hi)))
            go_ret
            exact ⟨by first | rfl | (simp [errW_none, errW_some] <;> rfl) | (simp [*, errW_none, errW_some] <;> rfl), by repeat (first | (with_reducible first | exact HB.out | apply below_alloc | apply pw_below_drewN | apply below_drew1) | exact HB.out)⟩
           ·
            rw [if_neg c18] at H
            have c18b0 : (t400 == 25) = false := beq_eq_false_iff_ne.mpr c18
            have c18b1 : (t400 != 25) = true := bne_iff_ne.mpr c18
            exact absurd ((Option.some.inj H).trans HRT.out) (by simp)
          ·
           replace c16 := Bool.eq_false_iff.mpr c16
           subst c16
           have H1 : (some false) = some r := by rw [if_neg (show ¬ (false = true) by decide)] at H; exact H
           clear H
           have H := H1
           clear H1
           exact absurd ((Option.some.inj H).trans HRT.out) (by simp)
         ·
          rw [if_neg c14] at H
          have c14b0 : (t379 == 0) = false := beq_eq_false_iff_ne.mpr c14
          have c14b1 : (t379 != 0) = true := bne_iff_ne.mpr c14
          exact absurd ((Option.some.inj H).trans HRT.out) (by simp)
        ·
         rw [if_neg c13] at H
         have c13b0 : decide ((rd t368 0) < 2060) = false := decide_eq_false c13
         clear c13
         exact absurd ((Option.some.inj H).trans HRT.out) (by simp)
       ·
        rw [if_neg c12] at H
        have c12b0 : decide (2000 < (rd t368 0)) = false := decide_eq_false c12
        clear c12
        exact absurd ((Option.some.inj H).trans HRT.out) (by simp)
      ·
       rw [if_neg c11] at H
       exact absurd H (by simp)
     ·
      rw [if_neg c10] at H
      have c10b0 : ((t368.length : Int) == 1) = false := beq_eq_false_iff_ne.mpr c10
      have c10b1 : ((t368.length : Int) != 1) = true := bne_iff_ne.mpr c10
      exact absurd ((Option.some.inj H).trans HRT.out) (by simp)
    ·
     rw [if_neg c9] at H
     have c9b0 : (t369 == 0) = false := beq_eq_false_iff_ne.mpr c9
     have c9b1 : (t369 != 0) = true := bne_iff_ne.mpr c9
     exact absurd ((Option.some.inj H).trans HRT.out) (by simp)
   ·
    replace c8 := Bool.eq_false_iff.mpr c8
    subst c8
    have H1 : (some false) = some r := by rw [if_neg (show ¬ (false = true) by decide)] at H; exact H
    clear H
    have H := H1
    clear H1
    exact absurd ((Option.some.inj H).trans HRT.out) (by simp)
  ·
   rw [if_neg c6] at H
   have c6b0 : (t362 == 0) = false := beq_eq_false_iff_ne.mpr c6
   have c6b1 : (t362 != 0) = true := bne_iff_ne.mpr c6
   exact absurd ((Option.some.inj H).trans HRT.out) (by simp)
 ·
  rw [if_neg c4] at H
  exact absurd H (by simp)

set_option maxRecDepth 1000000 in
theorem madrigallaw12_awake0.answers : madrigallaw12_awake0.f 3000 = some true := by kernel_rfl
def madrigallaw12_awake.f : Option Bool := some true
theorem madrigallaw12_awake.calls (r : Bool) (w : World) (h : madrigallaw12_awake.f = some r) :
  Calls Try.prog 10 #[] w fun e w' => e = .returned (.bool r) ∧ Below w.heap.size w w' := by
 obtain rfl : r = true := (Option.some.inj h).symm
 exact madrigallaw12_awake0.calls 3000 true w rfl madrigallaw12_awake0.answers

/-! ### madrigallaw12_LevinKnown: function 3 -/
def madrigallaw12_LevinKnown.f (k : Nat)  : Option (Bool) := (madrigallaw12_awake.f).bind fun t401 => (if t401 = true then ((levin_Auto.f k ([] : List Int) 0).bind fun bt402 => ((levin_Solve.f k (([1] : List Int))).bind fun bt409 => ((levin_Solve.f k (([0, 5] : List Int))).bind fun bt416 => (if 961 ≤ 35184372088832 then ((levin_Rest.f k (List.replicate 961 0) ([] : List Int)).bind fun bt423 => ((levin_Best.f k ([] : List Int) 11).bind fun bt427 => ((levin_Best.f k ([] : List Int) 16).bind fun bt429 => (if bt402.2 = 1 then (if bt409.2 = 1 then (if bt416.2 = 0 then ((madrigallaw12_same.f k bt416.1 (([0] : List Int))).bind fun t434 => (if t434 = true then (if bt423.2 = 1 then (if bt427.2 = 1 then (if bt429.2 = 0 then (if bt429.1 = 0 then ((levin_Power.f k ([] : List Int)).bind fun t435 => (some (t435 == 0))) else (some false)) else (some false)) else (some false)) else (some false)) else (some false))) else (some false)) else (some false)) else (some false))))) else (none))))) else (some false))
set_option maxHeartbeats 8000000 in
set_option maxRecDepth 100000 in
theorem madrigallaw12_LevinKnown.calls (k : Nat)  (r : Bool) (w : World) (hrt : r = true) (h : madrigallaw12_LevinKnown.f k  = some r) :
  Calls Try.prog 3 #[] w fun e w' => e = .returned (.bool r) ∧ Below w.heap.size w w' := by
 have HRT := Aside0.mk hrt
 clear hrt
 have HB := Aside0.mk (Below.refl w.heap.size w)
 have H : ((madrigallaw12_awake.f).bind fun t401 => (if t401 = true then ((levin_Auto.f k ([] : List Int) 0).bind fun bt402 => ((levin_Solve.f k (([1] : List Int))).bind fun bt409 => ((levin_Solve.f k (([0, 5] : List Int))).bind fun bt416 => (if 961 ≤ 35184372088832 then ((levin_Rest.f k (List.replicate 961 0) ([] : List Int)).bind fun bt423 => ((levin_Best.f k ([] : List Int) 11).bind fun bt427 => ((levin_Best.f k ([] : List Int) 16).bind fun bt429 => (if bt402.2 = 1 then (if bt409.2 = 1 then (if bt416.2 = 0 then ((madrigallaw12_same.f k bt416.1 (([0] : List Int))).bind fun t434 => (if t434 = true then (if bt423.2 = 1 then (if bt427.2 = 1 then (if bt429.2 = 0 then (if bt429.1 = 0 then ((levin_Power.f k ([] : List Int)).bind fun t435 => (some (t435 == 0))) else (some false)) else (some false)) else (some false)) else (some false)) else (some false))) else (some false)) else (some false)) else (some false))))) else (none))))) else (some false))) = some r := h
 clear h
 replace H := Option.bind_eq_some_iff.mp H
 obtain ⟨t401, A10, H⟩ := H
 replace H : (if t401 = true then ((levin_Auto.f k ([] : List Int) 0).bind fun bt402 => ((levin_Solve.f k (([1] : List Int))).bind fun bt409 => ((levin_Solve.f k (([0, 5] : List Int))).bind fun bt416 => (if 961 ≤ 35184372088832 then ((levin_Rest.f k (List.replicate 961 0) ([] : List Int)).bind fun bt423 => ((levin_Best.f k ([] : List Int) 11).bind fun bt427 => ((levin_Best.f k ([] : List Int) 16).bind fun bt429 => (if bt402.2 = 1 then (if bt409.2 = 1 then (if bt416.2 = 0 then ((madrigallaw12_same.f k bt416.1 (([0] : List Int))).bind fun t434 => (if t434 = true then (if bt423.2 = 1 then (if bt427.2 = 1 then (if bt429.2 = 0 then (if bt429.1 = 0 then ((levin_Power.f k ([] : List Int)).bind fun t435 => (some (t435 == 0))) else (some false)) else (some false)) else (some false)) else (some false)) else (some false))) else (some false)) else (some false)) else (some false))))) else (none))))) else (some false)) = some r := H
 have A1 := Aside0.mk A10
 clear A10
 by_cases c2 : t401 = true
 ·
  subst c2
  have H1 : ((levin_Auto.f k ([] : List Int) 0).bind fun bt402 => ((levin_Solve.f k (([1] : List Int))).bind fun bt409 => ((levin_Solve.f k (([0, 5] : List Int))).bind fun bt416 => (if 961 ≤ 35184372088832 then ((levin_Rest.f k (List.replicate 961 0) ([] : List Int)).bind fun bt423 => ((levin_Best.f k ([] : List Int) 11).bind fun bt427 => ((levin_Best.f k ([] : List Int) 16).bind fun bt429 => (if bt402.2 = 1 then (if bt409.2 = 1 then (if bt416.2 = 0 then ((madrigallaw12_same.f k bt416.1 (([0] : List Int))).bind fun t434 => (if t434 = true then (if bt423.2 = 1 then (if bt427.2 = 1 then (if bt429.2 = 0 then (if bt429.1 = 0 then ((levin_Power.f k ([] : List Int)).bind fun t435 => (some (t435 == 0))) else (some false)) else (some false)) else (some false)) else (some false)) else (some false))) else (some false)) else (some false)) else (some false))))) else (none))))) = some r := by rw [if_pos rfl] at H; exact H
  clear H
  have H := H1
  clear H1
  replace H := Option.bind_eq_some_iff.mp H
  obtain ⟨⟨t402, t403⟩, A30, H⟩ := H
  replace H : ((levin_Solve.f k (([1] : List Int))).bind fun bt409 => ((levin_Solve.f k (([0, 5] : List Int))).bind fun bt416 => (if 961 ≤ 35184372088832 then ((levin_Rest.f k (List.replicate 961 0) ([] : List Int)).bind fun bt423 => ((levin_Best.f k ([] : List Int) 11).bind fun bt427 => ((levin_Best.f k ([] : List Int) 16).bind fun bt429 => (if t403 = 1 then (if bt409.2 = 1 then (if bt416.2 = 0 then ((madrigallaw12_same.f k bt416.1 (([0] : List Int))).bind fun t434 => (if t434 = true then (if bt423.2 = 1 then (if bt427.2 = 1 then (if bt429.2 = 0 then (if bt429.1 = 0 then ((levin_Power.f k ([] : List Int)).bind fun t435 => (some (t435 == 0))) else (some false)) else (some false)) else (some false)) else (some false)) else (some false))) else (some false)) else (some false)) else (some false))))) else (none)))) = some r := H
  have A3 := Aside0.mk A30
  clear A30
  obtain ⟨y406, hy406⟩ : ∃ y_ : List Int, y_ = (([1] : List Int)) := ⟨_, rfl⟩
  replace H : ((levin_Solve.f k y406).bind fun bt409 => ((levin_Solve.f k (([0, 5] : List Int))).bind fun bt416 => (if 961 ≤ 35184372088832 then ((levin_Rest.f k (List.replicate 961 0) ([] : List Int)).bind fun bt423 => ((levin_Best.f k ([] : List Int) 11).bind fun bt427 => ((levin_Best.f k ([] : List Int) 16).bind fun bt429 => (if t403 = 1 then (if bt409.2 = 1 then (if bt416.2 = 0 then ((madrigallaw12_same.f k bt416.1 (([0] : List Int))).bind fun t434 => (if t434 = true then (if bt423.2 = 1 then (if bt427.2 = 1 then (if bt429.2 = 0 then (if bt429.1 = 0 then ((levin_Power.f k ([] : List Int)).bind fun t435 => (some (t435 == 0))) else (some false)) else (some false)) else (some false)) else (some false)) else (some false))) else (some false)) else (some false)) else (some false))))) else (none)))) = some r := by first | (rw [hy406]; with_reducible exact H) | (have H2_ := (Option.bind_some _ _).symm.trans H; rw [hy406]; with_reducible exact H2_) | (have H2_ := (Option.bind_some _ _).symm.trans H; with_reducible exact H2_) | with_reducible exact H | (rw [hy406]; exact H) | exact H
  have Ny406 := Aside0.mk hy406
  clear hy406
  replace H := Option.bind_eq_some_iff.mp H
  obtain ⟨⟨t409, t410⟩, A40, H⟩ := H
  replace H : ((levin_Solve.f k (([0, 5] : List Int))).bind fun bt416 => (if 961 ≤ 35184372088832 then ((levin_Rest.f k (List.replicate 961 0) ([] : List Int)).bind fun bt423 => ((levin_Best.f k ([] : List Int) 11).bind fun bt427 => ((levin_Best.f k ([] : List Int) 16).bind fun bt429 => (if t403 = 1 then (if t410 = 1 then (if bt416.2 = 0 then ((madrigallaw12_same.f k bt416.1 (([0] : List Int))).bind fun t434 => (if t434 = true then (if bt423.2 = 1 then (if bt427.2 = 1 then (if bt429.2 = 0 then (if bt429.1 = 0 then ((levin_Power.f k ([] : List Int)).bind fun t435 => (some (t435 == 0))) else (some false)) else (some false)) else (some false)) else (some false)) else (some false))) else (some false)) else (some false)) else (some false))))) else (none))) = some r := H
  have A4 := Aside0.mk A40
  clear A40
  obtain ⟨y413, hy413⟩ : ∃ y_ : List Int, y_ = (([0, 5] : List Int)) := ⟨_, rfl⟩
  replace H : ((levin_Solve.f k y413).bind fun bt416 => (if 961 ≤ 35184372088832 then ((levin_Rest.f k (List.replicate 961 0) ([] : List Int)).bind fun bt423 => ((levin_Best.f k ([] : List Int) 11).bind fun bt427 => ((levin_Best.f k ([] : List Int) 16).bind fun bt429 => (if t403 = 1 then (if t410 = 1 then (if bt416.2 = 0 then ((madrigallaw12_same.f k bt416.1 (([0] : List Int))).bind fun t434 => (if t434 = true then (if bt423.2 = 1 then (if bt427.2 = 1 then (if bt429.2 = 0 then (if bt429.1 = 0 then ((levin_Power.f k ([] : List Int)).bind fun t435 => (some (t435 == 0))) else (some false)) else (some false)) else (some false)) else (some false)) else (some false))) else (some false)) else (some false)) else (some false))))) else (none))) = some r := by first | (rw [hy413]; with_reducible exact H) | (have H2_ := (Option.bind_some _ _).symm.trans H; rw [hy413]; with_reducible exact H2_) | (have H2_ := (Option.bind_some _ _).symm.trans H; with_reducible exact H2_) | with_reducible exact H | (rw [hy413]; exact H) | exact H
  have Ny413 := Aside0.mk hy413
  clear hy413
  replace H := Option.bind_eq_some_iff.mp H
  obtain ⟨⟨t416, t417⟩, A50, H⟩ := H
  replace H : (if 961 ≤ 35184372088832 then ((levin_Rest.f k (List.replicate 961 0) ([] : List Int)).bind fun bt423 => ((levin_Best.f k ([] : List Int) 11).bind fun bt427 => ((levin_Best.f k ([] : List Int) 16).bind fun bt429 => (if t403 = 1 then (if t410 = 1 then (if t417 = 0 then ((madrigallaw12_same.f k t416 (([0] : List Int))).bind fun t434 => (if t434 = true then (if bt423.2 = 1 then (if bt427.2 = 1 then (if bt429.2 = 0 then (if bt429.1 = 0 then ((levin_Power.f k ([] : List Int)).bind fun t435 => (some (t435 == 0))) else (some false)) else (some false)) else (some false)) else (some false)) else (some false))) else (some false)) else (some false)) else (some false))))) else (none)) = some r := H
  have A5 := Aside0.mk A50
  clear A50
  by_cases c6 : 961 ≤ 35184372088832
  ·
   rw [if_pos c6] at H
   have c6b0 := eq_true c6
   have c6b1 : decide (961 ≤ 35184372088832) = true := decide_eq_true c6
   clear c6
   obtain ⟨y420, hy420⟩ : ∃ y_ : List Int, y_ = (List.replicate 961 0) := ⟨_, rfl⟩
   replace H : ((levin_Rest.f k y420 ([] : List Int)).bind fun bt423 => ((levin_Best.f k ([] : List Int) 11).bind fun bt427 => ((levin_Best.f k ([] : List Int) 16).bind fun bt429 => (if t403 = 1 then (if t410 = 1 then (if t417 = 0 then ((madrigallaw12_same.f k t416 (([0] : List Int))).bind fun t434 => (if t434 = true then (if bt423.2 = 1 then (if bt427.2 = 1 then (if bt429.2 = 0 then (if bt429.1 = 0 then ((levin_Power.f k ([] : List Int)).bind fun t435 => (some (t435 == 0))) else (some false)) else (some false)) else (some false)) else (some false)) else (some false))) else (some false)) else (some false)) else (some false))))) = some r := by first | (rw [hy420]; with_reducible exact H) | (have H2_ := (Option.bind_some _ _).symm.trans H; rw [hy420]; with_reducible exact H2_) | (have H2_ := (Option.bind_some _ _).symm.trans H; with_reducible exact H2_) | with_reducible exact H | (rw [hy420]; exact H) | exact H
   have Ny420 := Aside0.mk hy420
   clear hy420
   replace H := Option.bind_eq_some_iff.mp H
   obtain ⟨⟨t423, t424⟩, A70, H⟩ := H
   replace H : ((levin_Best.f k ([] : List Int) 11).bind fun bt427 => ((levin_Best.f k ([] : List Int) 16).bind fun bt429 => (if t403 = 1 then (if t410 = 1 then (if t417 = 0 then ((madrigallaw12_same.f k t416 (([0] : List Int))).bind fun t434 => (if t434 = true then (if t424 = 1 then (if bt427.2 = 1 then (if bt429.2 = 0 then (if bt429.1 = 0 then ((levin_Power.f k ([] : List Int)).bind fun t435 => (some (t435 == 0))) else (some false)) else (some false)) else (some false)) else (some false)) else (some false))) else (some false)) else (some false)) else (some false)))) = some r := H
   have A7 := Aside0.mk A70
   clear A70
   replace H := Option.bind_eq_some_iff.mp H
   obtain ⟨⟨t427, t428⟩, A80, H⟩ := H
   replace H : ((levin_Best.f k ([] : List Int) 16).bind fun bt429 => (if t403 = 1 then (if t410 = 1 then (if t417 = 0 then ((madrigallaw12_same.f k t416 (([0] : List Int))).bind fun t434 => (if t434 = true then (if t424 = 1 then (if t428 = 1 then (if bt429.2 = 0 then (if bt429.1 = 0 then ((levin_Power.f k ([] : List Int)).bind fun t435 => (some (t435 == 0))) else (some false)) else (some false)) else (some false)) else (some false)) else (some false))) else (some false)) else (some false)) else (some false))) = some r := H
   have A8 := Aside0.mk A80
   clear A80
   replace H := Option.bind_eq_some_iff.mp H
   obtain ⟨⟨t429, t430⟩, A90, H⟩ := H
   replace H : (if t403 = 1 then (if t410 = 1 then (if t417 = 0 then ((madrigallaw12_same.f k t416 (([0] : List Int))).bind fun t434 => (if t434 = true then (if t424 = 1 then (if t428 = 1 then (if t430 = 0 then (if t429 = 0 then ((levin_Power.f k ([] : List Int)).bind fun t435 => (some (t435 == 0))) else (some false)) else (some false)) else (some false)) else (some false)) else (some false))) else (some false)) else (some false)) else (some false)) = some r := H
   have A9 := Aside0.mk A90
   clear A90
   by_cases c10 : t403 = 1
   ·
    rw [if_pos c10] at H
    have c10b0 : (t403 == 1) = true := beq_iff_eq.mpr c10
    have c10b1 : (t403 != 1) = false := bne_eq_false_iff_eq.mpr c10
    clear c10
    by_cases c11 : t410 = 1
    ·
     rw [if_pos c11] at H
     have c11b0 : (t410 == 1) = true := beq_iff_eq.mpr c11
     have c11b1 : (t410 != 1) = false := bne_eq_false_iff_eq.mpr c11
     clear c11
     by_cases c12 : t417 = 0
     ·
      rw [if_pos c12] at H
      have c12b0 : (t417 == 0) = true := beq_iff_eq.mpr c12
      have c12b1 : (t417 != 0) = false := bne_eq_false_iff_eq.mpr c12
      clear c12
      obtain ⟨y431, hy431⟩ : ∃ y_ : List Int, y_ = (([0] : List Int)) := ⟨_, rfl⟩
      replace H : ((madrigallaw12_same.f k t416 y431).bind fun t434 => (if t434 = true then (if t424 = 1 then (if t428 = 1 then (if t430 = 0 then (if t429 = 0 then ((levin_Power.f k ([] : List Int)).bind fun t435 => (some (t435 == 0))) else (some false)) else (some false)) else (some false)) else (some false)) else (some false))) = some r := by first | (rw [hy431]; with_reducible exact H) | (have H2_ := (Option.bind_some _ _).symm.trans H; rw [hy431]; with_reducible exact H2_) | (have H2_ := (Option.bind_some _ _).symm.trans H; with_reducible exact H2_) | with_reducible exact H | (rw [hy431]; exact H) | exact H
      have Ny431 := Aside0.mk hy431
      clear hy431
      replace H := Option.bind_eq_some_iff.mp H
      obtain ⟨t434, A130, H⟩ := H
      replace H : (if t434 = true then (if t424 = 1 then (if t428 = 1 then (if t430 = 0 then (if t429 = 0 then ((levin_Power.f k ([] : List Int)).bind fun t435 => (some (t435 == 0))) else (some false)) else (some false)) else (some false)) else (some false)) else (some false)) = some r := H
      have A13 := Aside0.mk A130
      clear A130
      by_cases c14 : t434 = true
      ·
       subst c14
       have H1 : (if t424 = 1 then (if t428 = 1 then (if t430 = 0 then (if t429 = 0 then ((levin_Power.f k ([] : List Int)).bind fun t435 => (some (t435 == 0))) else (some false)) else (some false)) else (some false)) else (some false)) = some r := by rw [if_pos rfl] at H; exact H
       clear H
       have H := H1
       clear H1
       by_cases c15 : t424 = 1
       ·
        rw [if_pos c15] at H
        have c15b0 : (t424 == 1) = true := beq_iff_eq.mpr c15
        have c15b1 : (t424 != 1) = false := bne_eq_false_iff_eq.mpr c15
        clear c15
        by_cases c16 : t428 = 1
        ·
         rw [if_pos c16] at H
         have c16b0 : (t428 == 1) = true := beq_iff_eq.mpr c16
         have c16b1 : (t428 != 1) = false := bne_eq_false_iff_eq.mpr c16
         clear c16
         by_cases c17 : t430 = 0
         ·
          rw [if_pos c17] at H
          have c17b0 : (t430 == 0) = true := beq_iff_eq.mpr c17
          have c17b1 : (t430 != 0) = false := bne_eq_false_iff_eq.mpr c17
          clear c17
          by_cases c18 : t429 = 0
          ·
           rw [if_pos c18] at H
           have c18b0 : (t429 == 0) = true := beq_iff_eq.mpr c18
           have c18b1 : (t429 != 0) = false := bne_eq_false_iff_eq.mpr c18
           clear c18
           replace H := Option.bind_eq_some_iff.mp H
           obtain ⟨t435, A190, H⟩ := H
           replace H : (some (t435 == 0)) = some r := H
           have A19 := Aside0.mk A190
           clear A190
           obtain rfl := Option.some.inj H
           go_enter Try.func3, Try.ntmps3
           go_wp2_with (first | ((with_reducible refine gate_callee (f := 10) rfl ?_); refine goesL_ (some 13) rfl rfl Try.func10 (by kernel_rfl) rfl #[] rfl (by (try simp only [List.map_toArray, List.map_cons, List.map_nil]); first | done | rfl | (simp only [List.length_drop, List.length_take]; rfl)) ?_; (with_reducible refine (madrigallaw12_awake.calls  true _ A1.out).mono ?_); rintro e w20 ⟨rfl, hb⟩; refine ⟨_, rfl, ?_⟩; have n0_ := Aside0.mk (below_step (by repeat (first | (with_reducible first | exact HB.out | apply below_alloc | apply pw_below_drewN | apply below_drew1) | exact HB.out)) hb); clear HB; have HB := n0_; clear n0_; (try clear hb); (try clear hb2); (try clear hk); (try clear hi)) | ((with_reducible refine gate_callee (f := 11) rfl ?_); refine goesL_ (some 16) rfl rfl Try.func11 (by kernel_rfl) rfl #[.slice none 0 0, .int .i64 0] rfl (by (try simp only [List.map_toArray, List.map_cons, List.map_nil]); first | done | rfl | (simp only [List.length_drop, List.length_take]; rfl)) ?_; (refine (levin_Auto.calls k _ _ ([] : List Int) 0 t402 t403 _ ?side1 ?side2 A3.out).mono ?_); (case side1 => exact Kd.C_nil _ _); (case side2 => exact Nat.le_refl _); rintro e w21 ⟨v404, rfl, ho0, hb⟩; refine ⟨_, rfl, ?_⟩; have n0_ := Aside0.mk (Kd.R_lower ho0 (below_size (by repeat (first | (with_reducible first | exact HB.out | apply below_alloc | apply pw_below_drewN | apply below_drew1) | exact HB.out)))); have n1_ := Aside0.mk (below_step (by repeat (first | (with_reducible first | exact HB.out | apply below_alloc | apply pw_below_drewN | apply below_drew1) | exact HB.out)) hb); clear HB; have HO405 := n0_; have HB := n1_; clear n0_ n1_; (try clear hb); (try clear hb2); (try clear hk); (try clear hi); (try clear ho0)) | ((with_reducible refine gate_dst (N := 20) rfl ?_); (try (refine gate_guard (by rfl) ?_; dsimp only)); refine Kd.R_lit (Kd.int .i64) _ 2 ?hg (N := 20) ?hd (xs := ([1] : List Int)) (inner := [.int .i64 1]) (ok := fun _ => True) (okp := fun _ => True) ?hr ?hp (fun _ hk => hk) trivial (Below.refl _ _) (Nat.le_refl _) (by simp) ?_; (case hd => rfl); (case hg => rfl); (case hr => first | (go_simp; done) | (go_simp; rfl)); (case hp => exact (Reps.one (show Kd.M (Kd.int .i64) _ _ _ 1 [.int .i64 1] from rfl) (Reps.none _ _))); intro v407 w22 ho23 hb hg_ hnew_; clear hg_ hnew_; (first | rw [← Ny406.out] at ho23 | (simp only [Int.reduceToNat] at ho23; rw [← Ny406.out] at ho23)); have n0_ := Aside0.mk (Kd.R_elder' (by (with_reducible repeat (first | apply Kd.R_alloc | apply Kd.R_drewN | apply Kd.R_drew)); exact HO405.out) (Kd.R_base ho23) hb); have n1_ := Aside0.mk (Kd.R_lower (Kd.R_new' ho23 (Kd.R_lt (by (with_reducible repeat (first | apply Kd.R_alloc | apply Kd.R_drewN | apply Kd.R_drew)); exact HO405.out))) (below_size (by repeat (first | (with_reducible first | exact HB.out | apply below_alloc | apply pw_below_drewN | apply below_drew1) | exact HB.out)))); have n2_ := Aside0.mk (below_step (by repeat (first | (with_reducible first | exact HB.out | apply below_alloc | apply pw_below_drewN | apply below_drew1) | exact HB.out)) hb); clear HO405; clear HB; have HO405 := n0_; have HO408 := n1_; have HB := n2_; clear n0_ n1_ n2_; clear hb ho23; obtain ⟨Ao24, co24, eo24⟩ := Kd.R_slice HO408.out; subst eo24) | ((with_reducible refine gate_callee (f := 12) rfl ?_); refine goesL_ (some 21) rfl rfl Try.func12 (by kernel_rfl) rfl #[.slice Ao24 y406.length co24] rfl (by (try simp only [List.map_toArray, List.map_cons, List.map_nil]); first | done | rfl | (simp only [List.length_drop, List.length_take]; rfl)) ?_; (with_reducible refine (levin_Solve.calls k _ _ y406 t409 t410 _ ?side1 ?side2 A4.out).mono ?_); (case side1 => repeat (first | exact (Kd.R_reads' HO408.out).2.2 | (with_reducible refine Kd.C_alloc ?_ _) | (with_reducible refine Kd.C_drewN ?_ _) | (with_reducible refine Kd.C_drew ?_))); (case side2 => exact (Kd.R_reads' HO408.out).2.1); rintro e w25 ⟨v411, rfl, ho0, hb⟩; refine ⟨_, rfl, ?_⟩; have n0_ := Aside0.mk (Kd.R_elder' (by (with_reducible repeat (first | apply Kd.R_alloc | apply Kd.R_drewN | apply Kd.R_drew)); exact HO405.out) (Kd.R_base ho0) hb); have n1_ := Aside0.mk (Kd.R_elder' (by (with_reducible repeat (first | apply Kd.R_alloc | apply Kd.R_drewN | apply Kd.R_drew)); exact HO408.out) (Kd.R_base ho0) hb); have n2_ := Aside0.mk (Kd.R_lower (Kd.R_new' (Kd.R_new' ho0 (Kd.R_lt (by (with_reducible repeat (first | apply Kd.R_alloc | apply Kd.R_drewN | apply Kd.R_drew)); exact HO405.out))) (Kd.R_lt (by (with_reducible repeat (first | apply Kd.R_alloc | apply Kd.R_drewN | apply Kd.R_drew)); exact HO408.out))) (below_size (by repeat (first | (with_reducible first | exact HB.out | apply below_alloc | apply pw_below_drewN | apply below_drew1) | exact HB.out)))); have n3_ := Aside0.mk (below_step (by repeat (first | (with_reducible first | exact HB.out | apply below_alloc | apply pw_below_drewN | apply below_drew1) | exact HB.out)) hb); clear HO405; clear HO408; clear HB; have HO405 := n0_; have HO408 := n1_; have HO412 := n2_; have HB := n3_; clear n0_ n1_ n2_ n3_; (try clear hb); (try clear hb2); (try clear hk); (try clear hi); (try clear ho0)) | ((with_reducible refine gate_dst (N := 25) rfl ?_); (try (refine gate_guard (by rfl) ?_; dsimp only)); refine Kd.R_lit (Kd.int .i64) _ 2 ?hg (N := 25) ?hd (xs := ([0, 5] : List Int)) (inner := [.int .i64 0, .int .i64 5]) (ok := fun _ => True) (okp := fun _ => True) ?hr ?hp (fun _ hk => hk) trivial (Below.refl _ _) (Nat.le_refl _) (by simp) ?_; (case hd => rfl); (case hg => rfl); (case hr => first | (go_simp; done) | (go_simp; rfl)); (case hp => exact (Reps.one (show Kd.M (Kd.int .i64) _ _ _ 0 [.int .i64 0] from rfl) (Reps.one (show Kd.M (Kd.int .i64) _ _ _ 5 [.int .i64 5] from rfl) (Reps.none _ _)))); intro v414 w26 ho27 hb hg_ hnew_; clear hg_ hnew_; (first | rw [← Ny413.out] at ho27 | (simp only [Int.reduceToNat] at ho27; rw [← Ny413.out] at ho27)); have n0_ := Aside0.mk (Kd.R_elder' (by (with_reducible repeat (first | apply Kd.R_alloc | apply Kd.R_drewN | apply Kd.R_drew)); exact HO405.out) (Kd.R_base ho27) hb); have n1_ := Aside0.mk (Kd.R_elder' (by (with_reducible repeat (first | apply Kd.R_alloc | apply Kd.R_drewN | apply Kd.R_drew)); exact HO408.out) (Kd.R_base ho27) hb); have n2_ := Aside0.mk (Kd.R_elder' (by (with_reducible repeat (first | apply Kd.R_alloc | apply Kd.R_drewN | apply Kd.R_drew)); exact HO412.out) (Kd.R_base ho27) hb); have n3_ := Aside0.mk (Kd.R_lower (Kd.R_new' (Kd.R_new' (Kd.R_new' ho27 (Kd.R_lt (by (with_reducible repeat (first | apply Kd.R_alloc | apply Kd.R_drewN | apply Kd.R_drew)); exact HO405.out))) (Kd.R_lt (by (with_reducible repeat (first | apply Kd.R_alloc | apply Kd.R_drewN | apply Kd.R_drew)); exact HO408.out))) (Kd.R_lt (by (with_reducible repeat (first | apply Kd.R_alloc | apply Kd.R_drewN | apply Kd.R_drew)); exact HO412.out))) (below_size (by repeat (first | (with_reducible first | exact HB.out | apply below_alloc | apply pw_below_drewN | apply below_drew1) | exact HB.out)))); have n4_ := Aside0.mk (below_step (by repeat (first | (with_reducible first | exact HB.out | apply below_alloc | apply pw_below_drewN | apply below_drew1) | exact HB.out)) hb); clear HO405; clear HO408; clear HO412; clear HB; have HO405 := n0_; have HO408 := n1_; have HO412 := n2_; have HO415 := n3_; have HB := n4_; clear n0_ n1_ n2_ n3_ n4_; clear hb ho27; obtain ⟨Ao28, co28, eo28⟩ := Kd.R_slice HO415.out; subst eo28) | ((with_reducible refine gate_callee (f := 12) rfl ?_); refine goesL_ (some 26) rfl rfl Try.func12 (by kernel_rfl) rfl #[.slice Ao28 y413.length co28] rfl (by (try simp only [List.map_toArray, List.map_cons, List.map_nil]); first | done | rfl | (simp only [List.length_drop, List.length_take]; rfl)) ?_; (with_reducible refine (levin_Solve.calls k _ _ y413 t416 t417 _ ?side1 ?side2 A5.out).mono ?_); (case side1 => repeat (first | exact (Kd.R_reads' HO415.out).2.2 | (with_reducible refine Kd.C_alloc ?_ _) | (with_reducible refine Kd.C_drewN ?_ _) | (with_reducible refine Kd.C_drew ?_))); (case side2 => exact (Kd.R_reads' HO415.out).2.1); rintro e w29 ⟨v418, rfl, ho0, hb⟩; refine ⟨_, rfl, ?_⟩; have n0_ := Aside0.mk (Kd.R_elder' (by (with_reducible repeat (first | apply Kd.R_alloc | apply Kd.R_drewN | apply Kd.R_drew)); exact HO405.out) (Kd.R_base ho0) hb); have n1_ := Aside0.mk (Kd.R_elder' (by (with_reducible repeat (first | apply Kd.R_alloc | apply Kd.R_drewN | apply Kd.R_drew)); exact HO408.out) (Kd.R_base ho0) hb); have n2_ := Aside0.mk (Kd.R_elder' (by (with_reducible repeat (first | apply Kd.R_alloc | apply Kd.R_drewN | apply Kd.R_drew)); exact HO412.out) (Kd.R_base ho0) hb); have n3_ := Aside0.mk (Kd.R_elder' (by (with_reducible repeat (first | apply Kd.R_alloc | apply Kd.R_drewN | apply Kd.R_drew)); exact HO415.out) (Kd.R_base ho0) hb); have n4_ := Aside0.mk (Kd.R_lower (Kd.R_new' (Kd.R_new' (Kd.R_new' (Kd.R_new' ho0 (Kd.R_lt (by (with_reducible repeat (first | apply Kd.R_alloc | apply Kd.R_drewN | apply Kd.R_drew)); exact HO405.out))) (Kd.R_lt (by (with_reducible repeat (first | apply Kd.R_alloc | apply Kd.R_drewN | apply Kd.R_drew)); exact HO408.out))) (Kd.R_lt (by (with_reducible repeat (first | apply Kd.R_alloc | apply Kd.R_drewN | apply Kd.R_drew)); exact HO412.out))) (Kd.R_lt (by (with_reducible repeat (first | apply Kd.R_alloc | apply Kd.R_drewN | apply Kd.R_drew)); exact HO415.out))) (below_size (by repeat (first | (with_reducible first | exact HB.out | apply below_alloc | apply pw_below_drewN | apply below_drew1) | exact HB.out)))); have n5_ := Aside0.mk (below_step (by repeat (first | (with_reducible first | exact HB.out | apply below_alloc | apply pw_below_drewN | apply below_drew1) | exact HB.out)) hb); clear HO405; clear HO408; clear HO412; clear HO415; clear HB; have HO405 := n0_; have HO408 := n1_; have HO412 := n2_; have HO415 := n3_; have HO419 := n4_; have HB := n5_; clear n0_ n1_ n2_ n3_ n4_ n5_; (try clear hb); (try clear hb2); (try clear hk); (try clear hi); (try clear ho0)) | ((with_reducible refine gate_dst (N := 30) rfl ?_); (try (refine gate_guard (by rfl) ?_; dsimp only)); refine Kd.R_make (Kd.int .i64) _ 2 rfl (N := 30) rfl 23 _ _ rfl 961 rfl rfl Try.underlying23 (.int .i64 0) 8 info2 rfl (by decide) (by omega) 0 (ok := fun _ => True) (okp := fun _ => True) rfl (fun _ hk => hk) trivial (by omega) (by omega) (Below.refl _ _) (Nat.le_refl _) ?_; intro v421 w30 ho31 hb hg_ hnew_; clear hg_ hnew_; (first | rw [← Ny420.out] at ho31 | (simp only [Int.reduceToNat] at ho31; rw [← Ny420.out] at ho31)); have n0_ := Aside0.mk (Kd.R_elder' (by (with_reducible repeat (first | apply Kd.R_alloc | apply Kd.R_drewN | apply Kd.R_drew)); exact HO405.out) (Kd.R_base ho31) hb); have n1_ := Aside0.mk (Kd.R_elder' (by (with_reducible repeat (first | apply Kd.R_alloc | apply Kd.R_drewN | apply Kd.R_drew)); exact HO408.out) (Kd.R_base ho31) hb); have n2_ := Aside0.mk (Kd.R_elder' (by (with_reducible repeat (first | apply Kd.R_alloc | apply Kd.R_drewN | apply Kd.R_drew)); exact HO412.out) (Kd.R_base ho31) hb); have n3_ := Aside0.mk (Kd.R_elder' (by (with_reducible repeat (first | apply Kd.R_alloc | apply Kd.R_drewN | apply Kd.R_drew)); exact HO415.out) (Kd.R_base ho31) hb); have n4_ := Aside0.mk (Kd.R_elder' (by (with_reducible repeat (first | apply Kd.R_alloc | apply Kd.R_drewN | apply Kd.R_drew)); exact HO419.out) (Kd.R_base ho31) hb); have n5_ := Aside0.mk (Kd.R_lower (Kd.R_new' (Kd.R_new' (Kd.R_new' (Kd.R_new' (Kd.R_new' ho31 (Kd.R_lt (by (with_reducible repeat (first | apply Kd.R_alloc | apply Kd.R_drewN | apply Kd.R_drew)); exact HO405.out))) (Kd.R_lt (by (with_reducible repeat (first | apply Kd.R_alloc | apply Kd.R_drewN | apply Kd.R_drew)); exact HO408.out))) (Kd.R_lt (by (with_reducible repeat (first | apply Kd.R_alloc | apply Kd.R_drewN | apply Kd.R_drew)); exact HO412.out))) (Kd.R_lt (by (with_reducible repeat (first | apply Kd.R_alloc | apply Kd.R_drewN | apply Kd.R_drew)); exact HO415.out))) (Kd.R_lt (by (with_reducible repeat (first | apply Kd.R_alloc | apply Kd.R_drewN | apply Kd.R_drew)); exact HO419.out))) (below_size (by repeat (first | (with_reducible first | exact HB.out | apply below_alloc | apply pw_below_drewN | apply below_drew1) | exact HB.out)))); have n6_ := Aside0.mk (below_step (by repeat (first | (with_reducible first | exact HB.out | apply below_alloc | apply pw_below_drewN | apply below_drew1) | exact HB.out)) hb); clear HO405; clear HO408; clear HO412; clear HO415; clear HO419; clear HB; have HO405 := n0_; have HO408 := n1_; have HO412 := n2_; have HO415 := n3_; have HO419 := n4_; have HO422 := n5_; have HB := n6_; clear n0_ n1_ n2_ n3_ n4_ n5_ n6_; clear hb ho31; obtain ⟨Ao32, co32, eo32⟩ := Kd.R_slice HO422.out; subst eo32) | ((with_reducible refine gate_callee (f := 13) rfl ?_); refine goesL_ (some 31) rfl rfl Try.func13 (by kernel_rfl) rfl #[.slice Ao32 y420.length co32, .slice none 0 0] rfl (by (try simp only [List.map_toArray, List.map_cons, List.map_nil]); first | done | rfl | (simp only [List.length_drop, List.length_take]; rfl)) ?_; (refine (levin_Rest.calls k _ _ y420 _ _ ([] : List Int) t423 t424 _ ?side1 ?side2 ?side3 ?side4 A7.out).mono ?_); (case side1 => repeat (first | exact (Kd.R_reads' HO422.out).2.2 | (with_reducible refine Kd.C_alloc ?_ _) | (with_reducible refine Kd.C_drewN ?_ _) | (with_reducible refine Kd.C_drew ?_))); (case side2 => exact (Kd.R_reads' HO422.out).2.1); (case side3 => exact Kd.C_nil _ _); (case side4 => exact Nat.le_refl _); rintro e w33 ⟨v425, rfl, ho0, hb⟩; refine ⟨_, rfl, ?_⟩; have n0_ := Aside0.mk (Kd.R_elder' (by (with_reducible repeat (first | apply Kd.R_alloc | apply Kd.R_drewN | apply Kd.R_drew)); exact HO405.out) (Kd.R_base ho0) hb); have n1_ := Aside0.mk (Kd.R_elder' (by (with_reducible repeat (first | apply Kd.R_alloc | apply Kd.R_drewN | apply Kd.R_drew)); exact HO408.out) (Kd.R_base ho0) hb); have n2_ := Aside0.mk (Kd.R_elder' (by (with_reducible repeat (first | apply Kd.R_alloc | apply Kd.R_drewN | apply Kd.R_drew)); exact HO412.out) (Kd.R_base ho0) hb); have n3_ := Aside0.mk (Kd.R_elder' (by (with_reducible repeat (first | apply Kd.R_alloc | apply Kd.R_drewN | apply Kd.R_drew)); exact HO415.out) (Kd.R_base ho0) hb); have n4_ := Aside0.mk (Kd.R_elder' (by (with_reducible repeat (first | apply Kd.R_alloc | apply Kd.R_drewN | apply Kd.R_drew)); exact HO419.out) (Kd.R_base ho0) hb); have n5_ := Aside0.mk (Kd.R_elder' (by (with_reducible repeat (first | apply Kd.R_alloc | apply Kd.R_drewN | apply Kd.R_drew)); exact HO422.out) (Kd.R_base ho0) hb); have n6_ := Aside0.mk (Kd.R_lower (Kd.R_new' (Kd.R_new' (Kd.R_new' (Kd.R_new' (Kd.R_new' (Kd.R_new' ho0 (Kd.R_lt (by (with_reducible repeat (first | apply Kd.R_alloc | apply Kd.R_drewN | apply Kd.R_drew)); exact HO405.out))) (Kd.R_lt (by (with_reducible repeat (first | apply Kd.R_alloc | apply Kd.R_drewN | apply Kd.R_drew)); exact HO408.out))) (Kd.R_lt (by (with_reducible repeat (first | apply Kd.R_alloc | apply Kd.R_drewN | apply Kd.R_drew)); exact HO412.out))) (Kd.R_lt (by (with_reducible repeat (first | apply Kd.R_alloc | apply Kd.R_drewN | apply Kd.R_drew)); exact HO415.out))) (Kd.R_lt (by (with_reducible repeat (first | apply Kd.R_alloc | apply Kd.R_drewN | apply Kd.R_drew)); exact HO419.out))) (Kd.R_lt (by (with_reducible repeat (first | apply Kd.R_alloc | apply Kd.R_drewN | apply Kd.R_drew)); exact HO422.out))) (below_size (by repeat (first | (with_reducible first | exact HB.out | apply below_alloc | apply pw_below_drewN | apply below_drew1) | exact HB.out)))); have n7_ := Aside0.mk (below_step (by repeat (first | (with_reducible first | exact HB.out | apply below_alloc | apply pw_below_drewN | apply below_drew1) | exact HB.out)) hb); clear HO405; clear HO408; clear HO412; clear HO415; clear HO419; clear HO422; clear HB; have HO405 := n0_; have HO408 := n1_; have HO412 := n2_; have HO415 := n3_; have HO419 := n4_; have HO422 := n5_; have HO426 := n6_; have HB := n7_; clear n0_ n1_ n2_ n3_ n4_ n5_ n6_ n7_; (try clear hb); (try clear hb2); (try clear hk); (try clear hi); (try clear ho0)) | ((with_reducible refine gate_callee (f := 14) rfl ?_); refine goesL_ (some 35) rfl rfl Try.func14 (by kernel_rfl) rfl #[.slice none 0 0, .int .i64 11] rfl (by (try simp only [List.map_toArray, List.map_cons, List.map_nil]); first | done | rfl | (simp only [List.length_drop, List.length_take]; rfl)) ?_; (refine (levin_Best.calls k _ _ ([] : List Int) 11 t427 t428 _ ?side1 ?side2 A8.out).mono ?_); (case side1 => exact Kd.C_nil _ _); (case side2 => exact Nat.le_refl _); rintro e w34 ⟨rfl, hb⟩; refine ⟨_, rfl, ?_⟩; have n0_ := Aside0.mk (Kd.R_below (by (with_reducible repeat (first | apply Kd.R_alloc | apply Kd.R_drewN | apply Kd.R_drew)); exact HO405.out) hb); have n1_ := Aside0.mk (Kd.R_below (by (with_reducible repeat (first | apply Kd.R_alloc | apply Kd.R_drewN | apply Kd.R_drew)); exact HO408.out) hb); have n2_ := Aside0.mk (Kd.R_below (by (with_reducible repeat (first | apply Kd.R_alloc | apply Kd.R_drewN | apply Kd.R_drew)); exact HO412.out) hb); have n3_ := Aside0.mk (Kd.R_below (by (with_reducible repeat (first | apply Kd.R_alloc | apply Kd.R_drewN | apply Kd.R_drew)); exact HO415.out) hb); have n4_ := Aside0.mk (Kd.R_below (by (with_reducible repeat (first | apply Kd.R_alloc | apply Kd.R_drewN | apply Kd.R_drew)); exact HO419.out) hb); have n5_ := Aside0.mk (Kd.R_below (by (with_reducible repeat (first | apply Kd.R_alloc | apply Kd.R_drewN | apply Kd.R_drew)); exact HO422.out) hb); have n6_ := Aside0.mk (Kd.R_below (by (with_reducible repeat (first | apply Kd.R_alloc | apply Kd.R_drewN | apply Kd.R_drew)); exact HO426.out) hb); have n7_ := Aside0.mk (below_step (by repeat (first | (with_reducible first | exact HB.out | apply below_alloc | apply pw_below_drewN | apply below_drew1) | exact HB.out)) hb); clear HO405; clear HO408; clear HO412; clear HO415; clear HO419; clear HO422; clear HO426; clear HB; have HO405 := n0_; have HO408 := n1_; have HO412 := n2_; have HO415 := n3_; have HO419 := n4_; have HO422 := n5_; have HO426 := n6_; have HB := n7_; clear n0_ n1_ n2_ n3_ n4_ n5_ n6_ n7_; (try clear hb); (try clear hb2); (try clear hk); (try clear hi)) | ((with_reducible refine gate_callee (f := 14) rfl ?_); refine goesL_ (some 39) rfl rfl Try.func14 (by kernel_rfl) rfl #[.slice none 0 0, .int .i64 16] rfl (by (try simp only [List.map_toArray, List.map_cons, List.map_nil]); first | done | rfl | (simp only [List.length_drop, List.length_take]; rfl)) ?_; (refine (levin_Best.calls k _ _ ([] : List Int) 16 t429 t430 _ ?side1 ?side2 A9.out).mono ?_); (case side1 => exact Kd.C_nil _ _); (case side2 => exact Nat.le_refl _); rintro e w35 ⟨rfl, hb⟩; refine ⟨_, rfl, ?_⟩; have n0_ := Aside0.mk (Kd.R_below (by (with_reducible repeat (first | apply Kd.R_alloc | apply Kd.R_drewN | apply Kd.R_drew)); exact HO405.out) hb); have n1_ := Aside0.mk (Kd.R_below (by (with_reducible repeat (first | apply Kd.R_alloc | apply Kd.R_drewN | apply Kd.R_drew)); exact HO408.out) hb); have n2_ := Aside0.mk (Kd.R_below (by (with_reducible repeat (first | apply Kd.R_alloc | apply Kd.R_drewN | apply Kd.R_drew)); exact HO412.out) hb); have n3_ := Aside0.mk (Kd.R_below (by (with_reducible repeat (first | apply Kd.R_alloc | apply Kd.R_drewN | apply Kd.R_drew)); exact HO415.out) hb); have n4_ := Aside0.mk (Kd.R_below (by (with_reducible repeat (first | apply Kd.R_alloc | apply Kd.R_drewN | apply Kd.R_drew)); exact HO419.out) hb); have n5_ := Aside0.mk (Kd.R_below (by (with_reducible repeat (first | apply Kd.R_alloc | apply Kd.R_drewN | apply Kd.R_drew)); exact HO422.out) hb); have n6_ := Aside0.mk (Kd.R_below (by (with_reducible repeat (first | apply Kd.R_alloc | apply Kd.R_drewN | apply Kd.R_drew)); exact HO426.out) hb); have n7_ := Aside0.mk (below_step (by repeat (first | (with_reducible first | exact HB.out | apply below_alloc | apply pw_below_drewN | apply below_drew1) | exact HB.out)) hb); clear HO405; clear HO408; clear HO412; clear HO415; clear HO419; clear HO422; clear HO426; clear HB; have HO405 := n0_; have HO408 := n1_; have HO412 := n2_; have HO415 := n3_; have HO419 := n4_; have HO422 := n5_; have HO426 := n6_; have HB := n7_; clear n0_ n1_ n2_ n3_ n4_ n5_ n6_ n7_; (try clear hb); (try clear hb2); (try clear hk); (try clear hi)) | ((with_reducible refine gate_dst (N := 54) rfl ?_); (try (refine gate_guard (by rfl) ?_; dsimp only)); refine Kd.R_lit (Kd.int .i64) _ 2 ?hg (N := 54) ?hd (xs := ([0] : List Int)) (inner := [.int .i64 0]) (ok := fun _ => True) (okp := fun _ => True) ?hr ?hp (fun _ hk => hk) trivial (Below.refl _ _) (Nat.le_refl _) (by simp) ?_; (case hd => rfl); (case hg => rfl); (case hr => first | (go_simp; done) | (go_simp; rfl)); (case hp => exact (Reps.one (show Kd.M (Kd.int .i64) _ _ _ 0 [.int .i64 0] from rfl) (Reps.none _ _))); intro v432 w36 ho37 hb hg_ hnew_; clear hg_ hnew_; (first | rw [← Ny431.out] at ho37 | (simp only [Int.reduceToNat] at ho37; rw [← Ny431.out] at ho37)); have n0_ := Aside0.mk (Kd.R_elder' (by (with_reducible repeat (first | apply Kd.R_alloc | apply Kd.R_drewN | apply Kd.R_drew)); exact HO405.out) (Kd.R_base ho37) hb); have n1_ := Aside0.mk (Kd.R_elder' (by (with_reducible repeat (first | apply Kd.R_alloc | apply Kd.R_drewN | apply Kd.R_drew)); exact HO408.out) (Kd.R_base ho37) hb); have n2_ := Aside0.mk (Kd.R_elder' (by (with_reducible repeat (first | apply Kd.R_alloc | apply Kd.R_drewN | apply Kd.R_drew)); exact HO412.out) (Kd.R_base ho37) hb); have n3_ := Aside0.mk (Kd.R_elder' (by (with_reducible repeat (first | apply Kd.R_alloc | apply Kd.R_drewN | apply Kd.R_drew)); exact HO415.out) (Kd.R_base ho37) hb); have n4_ := Aside0.mk (Kd.R_elder' (by (with_reducible repeat (first | apply Kd.R_alloc | apply Kd.R_drewN | apply Kd.R_drew)); exact HO419.out) (Kd.R_base ho37) hb); have n5_ := Aside0.mk (Kd.R_elder' (by (with_reducible repeat (first | apply Kd.R_alloc | apply Kd.R_drewN | apply Kd.R_drew)); exact HO422.out) (Kd.R_base ho37) hb); have n6_ := Aside0.mk (Kd.R_elder' (by (with_reducible repeat (first | apply Kd.R_alloc | apply Kd.R_drewN | apply Kd.R_drew)); exact HO426.out) (Kd.R_base ho37) hb); have n7_ := Aside0.mk (Kd.R_lower (Kd.R_new' (Kd.R_new' (Kd.R_new' (Kd.R_new' (Kd.R_new' (Kd.R_new' (Kd.R_new' ho37 (Kd.R_lt (by (with_reducible repeat (first | apply Kd.R_alloc | apply Kd.R_drewN | apply Kd.R_drew)); exact HO405.out))) (Kd.R_lt (by (with_reducible repeat (first | apply Kd.R_alloc | apply Kd.R_drewN | apply Kd.R_drew)); exact HO408.out))) (Kd.R_lt (by (with_reducible repeat (first | apply Kd.R_alloc | apply Kd.R_drewN | apply Kd.R_drew)); exact HO412.out))) (Kd.R_lt (by (with_reducible repeat (first | apply Kd.R_alloc | apply Kd.R_drewN | apply Kd.R_drew)); exact HO415.out))) (Kd.R_lt (by (with_reducible repeat (first | apply Kd.R_alloc | apply Kd.R_drewN | apply Kd.R_drew)); exact HO419.out))) (Kd.R_lt (by (with_reducible repeat (first | apply Kd.R_alloc | apply Kd.R_drewN | apply Kd.R_drew)); exact HO422.out))) (Kd.R_lt (by (with_reducible repeat (first | apply Kd.R_alloc | apply Kd.R_drewN | apply Kd.R_drew)); exact HO426.out))) (below_size (by repeat (first | (with_reducible first | exact HB.out | apply below_alloc | apply pw_below_drewN | apply below_drew1) | exact HB.out)))); have n8_ := Aside0.mk (below_step (by repeat (first | (with_reducible first | exact HB.out | apply below_alloc | apply pw_below_drewN | apply below_drew1) | exact HB.out)) hb); clear HO405; clear HO408; clear HO412; clear HO415; clear HO419; clear HO422; clear HO426; clear HB; have HO405 := n0_; have HO408 := n1_; have HO412 := n2_; have HO415 := n3_; have HO419 := n4_; have HO422 := n5_; have HO426 := n6_; have HO433 := n7_; have HB := n8_; clear n0_ n1_ n2_ n3_ n4_ n5_ n6_ n7_ n8_; clear hb ho37; obtain ⟨Ao38, co38, eo38⟩ := Kd.R_slice HO419.out; subst eo38; obtain ⟨Ao39, co39, eo39⟩ := Kd.R_slice HO433.out; subst eo39) | (go_at_call 15; (with_reducible refine (madrigallaw12_same.calls k _ _ t416 _ _ y431 true _ ?side1 ?side2 ?side3 ?side4 A13.out).mono ?_); (case side1 => repeat (first | exact (Kd.R_reads' HO419.out).2.2 | (with_reducible refine Kd.C_alloc ?_ _) | (with_reducible refine Kd.C_drewN ?_ _) | (with_reducible refine Kd.C_drew ?_))); (case side2 => exact (Kd.R_reads' HO419.out).2.1); (case side3 => repeat (first | exact (Kd.R_reads' HO433.out).2.2 | (with_reducible refine Kd.C_alloc ?_ _) | (with_reducible refine Kd.C_drewN ?_ _) | (with_reducible refine Kd.C_drew ?_))); (case side4 => exact (Kd.R_reads' HO433.out).2.1); rintro e w' ⟨rfl, ⟨nd, rfl⟩⟩) | (go_at_call 16; (refine (levin_Power.calls k _ _ ([] : List Int) t435 _ ?side1 ?side2 A19.out).mono ?_); (case side1 => exact Kd.C_nil _ _); (case side2 => exact Nat.le_refl _); rintro e w40 ⟨rfl, hb⟩; have n0_ := Aside0.mk (Kd.R_below (by (with_reducible repeat (first | apply Kd.R_alloc | apply Kd.R_drewN | apply Kd.R_drew)); exact HO405.out) hb); have n1_ := Aside0.mk (Kd.R_below (by (with_reducible repeat (first | apply Kd.R_alloc | apply Kd.R_drewN | apply Kd.R_drew)); exact HO408.out) hb); have n2_ := Aside0.mk (Kd.R_below (by (with_reducible repeat (first | apply Kd.R_alloc | apply Kd.R_drewN | apply Kd.R_drew)); exact HO412.out) hb); have n3_ := Aside0.mk (Kd.R_below (by (with_reducible repeat (first | apply Kd.R_alloc | apply Kd.R_drewN | apply Kd.R_drew)); exact HO415.out) hb); have n4_ := Aside0.mk (Kd.R_below (by (with_reducible repeat (first | apply Kd.R_alloc | apply Kd.R_drewN | apply Kd.R_drew)); exact HO419.out) hb); have n5_ := Aside0.mk (Kd.R_below (by (with_reducible repeat (first | apply Kd.R_alloc | apply Kd.R_drewN | apply Kd.R_drew)); exact HO422.out) hb); have n6_ := Aside0.mk (Kd.R_below (by (with_reducible repeat (first | apply Kd.R_alloc | apply Kd.R_drewN | apply Kd.R_drew)); exact HO426.out) hb); have n7_ := Aside0.mk (Kd.R_below (by (with_reducible repeat (first | apply Kd.R_alloc | apply Kd.R_drewN | apply Kd.R_drew)); exact HO433.out) hb); have n8_ := Aside0.mk (below_step (by repeat (first | (with_reducible first | exact HB.out | apply below_alloc | apply pw_below_drewN | apply below_drew1) | exact HB.out)) hb); clear HO405; clear HO408; clear HO412; clear HO415; clear HO419; clear HO422; clear HO426; clear HO433; clear HB; have HO405 := n0_; have HO408 := n1_; have HO412 := n2_; have HO415 := n3_; have HO419 := n4_; have HO422 := n5_; have HO426 := n6_; have HO433 := n7_; have HB := n8_; clear n0_ n1_ n2_ n3_ n4_ n5_ n6_ n7_ n8_; (try clear hb); (try clear hb2); (try clear hk); (try clear hi)))
           go_ret
           exact ⟨by first | rfl | (simp [errW_none, errW_some] <;> rfl) | (simp [*, errW_none, errW_some] <;> rfl), by repeat (first | (with_reducible first | exact HB.out | apply below_alloc | apply pw_below_drewN | apply below_drew1) | exact HB.out)⟩
          ·
           rw [if_neg c18] at H
           have c18b0 : (t429 == 0) = false := beq_eq_false_iff_ne.mpr c18
           have c18b1 : (t429 != 0) = true := bne_iff_ne.mpr c18
           exact absurd ((Option.some.inj H).trans HRT.out) (by simp)
         ·
          rw [if_neg c17] at H
          have c17b0 : (t430 == 0) = false := beq_eq_false_iff_ne.mpr c17
          have c17b1 : (t430 != 0) = true := bne_iff_ne.mpr c17
          exact absurd ((Option.some.inj H).trans HRT.out) (by simp)
        ·
         rw [if_neg c16] at H
         have c16b0 : (t428 == 1) = false := beq_eq_false_iff_ne.mpr c16
         have c16b1 : (t428 != 1) = true := bne_iff_ne.mpr c16
         exact absurd ((Option.some.inj H).trans HRT.out) (by simp)
       ·
        rw [if_neg c15] at H
        have c15b0 : (t424 == 1) = false := beq_eq_false_iff_ne.mpr c15
        have c15b1 : (t424 != 1) = true := bne_iff_ne.mpr c15
        exact absurd ((Option.some.inj H).trans HRT.out) (by simp)
      ·
       replace c14 := Bool.eq_false_iff.mpr c14
       subst c14
       have H1 : (some false) = some r := by rw [if_neg (show ¬ (false = true) by decide)] at H; exact H
       clear H
       have H := H1
       clear H1
       exact absurd ((Option.some.inj H).trans HRT.out) (by simp)
     ·
      rw [if_neg c12] at H
      have c12b0 : (t417 == 0) = false := beq_eq_false_iff_ne.mpr c12
      have c12b1 : (t417 != 0) = true := bne_iff_ne.mpr c12
      exact absurd ((Option.some.inj H).trans HRT.out) (by simp)
    ·
     rw [if_neg c11] at H
     have c11b0 : (t410 == 1) = false := beq_eq_false_iff_ne.mpr c11
     have c11b1 : (t410 != 1) = true := bne_iff_ne.mpr c11
     exact absurd ((Option.some.inj H).trans HRT.out) (by simp)
   ·
    rw [if_neg c10] at H
    have c10b0 : (t403 == 1) = false := beq_eq_false_iff_ne.mpr c10
    have c10b1 : (t403 != 1) = true := bne_iff_ne.mpr c10
    exact absurd ((Option.some.inj H).trans HRT.out) (by simp)
  ·
   rw [if_neg c6] at H
   exact absurd H (by simp)
 ·
  replace c2 := Bool.eq_false_iff.mpr c2
  subst c2
  have H1 : (some false) = some r := by rw [if_neg (show ¬ (false = true) by decide)] at H; exact H
  clear H
  have H := H1
  clear H1
  exact absurd ((Option.some.inj H).trans HRT.out) (by simp)

/-- THE ONE PURE STATEMENT of madrigallaw12_LevinKnown: yours. -/
def madrigallaw12_LevinKnown.Pure : Prop := ∃ k, madrigallaw12_LevinKnown.f k  = some true
theorem madrigallaw12_LevinKnown.walk (P : madrigallaw12_LevinKnown.Pure)  (w : World)  :
  Calls Try.prog 3 #[] w fun e w' => e = .returned (.bool true) ∧ Below w.heap.size w w' := by
 obtain ⟨k, h⟩ := P  
 refine (madrigallaw12_LevinKnown.calls k  true w rfl h).mono ?_
 rintro e w' ⟨rfl, hd⟩
 exact ⟨rfl, hd⟩

/-! ### madrigalref1_Clamp: function 32 -/
def madrigalref1_Clamp.j0 : Nat → Int → Int → Int → Bool → Option (Int)
 | 0, _, _, _, _ => none
 | k + 1, x0, x1, x2, x7 => if x7 = true then (some x1) else (if x0 > x2 then (some x2) else (some x0))
def madrigalref1_Clamp.f (k : Nat) (a0 : Int) (a1 : Int) (a2 : Int) : Option (Int) := if a0 < a1 then (madrigalref1_Clamp.j0 k a0 a1 a2 true) else (madrigalref1_Clamp.j0 k a0 a1 a2 (decide (a1 > a2)))
set_option maxHeartbeats 8000000 in
set_option maxRecDepth 100000 in
theorem madrigalref1_Clamp.calls (k : Nat) (a0 : Int) (a1 : Int) (a2 : Int) (r : Int) (w : World) (h : madrigalref1_Clamp.f k a0 a1 a2 = some r) :
  Calls Try.prog 32 #[.int .i64 a0, .int .i64 a1, .int .i64 a2] w fun e w' => e = .returned (.int .i64 r) ∧ Drawn0 w w' := by
 have H : (if a0 < a1 then (madrigalref1_Clamp.j0 k a0 a1 a2 true) else (madrigalref1_Clamp.j0 k a0 a1 a2 (decide (a1 > a2)))) = some r := h
 clear h
 have HC4 := Aside0.mk H
 clear H
 go_enter Try.func32, Try.ntmps32
 go_upto_region 1 with (fail)
 go_cut [7] (fun v7 wc => ∃ (kq : Nat) (x7_3 : Bool), v7 = .bool x7_3 ∧ Aside0 (madrigalref1_Clamp.j0 kq a0 a1 a2 x7_3 = some r) ∧ Aside0 (kq ≤ k) ∧ Drawn0 w wc)
 case first =>
  have H := HC4.out
  clear HC4
  by_cases c5 : a0 < a1
  ·
   rw [if_pos c5] at H
   have c5b0 : decide (a0 < a1) = true := decide_eq_true c5
   clear c5
   (first | rw [c5b0] | (simp only [i64_w, i32_w]; rw [c5b0]) | skip)
   have H' := Aside0.mk H
   clear H
   go_wp2
   go_meet
   case rel => exact ⟨_, (true), (by first | rfl | (simp; done) | (simp [*]; done)), H', ⟨by first | omega | exact Nat.le_refl _⟩, by repeat (first | exact Drawn0.refl _ | apply Drawn0.step)⟩
  ·
   rw [if_neg c5] at H
   have c5b0 : decide (a0 < a1) = false := decide_eq_false c5
   clear c5
   (first | rw [c5b0] | (simp only [i64_w, i32_w]; rw [c5b0]) | skip)
   have H' := Aside0.mk H
   clear H
   go_wp2
   go_meet
   case rel => exact ⟨_, (decide (a1 > a2)), (by first | rfl | (simp; done) | (simp [*]; done)), H', ⟨by first | omega | exact Nat.le_refl _⟩, by repeat (first | exact Drawn0.refl _ | apply Drawn0.step)⟩
 case rest =>
  clear HC4
  (try clear p2); (try clear c3); (try clear c5); (try clear c5b0); (try clear c5b0z0)
  obtain ⟨kq, x7_3, rfl, HA, HJ3, ⟨mc3, rfl⟩⟩ := hcut
  cases kq with
  | zero => exact absurd HA.out (by simp [madrigalref1_Clamp.j0])
  | succ kj3 =>
   have H := HA.out
   clear HA
   simp only [madrigalref1_Clamp.j0] at H
   by_cases c6 : x7_3 = true
   ·
    subst c6
    have H1 : (some a1) = some r := by rw [if_pos rfl] at H; exact H
    clear H
    have H := H1
    clear H1
    obtain rfl := Option.some.inj H
    go_wp2
    go_ret
    exact ⟨by first | rfl | (simp; done) | (simp [*]; done), by repeat (first | exact Drawn0.refl _ | apply Drawn0.step)⟩
   ·
    replace c6 := Bool.eq_false_iff.mpr c6
    subst c6
    have H1 : (if a0 > a2 then (some a2) else (some a0)) = some r := by rw [if_neg (show ¬ (false = true) by decide)] at H; exact H
    clear H
    have H := H1
    clear H1
    by_cases c7 : a0 > a2
    ·
     rw [if_pos c7] at H
     have c7b0 : decide (a2 < a0) = true := decide_eq_true c7
     clear c7
     obtain rfl := Option.some.inj H
     go_wp2
     go_ret
     exact ⟨by first | rfl | (simp; done) | (simp [*]; done), by repeat (first | exact Drawn0.refl _ | apply Drawn0.step)⟩
    ·
     rw [if_neg c7] at H
     have c7b0 : decide (a2 < a0) = false := decide_eq_false c7
     clear c7
     obtain rfl := Option.some.inj H
     go_wp2
     go_ret
     exact ⟨by first | rfl | (simp; done) | (simp [*]; done), by repeat (first | exact Drawn0.refl _ | apply Drawn0.step)⟩

/-! ### madrigalref6_clamped: function 31 -/
def madrigalref6_clamped.l0 : Nat → List Int → Int → Int → List Int → Int → Option (List Int)
 | 0, _, _, _, _, _ => none
 | k + 1, x0, x1, x2, x7, x8 => if x8 < (x0.length : Int) then (if 0 ≤ x8 then ((madrigalref1_Clamp.f k (rd x0 x8) x1 x2).bind fun t437 => (if x7.length < 17592186044416 then (madrigalref6_clamped.l0 k x0 x1 x2 (x7 ++ [t437]) (wrap64 (x8 + 1))) else (none))) else (none)) else (some x7)
def madrigalref6_clamped.f (k : Nat) (l0 : List Int) (a1 : Int) (a2 : Int) : Option (List Int) := madrigalref6_clamped.l0 k l0 a1 a2 ([] : List Int) 0
set_option maxHeartbeats 8000000 in
set_option maxRecDepth 100000 in
theorem madrigalref6_clamped.calls (k : Nat) (A0 : Option Addr) (c0 : Nat) (l0 : List Int) (a1 : Int) (a2 : Int) (r : List Int) (w : World) (hr0 : Kd.C (Kd.int .i64) w A0 l0.length l0) (hc0 : l0.length ≤ c0) (h : madrigalref6_clamped.f k l0 a1 a2 = some r) :
  Calls Try.prog 31 #[.slice A0 l0.length c0, .int .i64 a1, .int .i64 a2] w fun e w' => ∃ v0_ : Value, e = .returned (v0_) ∧ Kd.R (Kd.int .i64) 2 w' w.heap.size (fun _ => True) v0_ r ∧ Below w.heap.size w w' := by
 have HR0 := Aside0.mk hr0
 have HC0 := Aside0.mk hc0
 clear hr0 hc0
 have HB := Aside0.mk (Below.refl w.heap.size w)
 have H : (madrigalref6_clamped.l0 k l0 a1 a2 ([] : List Int) 0) = some r := h
 clear h
 have H' := Aside0.mk H
 clear H
 go_enter Try.func31, Try.ntmps31
 go_wp2
 go_loopg [7, 8] k (fun kq v7 v8 w' => ∃ (x7_1 : List Int) (x8_1 : Int), v8 = .int .i64 x8_1 ∧ Aside0 (madrigalref6_clamped.l0 kq l0 a1 a2 x7_1 x8_1 = some r) ∧ Aside0 (kq ≤ k) ∧ Aside0 (Kd.R (Kd.int .i64) 2 w' w.heap.size (fun _ => True) v7 x7_1) ∧ Aside0 (Below w.heap.size w w'))
 case atStart => exact ⟨(([] : List Int)), (0), (by first | rfl | (simp; done) | (simp [*]; done)), H', ⟨Nat.le_refl _⟩, ⟨by first | exact Kd.R_nil _ _ _ _ _ | exact Kd.N_nil _ _ _ _ _ | exact Kd.V_nil _ _ _ _ _ | exact Kd.Q_nil _ _ _ _ _ | exact Kd.S_nil _ _ _ _ _⟩, ⟨by repeat (first | (with_reducible first | exact HB.out | apply below_alloc | apply pw_below_drewN | apply below_drew1) | exact HB.out)⟩⟩
 case round =>
  clear H'
  (try clear p2); (try clear c3)
  obtain ⟨x7_1, x8_1, rfl, HA, HK1, HO_7, HB⟩ := hrel
  cases gk with
  | zero => exact absurd HA.out (by simp [madrigalref6_clamped.l0])
  | succ k1 =>
   have H := HA.out
   clear HA
   simp only [madrigalref6_clamped.l0] at H
   by_cases c4 : x8_1 < (l0.length : Int)
   ·
    rw [if_pos c4] at H
    have c4b0 : decide (x8_1 < (l0.length : Int)) = true := decide_eq_true c4
    clear c4
    by_cases c5 : 0 ≤ x8_1
    ·
     rw [if_pos c5] at H
     have c5b0 : decide (0 ≤ x8_1) = true := decide_eq_true c5
     clear c5
     replace H := Option.bind_eq_some_iff.mp H
     obtain ⟨t437, A60, H⟩ := H
     replace H : (if x7_1.length < 17592186044416 then (madrigalref6_clamped.l0 k1 l0 a1 a2 (x7_1 ++ [t437]) (wrap64 (x8_1 + 1))) else (none)) = some r := H
     have A6 := Aside0.mk A60
     clear A60
     by_cases c7 : x7_1.length < 17592186044416
     ·
      rw [if_pos c7] at H
      have LMc7 := Aside0.mk c7
      clear c7
      obtain ⟨y438, hy438⟩ : ∃ y_ : List Int, y_ = (x7_1 ++ [t437]) := ⟨_, rfl⟩
      replace H : (madrigalref6_clamped.l0 k1 l0 a1 a2 y438 (wrap64 (x8_1 + 1))) = some r := by first | (rw [hy438]; with_reducible exact H) | (have H2_ := (Option.bind_some _ _).symm.trans H; rw [hy438]; with_reducible exact H2_) | (have H2_ := (Option.bind_some _ _).symm.trans H; with_reducible exact H2_) | with_reducible exact H | (rw [hy438]; exact H) | exact H
      have Ny438 := Aside0.mk hy438
      clear hy438
      have H' := Aside0.mk H
      clear H
      have p436 : 0 ≤ (x8_1 : Int) := of_decide_eq_true (by first | (with_reducible assumption) | assumption)
      have q436 : x8_1 < (l0.length : Int) := of_decide_eq_true (by first | (with_reducible assumption) | assumption)
      obtain ⟨ad436, e436, hx436_0⟩ := Kd.at_int HR0.out x8_1 p436 q436
      cases e436
      replace hx436_0 := (HB.out.cell (World.block_lt_of_cell? w _ hx436_0)).trans hx436_0
      replace p436 := eq_true p436
      replace q436 := eq_true q436
      go_wp2_with (first | ((with_reducible refine gate_callee (f := 32) rfl ?_); refine goesL_ (some 22) rfl rfl Try.func32 (by kernel_rfl) rfl #[.int .i64 (rd l0 x8_1), .int .i64 a1, .int .i64 a2] rfl (by (try simp only [List.map_toArray, List.map_cons, List.map_nil]); first | done | rfl | (simp only [List.length_drop, List.length_take]; rfl)) ?_; (with_reducible refine (madrigalref1_Clamp.calls k1 (rd l0 x8_1) a1 a2 t437 _ A6.out).mono ?_); rintro e w' ⟨rfl, ⟨nd, rfl⟩⟩; refine ⟨_, rfl, ?_⟩) | ((with_reducible refine gate_builtin (b := .append) (xs := #[.tmp 15, .tmp 23]) rfl ?_); at_builtin; refine Kd.R_append (Kd.int .i64) (w0 := w) w.heap.size rfl (.tmp 15) (.tmp 23) 23 2 (.int .i64 0) 8 rfl Try.underlying23 info2 rfl (by decide) (by omega) u7 x7_1 t437 [.int .i64 t437] (fun _ => True) (fun _ => False) rfl rfl ?aP (fun _ hk => hk.elim) ?aF ?aO ?aB ?aS ?aL ?_; (case aP => exact rfl); (case aB => exact (by repeat (first | (with_reducible first | exact HB.out | apply below_alloc | apply pw_below_drewN | apply below_drew1) | exact HB.out))); (case aF => exact (fun _ _ => trivial)); (case aO => exact (by (with_reducible repeat (first | apply Kd.R_alloc | apply Kd.R_drewN | apply Kd.R_drew)); exact HO_7.out)); (case aS => exact (below_size (by repeat (first | (with_reducible first | exact HB.out | apply below_alloc | apply pw_below_drewN | apply below_drew1) | exact HB.out)))); (case aL => have := LMc7.out; omega); intro v439 w8 ho hb hg hat; rw [← Ny438.out] at ho; have n0_ := Aside0.mk (hb); have n1_ := Aside0.mk (ho); clear HB; clear HO_7; have HB := n0_; have HO440 := n1_; clear n0_ n1_; clear ho hb hg hat))
      go_roundg k1
      case measure => have := HK1.out; omega
      case rel => exact ⟨(y438), (wrap64 (x8_1 + 1)), (by first | rfl | (simp; done) | (simp [*]; done)), H', ⟨by have := HK1.out; omega⟩, ⟨by (with_reducible repeat (first | apply Kd.R_alloc | apply Kd.R_drewN | apply Kd.R_drew)); exact HO440.out⟩, ⟨by repeat (first | (with_reducible first | exact HB.out | apply below_alloc | apply pw_below_drewN | apply below_drew1) | exact HB.out)⟩⟩
     ·
      rw [if_neg c7] at H
      exact absurd H (by simp)
    ·
     rw [if_neg c5] at H
     exact absurd H (by simp)
   ·
    rw [if_neg c4] at H
    have c4b0 : decide (x8_1 < (l0.length : Int)) = false := decide_eq_false c4
    clear c4
    obtain rfl := Option.some.inj H
    go_wp2
    go_ret
    exact ⟨_, by first | rfl | (simp [errW_none, errW_some] <;> rfl) | (simp [*, errW_none, errW_some] <;> rfl), by (with_reducible repeat (first | apply Kd.R_alloc | apply Kd.R_drewN | apply Kd.R_drew)); exact HO_7.out, by repeat (first | (with_reducible first | exact HB.out | apply below_alloc | apply pw_below_drewN | apply below_drew1) | exact HB.out)⟩

/-! ### madrigalref6_Auto: function 17 -/
mutual
def madrigalref6_Auto.l0 : Nat → List Int → Int → List Int → Int → Option (List Int)
 | 0, _, _, _, _ => none
 | k + 1, x0, x1, x5, x6 => if x6 ≤ x1 then (madrigalref6_Auto.l1 k x0 x1 x5 x6 0 x6) else (some x5)
def madrigalref6_Auto.l1 : Nat → List Int → Int → List Int → Int → Int → Int → Option (List Int)
 | 0, _, _, _, _, _, _ => none
 | k + 1, x0, x1, x5, x6, x7, x8 => if x8 < (x0.length : Int) then (if 0 ≤ x8 then (if 0 ≤ (wrap64 (x8 - x6)) then (if (wrap64 (x8 - x6)) < (x0.length : Int) then (madrigalref6_Auto.l1 k x0 x1 x5 x6 (wrap64 (x7 + (wrap64 ((rd x0 x8) * (rd x0 (wrap64 (x8 - x6))))))) (wrap64 (x8 + 1))) else (none)) else (none)) else (none)) else (if x5.length < 17592186044416 then (madrigalref6_Auto.l0 k x0 x1 (x5 ++ [x7]) (wrap64 (x6 + 1))) else (none))
end
def madrigalref6_Auto.f (k : Nat) (l0 : List Int) (a1 : Int) : Option (List Int) := (madrigalref6_clamped.f k l0 (-32768) 32767).bind fun t441 => (madrigalref6_Auto.l0 k t441 a1 ([] : List Int) 0)
set_option maxHeartbeats 8000000 in
set_option maxRecDepth 100000 in
theorem madrigalref6_Auto.calls (k : Nat) (A0 : Option Addr) (c0 : Nat) (l0 : List Int) (a1 : Int) (r : List Int) (w : World) (hr0 : Kd.C (Kd.int .i64) w A0 l0.length l0) (hc0 : l0.length ≤ c0) (h : madrigalref6_Auto.f k l0 a1 = some r) :
  Calls Try.prog 17 #[.slice A0 l0.length c0, .int .i64 a1] w fun e w' => ∃ v0_ : Value, e = .returned (v0_) ∧ Kd.R (Kd.int .i64) 2 w' w.heap.size (fun _ => True) v0_ r ∧ Below w.heap.size w w' := by
 have HR0 := Aside0.mk hr0
 have HC0 := Aside0.mk hc0
 clear hr0 hc0
 have HB := Aside0.mk (Below.refl w.heap.size w)
 have H : ((madrigalref6_clamped.f k l0 (-32768) 32767).bind fun t441 => (madrigalref6_Auto.l0 k t441 a1 ([] : List Int) 0)) = some r := h
 clear h
 replace H := Option.bind_eq_some_iff.mp H
 obtain ⟨t441, A30, H⟩ := H
 replace H : (madrigalref6_Auto.l0 k t441 a1 ([] : List Int) 0) = some r := H
 have A3 := Aside0.mk A30
 clear A30
 have H' := Aside0.mk H
 clear H
 go_enter Try.func17, Try.ntmps17
 go_wp2_with (first | (go_at_call 31; (with_reducible refine (madrigalref6_clamped.calls k _ _ l0 (-32768) 32767 t441 _ ?side1 ?side2 A3.out).mono ?_); (case side1 => repeat (first | exact HR0.out | (with_reducible refine Kd.C_alloc ?_ _) | (with_reducible refine Kd.C_drewN ?_ _) | (with_reducible refine Kd.C_drew ?_))); (case side2 => exact HC0.out); rintro e w4 ⟨v442, rfl, ho0, hb⟩; have n0_ := Aside0.mk (Kd.R_lower ho0 (below_size (by repeat (first | (with_reducible first | exact HB.out | apply below_alloc | apply pw_below_drewN | apply below_drew1) | exact HB.out)))); have n1_ := Aside0.mk (below_step (by repeat (first | (with_reducible first | exact HB.out | apply below_alloc | apply pw_below_drewN | apply below_drew1) | exact HB.out)) hb); clear HB; have HO443 := n0_; have HB := n1_; clear n0_ n1_; (try clear hb); (try clear hb2); (try clear hk); (try clear hi); (try clear ho0)))
 repeat (go_quiet (first | (go_at_call 31; (with_reducible refine (madrigalref6_clamped.calls k _ _ l0 (-32768) 32767 t441 _ ?side1 ?side2 A3.out).mono ?_); (case side1 => repeat (first | exact HR0.out | (with_reducible refine Kd.C_alloc ?_ _) | (with_reducible refine Kd.C_drewN ?_ _) | (with_reducible refine Kd.C_drew ?_))); (case side2 => exact HC0.out); rintro e w4 ⟨v442, rfl, ho0, hb⟩; have n0_ := Aside0.mk (Kd.R_lower ho0 (below_size (by repeat (first | (with_reducible first | exact HB.out | apply below_alloc | apply pw_below_drewN | apply below_drew1) | exact HB.out)))); have n1_ := Aside0.mk (below_step (by repeat (first | (with_reducible first | exact HB.out | apply below_alloc | apply pw_below_drewN | apply below_drew1) | exact HB.out)) hb); clear HB; have HO443 := n0_; have HB := n1_; clear n0_ n1_; (try clear hb); (try clear hb2); (try clear hk); (try clear hi); (try clear ho0))); try go_wp2_with (first | (go_at_call 31; (with_reducible refine (madrigalref6_clamped.calls k _ _ l0 (-32768) 32767 t441 _ ?side1 ?side2 A3.out).mono ?_); (case side1 => repeat (first | exact HR0.out | (with_reducible refine Kd.C_alloc ?_ _) | (with_reducible refine Kd.C_drewN ?_ _) | (with_reducible refine Kd.C_drew ?_))); (case side2 => exact HC0.out); rintro e w4 ⟨v442, rfl, ho0, hb⟩; have n0_ := Aside0.mk (Kd.R_lower ho0 (below_size (by repeat (first | (with_reducible first | exact HB.out | apply below_alloc | apply pw_below_drewN | apply below_drew1) | exact HB.out)))); have n1_ := Aside0.mk (below_step (by repeat (first | (with_reducible first | exact HB.out | apply below_alloc | apply pw_below_drewN | apply below_drew1) | exact HB.out)) hb); clear HB; have HO443 := n0_; have HB := n1_; clear n0_ n1_; (try clear hb); (try clear hb2); (try clear hk); (try clear hi); (try clear ho0))))
 go_loopg [5, 6] k (fun kq v5 v6 w' => ∃ (x5_1 : List Int) (x6_1 : Int), v6 = .int .i64 x6_1 ∧ Aside0 (madrigalref6_Auto.l0 kq t441 a1 x5_1 x6_1 = some r) ∧ Aside0 (kq ≤ k) ∧ Aside0 (Kd.R (Kd.int .i64) 2 w' w.heap.size (fun k_ => some k_ ≠ (v5 : Value).ownBlock) v442 t441) ∧ Aside0 (Kd.R (Kd.int .i64) 2 w' w.heap.size (fun k_ => some k_ ≠ (v442 : Value).ownBlock) v5 x5_1) ∧ Aside0 (Below w.heap.size w w'))
 case atStart => exact ⟨(([] : List Int)), (0), (by first | rfl | (simp; done) | (simp [*]; done)), H', ⟨Nat.le_refl _⟩, ⟨by (with_reducible repeat (first | apply Kd.R_alloc | apply Kd.R_drewN | apply Kd.R_drew)); exact Kd.R_mono HO443.out (fun _ hk => (by simp [Value.ownBlock]))⟩, ⟨by first | exact Kd.R_nil _ _ _ _ _ | exact Kd.N_nil _ _ _ _ _ | exact Kd.V_nil _ _ _ _ _ | exact Kd.Q_nil _ _ _ _ _ | exact Kd.S_nil _ _ _ _ _⟩, ⟨by repeat (first | (with_reducible first | exact HB.out | apply below_alloc | apply pw_below_drewN | apply below_drew1) | exact HB.out)⟩⟩
 case round =>
  clear H'
  (try clear c1); (try clear p2)
  obtain ⟨x5_1, x6_1, rfl, HA, HK1, HO_0, HO_5, HB⟩ := hrel
  cases gk with
  | zero => exact absurd HA.out (by simp [madrigalref6_Auto.l0])
  | succ k1 =>
   have H := HA.out
   clear HA
   simp only [madrigalref6_Auto.l0] at H
   by_cases c5 : x6_1 ≤ a1
   ·
    rw [if_pos c5] at H
    have c5b0 : decide (x6_1 ≤ a1) = true := decide_eq_true c5
    clear c5
    have H' := Aside0.mk H
    clear H
    go_wp2
    repeat (go_quiet (fail); try go_wp2)
    go_loopg [7, 8] k1 (fun kq v7 v8 w' => ∃ (x7_2 : Int) (x8_2 : Int), v7 = .int .i64 x7_2 ∧ v8 = .int .i64 x8_2 ∧ Aside0 (madrigalref6_Auto.l1 kq t441 a1 x5_1 x6_1 x7_2 x8_2 = some r) ∧ Aside0 (kq ≤ k1) ∧ Aside0 (Kd.R (Kd.int .i64) 2 w' w.heap.size (fun k_ => some k_ ≠ (u5 : Value).ownBlock) v442 t441) ∧ Aside0 (Kd.R (Kd.int .i64) 2 w' w.heap.size (fun k_ => some k_ ≠ (v442 : Value).ownBlock) u5 x5_1) ∧ Aside0 (Below w.heap.size w w'))
    case atStart => exact ⟨(0), (x6_1), (by first | rfl | (simp; done) | (simp [*]; done)), (by first | rfl | (simp; done) | (simp [*]; done)), H', ⟨Nat.le_refl _⟩, ⟨by (with_reducible repeat (first | apply Kd.R_alloc | apply Kd.R_drewN | apply Kd.R_drew)); exact HO_0.out⟩, ⟨by (with_reducible repeat (first | apply Kd.R_alloc | apply Kd.R_drewN | apply Kd.R_drew)); exact HO_5.out⟩, ⟨by repeat (first | (with_reducible first | exact HB.out | apply below_alloc | apply pw_below_drewN | apply below_drew1) | exact HB.out)⟩⟩
    case round =>
     clear H'
     (try clear c1); (try clear p2); (try clear c5); (try clear c5b0); (try clear c5b0z0); (try clear p2)
     obtain ⟨x7_2, x8_2, rfl, rfl, HA, HK2, HO_0, HO_5, HB⟩ := hrel
     cases gk with
     | zero => exact absurd HA.out (by simp [madrigalref6_Auto.l1])
     | succ k2 =>
      have H := HA.out
      clear HA
      simp only [madrigalref6_Auto.l1] at H
      by_cases c6 : x8_2 < (t441.length : Int)
      ·
       rw [if_pos c6] at H
       have c6b0 : decide (x8_2 < (t441.length : Int)) = true := decide_eq_true c6
       clear c6
       by_cases c7 : 0 ≤ x8_2
       ·
        rw [if_pos c7] at H
        have c7b0 : decide (0 ≤ x8_2) = true := decide_eq_true c7
        clear c7
        obtain ⟨ji8, hji8⟩ : ∃ j_ : Int, (wrap64 (x8_2 - x6_1)) = j_ := ⟨_, rfl⟩
        replace H : (if 0 ≤ (ji8) then (if (ji8) < (t441.length : Int) then (madrigalref6_Auto.l1 k2 t441 a1 x5_1 x6_1 (wrap64 (x7_2 + (wrap64 ((rd t441 x8_2) * (rd t441 (ji8)))))) (wrap64 (x8_2 + 1))) else (none)) else (none)) = some r := by first | (rw [hji8] at H; exact H) | (simp only [hji8] at H ⊢; exact H)
        have hji8w : (IntKind.i64.wrap (x8_2 - x6_1)) = ji8 := (i64_w _).trans hji8
        by_cases c9 : 0 ≤ (ji8)
        ·
         rw [if_pos c9] at H
         have c9b0 : decide (0 ≤ (ji8)) = true := decide_eq_true c9
         clear c9
         by_cases c10 : (ji8) < (t441.length : Int)
         ·
          rw [if_pos c10] at H
          have c10b0 : decide ((ji8) < (t441.length : Int)) = true := decide_eq_true c10
          clear c10
          have H' := Aside0.mk H
          clear H
          obtain ⟨Ao11, co11, eo11⟩ := Kd.R_slice HO_0.out
          subst eo11
          have p444 : 0 ≤ (x8_2 : Int) := of_decide_eq_true (by first | (with_reducible assumption) | assumption)
          have q444 : x8_2 < (t441.length : Int) := of_decide_eq_true (by first | (with_reducible assumption) | assumption)
          obtain ⟨ad444, e444, hx444_0⟩ := Kd.at_int (Kd.R_reads' HO_0.out).2.2 x8_2 p444 q444
          cases e444
          replace p444 := eq_true p444
          replace q444 := eq_true q444
          have p445 : 0 ≤ ((ji8) : Int) := of_decide_eq_true (by first | (with_reducible assumption) | assumption)
          have q445 : (ji8) < (t441.length : Int) := of_decide_eq_true (by first | (with_reducible assumption) | assumption)
          obtain ⟨ad445, e445, hx445_0⟩ := Kd.at_int (Kd.R_reads' HO_0.out).2.2 (ji8) p445 q445
          obtain rfl : ad444 = ad445 := (by injection e445)
          replace p445 := eq_true p445
          replace q445 := eq_true q445
          go_wp2
          repeat (go_quiet (fail); try go_wp2)
          go_roundg k2
          case measure => have := HK1.out; have := HK2.out; omega
          case rel => exact ⟨(wrap64 (x7_2 + (wrap64 ((rd t441 x8_2) * (rd t441 (ji8)))))), (wrap64 (x8_2 + 1)), (by first | rfl | (simp; done) | (simp only [← hji8] <;> (first | rfl | simp)) | (simp [*]; done)), (by first | rfl | (simp; done) | (simp [*]; done)), H', ⟨by have := HK1.out; have := HK2.out; omega⟩, ⟨by (with_reducible repeat (first | apply Kd.R_alloc | apply Kd.R_drewN | apply Kd.R_drew)); exact HO_0.out⟩, ⟨by (with_reducible repeat (first | apply Kd.R_alloc | apply Kd.R_drewN | apply Kd.R_drew)); exact HO_5.out⟩, ⟨by repeat (first | (with_reducible first | exact HB.out | apply below_alloc | apply pw_below_drewN | apply below_drew1) | exact HB.out)⟩⟩
         ·
          rw [if_neg c10] at H
          exact absurd H (by simp)
        ·
         rw [if_neg c9] at H
         exact absurd H (by simp)
       ·
        rw [if_neg c7] at H
        exact absurd H (by simp)
      ·
       rw [if_neg c6] at H
       have c6b0 : decide (x8_2 < (t441.length : Int)) = false := decide_eq_false c6
       clear c6
       by_cases c12 : x5_1.length < 17592186044416
       ·
        rw [if_pos c12] at H
        have LMc12 := Aside0.mk c12
        clear c12
        obtain ⟨y446, hy446⟩ : ∃ y_ : List Int, y_ = (x5_1 ++ [x7_2]) := ⟨_, rfl⟩
        replace H : (madrigalref6_Auto.l0 k2 t441 a1 y446 (wrap64 (x6_1 + 1))) = some r := by first | (rw [hy446]; with_reducible exact H) | (have H2_ := (Option.bind_some _ _).symm.trans H; rw [hy446]; with_reducible exact H2_) | (have H2_ := (Option.bind_some _ _).symm.trans H; with_reducible exact H2_) | with_reducible exact H | (rw [hy446]; exact H) | exact H
        have Ny446 := Aside0.mk hy446
        clear hy446
        have H' := Aside0.mk H
        clear H
        obtain ⟨Ao13, co13, eo13⟩ := Kd.R_slice HO_0.out
        subst eo13
        go_wp2_with (first | ((with_reducible refine gate_builtin (b := .append) (xs := #[.tmp 36, .tmp 38]) rfl ?_); at_builtin; refine Kd.R_append (Kd.int .i64) (w0 := w) w.heap.size rfl (.tmp 36) (.tmp 38) 23 2 (.int .i64 0) 8 rfl Try.underlying23 info2 rfl (by decide) (by omega) u5 x5_1 x7_2 [.int .i64 x7_2] (fun k_ => some k_ ≠ (.slice Ao13 t441.length co13 : Value).ownBlock) (fun _ => False) rfl rfl ?aP (fun _ hk => hk.elim) ?aF ?aO ?aB ?aS ?aL ?_; (case aP => exact rfl); (case aB => exact (by repeat (first | (with_reducible first | exact HB.out | apply below_alloc | apply pw_below_drewN | apply below_drew1) | exact HB.out))); (case aF => exact (fun k_ hk => Kd.fresh' (Kd.R_lt (by (with_reducible repeat (first | apply Kd.R_alloc | apply Kd.R_drewN | apply Kd.R_drew)); exact HO_0.out)) k_ hk)); (case aO => exact (by (with_reducible repeat (first | apply Kd.R_alloc | apply Kd.R_drewN | apply Kd.R_drew)); exact HO_5.out)); (case aS => exact (below_size (by repeat (first | (with_reducible first | exact HB.out | apply below_alloc | apply pw_below_drewN | apply below_drew1) | exact HB.out)))); (case aL => have := LMc12.out; omega); intro v447 w14 ho hb hg hat; rw [← Ny446.out] at ho; have n0_ := Aside0.mk (Kd.R_after (ok := (fun _ => True)) (by (with_reducible repeat (first | apply Kd.R_alloc | apply Kd.R_drewN | apply Kd.R_drew)); exact Kd.R_mono HO_0.out (fun _ hk => ⟨trivial, hk⟩)) hg hat); have n1_ := Aside0.mk (hb); have n2_ := Aside0.mk (ho); clear HO_0; clear HB; clear HO_5; have HO_0 := n0_; have HB := n1_; have HO448 := n2_; clear n0_ n1_ n2_; clear ho hb hg hat))
        repeat (go_quiet (first | ((with_reducible refine gate_builtin (b := .append) (xs := #[.tmp 36, .tmp 38]) rfl ?_); at_builtin; refine Kd.R_append (Kd.int .i64) (w0 := w) w.heap.size rfl (.tmp 36) (.tmp 38) 23 2 (.int .i64 0) 8 rfl Try.underlying23 info2 rfl (by decide) (by omega) u5 x5_1 x7_2 [.int .i64 x7_2] (fun k_ => some k_ ≠ (.slice Ao13 t441.length co13 : Value).ownBlock) (fun _ => False) rfl rfl ?aP (fun _ hk => hk.elim) ?aF ?aO ?aB ?aS ?aL ?_; (case aP => exact rfl); (case aB => exact (by repeat (first | (with_reducible first | exact HB.out | apply below_alloc | apply pw_below_drewN | apply below_drew1) | exact HB.out))); (case aF => exact (fun k_ hk => Kd.fresh' (Kd.R_lt (by (with_reducible repeat (first | apply Kd.R_alloc | apply Kd.R_drewN | apply Kd.R_drew)); exact HO_0.out)) k_ hk)); (case aO => exact (by (with_reducible repeat (first | apply Kd.R_alloc | apply Kd.R_drewN | apply Kd.R_drew)); exact HO_5.out)); (case aS => exact (below_size (by repeat (first | (with_reducible first | exact HB.out | apply below_alloc | apply pw_below_drewN | apply below_drew1) | exact HB.out)))); (case aL => have := LMc12.out; omega); intro v447 w14 ho hb hg hat; rw [← Ny446.out] at ho; have n0_ := Aside0.mk (Kd.R_after (ok := (fun _ => True)) (by (with_reducible repeat (first | apply Kd.R_alloc | apply Kd.R_drewN | apply Kd.R_drew)); exact Kd.R_mono HO_0.out (fun _ hk => ⟨trivial, hk⟩)) hg hat); have n1_ := Aside0.mk (hb); have n2_ := Aside0.mk (ho); clear HO_0; clear HB; clear HO_5; have HO_0 := n0_; have HB := n1_; have HO448 := n2_; clear n0_ n1_ n2_; clear ho hb hg hat)); try go_wp2_with (first | ((with_reducible refine gate_builtin (b := .append) (xs := #[.tmp 36, .tmp 38]) rfl ?_); at_builtin; refine Kd.R_append (Kd.int .i64) (w0 := w) w.heap.size rfl (.tmp 36) (.tmp 38) 23 2 (.int .i64 0) 8 rfl Try.underlying23 info2 rfl (by decide) (by omega) u5 x5_1 x7_2 [.int .i64 x7_2] (fun k_ => some k_ ≠ (.slice Ao13 t441.length co13 : Value).ownBlock) (fun _ => False) rfl rfl ?aP (fun _ hk => hk.elim) ?aF ?aO ?aB ?aS ?aL ?_; (case aP => exact rfl); (case aB => exact (by repeat (first | (with_reducible first | exact HB.out | apply below_alloc | apply pw_below_drewN | apply below_drew1) | exact HB.out))); (case aF => exact (fun k_ hk => Kd.fresh' (Kd.R_lt (by (with_reducible repeat (first | apply Kd.R_alloc | apply Kd.R_drewN | apply Kd.R_drew)); exact HO_0.out)) k_ hk)); (case aO => exact (by (with_reducible repeat (first | apply Kd.R_alloc | apply Kd.R_drewN | apply Kd.R_drew)); exact HO_5.out)); (case aS => exact (below_size (by repeat (first | (with_reducible first | exact HB.out | apply below_alloc | apply pw_below_drewN | apply below_drew1) | exact HB.out)))); (case aL => have := LMc12.out; omega); intro v447 w14 ho hb hg hat; rw [← Ny446.out] at ho; have n0_ := Aside0.mk (Kd.R_after (ok := (fun _ => True)) (by (with_reducible repeat (first | apply Kd.R_alloc | apply Kd.R_drewN | apply Kd.R_drew)); exact Kd.R_mono HO_0.out (fun _ hk => ⟨trivial, hk⟩)) hg hat); have n1_ := Aside0.mk (hb); have n2_ := Aside0.mk (ho); clear HO_0; clear HB; clear HO_5; have HO_0 := n0_; have HB := n1_; have HO448 := n2_; clear n0_ n1_ n2_; clear ho hb hg hat)))
        go_roundg k2
        case measure => have := HK1.out; have := HK2.out; omega
        case rel => exact ⟨(y446), (wrap64 (x6_1 + 1)), (by first | rfl | (simp; done) | (simp [*]; done)), H', ⟨by have := HK1.out; have := HK2.out; omega⟩, ⟨by (with_reducible repeat (first | apply Kd.R_alloc | apply Kd.R_drewN | apply Kd.R_drew)); exact Kd.R_mono HO_0.out (fun _ hk => hk.2)⟩, ⟨by (with_reducible repeat (first | apply Kd.R_alloc | apply Kd.R_drewN | apply Kd.R_drew)); exact HO448.out⟩, ⟨by repeat (first | (with_reducible first | exact HB.out | apply below_alloc | apply pw_below_drewN | apply below_drew1) | exact HB.out)⟩⟩
       ·
        rw [if_neg c12] at H
        exact absurd H (by simp)
   ·
    rw [if_neg c5] at H
    have c5b0 : decide (x6_1 ≤ a1) = false := decide_eq_false c5
    clear c5
    obtain rfl := Option.some.inj H
    go_wp2
    repeat (go_quiet (fail); try go_wp2)
    go_ret
    exact ⟨_, by first | rfl | (simp [errW_none, errW_some] <;> rfl) | (simp [*, errW_none, errW_some] <;> rfl), by (with_reducible repeat (first | apply Kd.R_alloc | apply Kd.R_drewN | apply Kd.R_drew)); exact Kd.R_mono HO_5.out (fun _ hk => trivial), by repeat (first | (with_reducible first | exact HB.out | apply below_alloc | apply pw_below_drewN | apply below_drew1) | exact HB.out)⟩

/-! ### madrigalref1_Down: function 33 -/
def madrigalref1_Down.f (a0 : Int) (a1 : Int) : Option (Int) := if a1 = 0 then (none) else (if (Int.tmod a0 a1) < 0 then (some (wrap64 ((wrap64 (Int.tdiv a0 a1)) - 1))) else (some (wrap64 (Int.tdiv a0 a1))))
set_option maxHeartbeats 8000000 in
set_option maxRecDepth 100000 in
theorem madrigalref1_Down.calls (a0 : Int) (a1 : Int) (r : Int) (w : World) (h : madrigalref1_Down.f a0 a1 = some r) :
  Calls Try.prog 33 #[.int .i64 a0, .int .i64 a1] w fun e w' => e = .returned (.int .i64 r) ∧ Drawn0 w w' := by
 have H : (if a1 = 0 then (none) else (if (Int.tmod a0 a1) < 0 then (some (wrap64 ((wrap64 (Int.tdiv a0 a1)) - 1))) else (some (wrap64 (Int.tdiv a0 a1))))) = some r := h
 clear h
 by_cases c3 : a1 = 0
 ·
  rw [if_pos c3] at H
  exact absurd H (by simp)
 ·
  rw [if_neg c3] at H
  have c3b0 : (a1 == 0) = false := beq_eq_false_iff_ne.mpr c3
  have c3b1 : (a1 != 0) = true := bne_iff_ne.mpr c3
  by_cases c4 : (Int.tmod a0 a1) < 0
  ·
   rw [if_pos c4] at H
   have c4b0 : decide ((Int.tmod a0 a1) < 0) = true := decide_eq_true c4
   clear c4
   obtain rfl := Option.some.inj H
   go_enter Try.func33, Try.ntmps33
   go_wp2
   go_ret
   exact ⟨by first | rfl | (simp; done) | (simp [*]; done), by repeat (first | exact Drawn0.refl _ | apply Drawn0.step)⟩
  ·
   rw [if_neg c4] at H
   have c4b0 : decide ((Int.tmod a0 a1) < 0) = false := decide_eq_false c4
   clear c4
   obtain rfl := Option.some.inj H
   go_enter Try.func33, Try.ntmps33
   go_wp2
   go_ret
   exact ⟨by first | rfl | (simp; done) | (simp [*]; done), by repeat (first | exact Drawn0.refl _ | apply Drawn0.step)⟩

/-! ### madrigalref1_Mul: function 34 -/
def madrigalref1_Mul.j0 : Nat → Int → Int → Bool → Option (Int)
 | 0, _, _, _ => none
 | k + 1, x2, x7, x21 => if x21 = true then (some 0) else (if x2 = 0 then (some x7) else (if 0 ≤ (IntKind.u64.wrap (wrap64 (x2 - 1))) then (if 0 ≤ (IntKind.u64.wrap (x2)) then (if (wrap64 (x7 - (shl .i64 (shr .i64 x7 (IntKind.u64.wrap (x2))) (IntKind.u64.wrap (x2))))) ≥ (shl .i64 1 (IntKind.u64.wrap (wrap64 (x2 - 1)))) then (some (wrap64 ((shr .i64 x7 (IntKind.u64.wrap (x2))) + 1))) else (some (shr .i64 x7 (IntKind.u64.wrap (x2))))) else (none)) else (none)))
def madrigalref1_Mul.f (k : Nat) (a0 : Int) (a1 : Int) (a2 : Int) : Option (Int) := (madrigalref1_Clamp.f k a0 (-2147483648) 2147483648).bind fun t449 => ((madrigalref1_Clamp.f k a1 (-2147483648) 2147483648).bind fun t450 => (if a2 < 0 then (madrigalref1_Mul.j0 k a2 (wrap64 (t449 * t450)) true) else (madrigalref1_Mul.j0 k a2 (wrap64 (t449 * t450)) (decide (a2 > 62)))))
set_option maxHeartbeats 8000000 in
set_option maxRecDepth 100000 in
theorem madrigalref1_Mul.calls (k : Nat) (a0 : Int) (a1 : Int) (a2 : Int) (r : Int) (w : World) (h : madrigalref1_Mul.f k a0 a1 a2 = some r) :
  Calls Try.prog 34 #[.int .i64 a0, .int .i64 a1, .int .i64 a2] w fun e w' => e = .returned (.int .i64 r) ∧ Drawn0 w w' := by
 have H : ((madrigalref1_Clamp.f k a0 (-2147483648) 2147483648).bind fun t449 => ((madrigalref1_Clamp.f k a1 (-2147483648) 2147483648).bind fun t450 => (if a2 < 0 then (madrigalref1_Mul.j0 k a2 (wrap64 (t449 * t450)) true) else (madrigalref1_Mul.j0 k a2 (wrap64 (t449 * t450)) (decide (a2 > 62)))))) = some r := h
 clear h
 replace H := Option.bind_eq_some_iff.mp H
 obtain ⟨t449, A40, H⟩ := H
 replace H : ((madrigalref1_Clamp.f k a1 (-2147483648) 2147483648).bind fun t450 => (if a2 < 0 then (madrigalref1_Mul.j0 k a2 (wrap64 (t449 * t450)) true) else (madrigalref1_Mul.j0 k a2 (wrap64 (t449 * t450)) (decide (a2 > 62))))) = some r := H
 have A4 := Aside0.mk A40
 clear A40
 replace H := Option.bind_eq_some_iff.mp H
 obtain ⟨t450, A50, H⟩ := H
 replace H : (if a2 < 0 then (madrigalref1_Mul.j0 k a2 (wrap64 (t449 * t450)) true) else (madrigalref1_Mul.j0 k a2 (wrap64 (t449 * t450)) (decide (a2 > 62)))) = some r := H
 have A5 := Aside0.mk A50
 clear A50
 have HC6 := Aside0.mk H
 clear H
 go_enter Try.func34, Try.ntmps34
 go_upto_region 2 with (first | ((with_reducible refine gate_callee (f := 32) rfl ?_); refine goesL_ (some 12) rfl rfl Try.func32 (by kernel_rfl) rfl #[.int .i64 a0, .int .i64 (-2147483648), .int .i64 2147483648] rfl (by (try simp only [List.map_toArray, List.map_cons, List.map_nil]); first | done | rfl | (simp only [List.length_drop, List.length_take]; rfl)) ?_; (with_reducible refine (madrigalref1_Clamp.calls k a0 (-2147483648) 2147483648 t449 _ A4.out).mono ?_); rintro e w' ⟨rfl, ⟨nd, rfl⟩⟩; refine ⟨_, rfl, ?_⟩) | ((with_reducible refine gate_callee (f := 32) rfl ?_); refine goesL_ (some 14) rfl rfl Try.func32 (by kernel_rfl) rfl #[.int .i64 a1, .int .i64 (-2147483648), .int .i64 2147483648] rfl (by (try simp only [List.map_toArray, List.map_cons, List.map_nil]); first | done | rfl | (simp only [List.length_drop, List.length_take]; rfl)) ?_; (with_reducible refine (madrigalref1_Clamp.calls k a1 (-2147483648) 2147483648 t450 _ A5.out).mono ?_); rintro e w' ⟨rfl, ⟨nd, rfl⟩⟩; refine ⟨_, rfl, ?_⟩))
 (try simp only [Act.put, List.setIfInBounds_toArray, List.set_cons_zero, List.set_cons_succ])
 go_cut [21] (fun v21 wc => ∃ (kq : Nat) (x21_5 : Bool), v21 = .bool x21_5 ∧ Aside0 (madrigalref1_Mul.j0 kq a2 (wrap64 (t449 * t450)) x21_5 = some r) ∧ Aside0 (kq ≤ k) ∧ Drawn0 w wc)
 case first =>
  have H := HC6.out
  clear HC6
  by_cases c7 : a2 < 0
  ·
   rw [if_pos c7] at H
   have c7b0 : decide (a2 < 0) = true := decide_eq_true c7
   clear c7
   (first | rw [c7b0] | (simp only [i64_w, i32_w]; rw [c7b0]) | skip)
   have H' := Aside0.mk H
   clear H
   go_wp2
   go_meet
   case rel => exact ⟨_, (true), (by first | rfl | (simp; done) | (simp [*]; done)), H', ⟨by first | omega | exact Nat.le_refl _⟩, by repeat (first | exact Drawn0.refl _ | apply Drawn0.step)⟩
  ·
   rw [if_neg c7] at H
   have c7b0 : decide (a2 < 0) = false := decide_eq_false c7
   clear c7
   (first | rw [c7b0] | (simp only [i64_w, i32_w]; rw [c7b0]) | skip)
   have H' := Aside0.mk H
   clear H
   go_wp2
   go_meet
   case rel => exact ⟨_, (decide (a2 > 62)), (by first | rfl | (simp; done) | (simp [*]; done)), H', ⟨by first | omega | exact Nat.le_refl _⟩, by repeat (first | exact Drawn0.refl _ | apply Drawn0.step)⟩
 case rest =>
  clear HC6
  (try clear p2); (try clear c3); (try clear p6); (try clear c7); (try clear c7b0); (try clear c7b0z0)
  obtain ⟨kq, x21_5, rfl, HA, HJ5, ⟨mc5, rfl⟩⟩ := hcut
  cases kq with
  | zero => exact absurd HA.out (by simp [madrigalref1_Mul.j0])
  | succ kj5 =>
   have H := HA.out
   clear HA
   simp only [madrigalref1_Mul.j0] at H
   by_cases c8 : x21_5 = true
   ·
    subst c8
    have H1 : (some 0) = some r := by rw [if_pos rfl] at H; exact H
    clear H
    have H := H1
    clear H1
    obtain rfl := Option.some.inj H
    go_wp2
    go_ret
    exact ⟨by first | rfl | (simp; done) | (simp [*]; done), by repeat (first | exact Drawn0.refl _ | apply Drawn0.step)⟩
   ·
    replace c8 := Bool.eq_false_iff.mpr c8
    subst c8
    have H1 : (if a2 = 0 then (some (wrap64 (t449 * t450))) else (if 0 ≤ (IntKind.u64.wrap (wrap64 (a2 - 1))) then (if 0 ≤ (IntKind.u64.wrap (a2)) then (if (wrap64 ((wrap64 (t449 * t450)) - (shl .i64 (shr .i64 (wrap64 (t449 * t450)) (IntKind.u64.wrap (a2))) (IntKind.u64.wrap (a2))))) ≥ (shl .i64 1 (IntKind.u64.wrap (wrap64 (a2 - 1)))) then (some (wrap64 ((shr .i64 (wrap64 (t449 * t450)) (IntKind.u64.wrap (a2))) + 1))) else (some (shr .i64 (wrap64 (t449 * t450)) (IntKind.u64.wrap (a2))))) else (none)) else (none))) = some r := by rw [if_neg (show ¬ (false = true) by decide)] at H; exact H
    clear H
    have H := H1
    clear H1
    by_cases c9 : a2 = 0
    ·
     rw [if_pos c9] at H
     have c9b0 : (a2 == 0) = true := beq_iff_eq.mpr c9
     have c9b1 : (a2 != 0) = false := bne_eq_false_iff_eq.mpr c9
     clear c9
     obtain rfl := Option.some.inj H
     go_wp2
     go_ret
     exact ⟨by first | rfl | (simp; done) | (simp [*]; done), by repeat (first | exact Drawn0.refl _ | apply Drawn0.step)⟩
    ·
     rw [if_neg c9] at H
     have c9b0 : (a2 == 0) = false := beq_eq_false_iff_ne.mpr c9
     have c9b1 : (a2 != 0) = true := bne_iff_ne.mpr c9
     obtain ⟨ji10, hji10⟩ : ∃ j_ : Int, (IntKind.u64.wrap (wrap64 (a2 - 1))) = j_ := ⟨_, rfl⟩
     replace H : (if 0 ≤ (ji10) then (if 0 ≤ (IntKind.u64.wrap (a2)) then (if (wrap64 ((wrap64 (t449 * t450)) - (shl .i64 (shr .i64 (wrap64 (t449 * t450)) (IntKind.u64.wrap (a2))) (IntKind.u64.wrap (a2))))) ≥ (shl .i64 1 (ji10)) then (some (wrap64 ((shr .i64 (wrap64 (t449 * t450)) (IntKind.u64.wrap (a2))) + 1))) else (some (shr .i64 (wrap64 (t449 * t450)) (IntKind.u64.wrap (a2))))) else (none)) else (none)) = some r := by first | (rw [hji10] at H; exact H) | (simp only [hji10] at H ⊢; exact H)
     by_cases c11 : 0 ≤ (ji10)
     ·
      rw [if_pos c11] at H
      have c11b0 := eq_true c11
      have c11b1 : decide (0 ≤ (ji10)) = true := decide_eq_true c11
      clear c11
      obtain ⟨ji12, hji12⟩ : ∃ j_ : Int, (shl .i64 1 (ji10)) = j_ := ⟨_, rfl⟩
      replace H : (if 0 ≤ (IntKind.u64.wrap (a2)) then (if (wrap64 ((wrap64 (t449 * t450)) - (shl .i64 (shr .i64 (wrap64 (t449 * t450)) (IntKind.u64.wrap (a2))) (IntKind.u64.wrap (a2))))) ≥ (ji12) then (some (wrap64 ((shr .i64 (wrap64 (t449 * t450)) (IntKind.u64.wrap (a2))) + 1))) else (some (shr .i64 (wrap64 (t449 * t450)) (IntKind.u64.wrap (a2))))) else (none)) = some r := by first | (rw [hji12] at H; exact H) | (simp only [hji12] at H ⊢; exact H)
      have hji12_ : (IntKind.i64.wrap (1 * 2 ^ min (ji10).toNat 64)) = ji12 := hji12
      have hji12z : (ji10) ≤ 64 → (IntKind.i64.wrap (1 * 2 ^ (ji10).toNat)) = ji12 := shl_small hji12
      have hji12u : (IntKind.i64.wrap (2 ^ min (ji10).toNat 64)) = ji12 := by have h_ := hji12_; rw [Int.one_mul] at h_; exact h_
      have hji12v : (ji10) ≤ 64 → (IntKind.i64.wrap (2 ^ (ji10).toNat)) = ji12 := fun hle_ => by have h_ := hji12z hle_; rw [Int.one_mul] at h_; exact h_
      have hji12y : (wrap64 (1 * 2 ^ min (ji10).toNat 64)) = ji12 := (i64_w _).symm.trans hji12_
      have hji12x : (ji10) ≤ 64 → (wrap64 (1 * 2 ^ (ji10).toNat)) = ji12 := fun h_ => (i64_w _).symm.trans (hji12z h_)
      obtain ⟨ji13, hji13⟩ : ∃ j_ : Int, (IntKind.u64.wrap (a2)) = j_ := ⟨_, rfl⟩
      replace H : (if 0 ≤ (ji13) then (if (wrap64 ((wrap64 (t449 * t450)) - (shl .i64 (shr .i64 (wrap64 (t449 * t450)) (ji13)) (ji13)))) ≥ (ji12) then (some (wrap64 ((shr .i64 (wrap64 (t449 * t450)) (ji13)) + 1))) else (some (shr .i64 (wrap64 (t449 * t450)) (ji13)))) else (none)) = some r := by first | (rw [hji13] at H; exact H) | (simp only [hji13] at H ⊢; exact H)
      by_cases c14 : 0 ≤ (ji13)
      ·
       rw [if_pos c14] at H
       have c14b0 := eq_true c14
       have c14b1 : decide (0 ≤ (ji13)) = true := decide_eq_true c14
       clear c14
       obtain ⟨ji15, hji15⟩ : ∃ j_ : Int, (shr .i64 (wrap64 (t449 * t450)) (ji13)) = j_ := ⟨_, rfl⟩
       replace H : (if (wrap64 ((wrap64 (t449 * t450)) - (shl .i64 (ji15) (ji13)))) ≥ (ji12) then (some (wrap64 ((ji15) + 1))) else (some ji15)) = some r := by first | (rw [hji15] at H; exact H) | (simp only [hji15] at H ⊢; exact H)
       have hji15_ : ((wrap64 (t449 * t450)) / 2 ^ min (ji13).toNat 64) = ji15 := hji15
       have hji15z : (ji13) ≤ 64 → ((wrap64 (t449 * t450)) / 2 ^ (ji13).toNat) = ji15 := shr_small hji15
       have c16b0 := eq_true (of_decide_eq_true (by first | (with_reducible assumption) | assumption) : 0 ≤ (ji13))
       obtain ⟨ji17, hji17⟩ : ∃ j_ : Int, (shl .i64 (ji15) (ji13)) = j_ := ⟨_, rfl⟩
       replace H : (if (wrap64 ((wrap64 (t449 * t450)) - (ji17))) ≥ (ji12) then (some (wrap64 ((ji15) + 1))) else (some ji15)) = some r := by first | (rw [hji17] at H; exact H) | (simp only [hji17] at H ⊢; exact H)
       have hji17_ : (IntKind.i64.wrap ((ji15) * 2 ^ min (ji13).toNat 64)) = ji17 := hji17
       have hji17z : (ji13) ≤ 64 → (IntKind.i64.wrap ((ji15) * 2 ^ (ji13).toNat)) = ji17 := shl_small hji17
       have hji17y : (wrap64 ((ji15) * 2 ^ min (ji13).toNat 64)) = ji17 := (i64_w _).symm.trans hji17_
       have hji17x : (ji13) ≤ 64 → (wrap64 ((ji15) * 2 ^ (ji13).toNat)) = ji17 := fun h_ => (i64_w _).symm.trans (hji17z h_)
       by_cases c18 : (wrap64 ((wrap64 (t449 * t450)) - (ji17))) ≥ (ji12)
       ·
        rw [if_pos c18] at H
        have c18b0 : decide ((ji12) ≤ (wrap64 ((wrap64 (t449 * t450)) - (ji17)))) = true := decide_eq_true c18
        clear c18
        obtain rfl := Option.some.inj H
        go_wp2
        go_ret
        exact ⟨by first | rfl | (simp; done) | (simp only [← hji10, ← hji12, ← hji13, ← hji15, ← hji17] <;> (first | rfl | simp)) | (simp [*]; done), by repeat (first | exact Drawn0.refl _ | apply Drawn0.step)⟩
       ·
        rw [if_neg c18] at H
        have c18b0 : decide ((ji12) ≤ (wrap64 ((wrap64 (t449 * t450)) - (ji17)))) = false := decide_eq_false c18
        clear c18
        obtain rfl := Option.some.inj H
        go_wp2
        go_ret
        exact ⟨by first | rfl | (simp; done) | (simp only [← hji10, ← hji12, ← hji13, ← hji15, ← hji17] <;> (first | rfl | simp)) | (simp [*]; done), by repeat (first | exact Drawn0.refl _ | apply Drawn0.step)⟩
      ·
       rw [if_neg c14] at H
       exact absurd H (by simp)
     ·
      rw [if_neg c11] at H
      exact absurd H (by simp)

end Go.Proofs.Ytgbdkefglmjdoaa.MA
