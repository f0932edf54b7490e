/- Functions of the program as plain Lean functions, and that the code comes to their answers. No condition. -/
import Derived.Test.YtmfjmbdicjeooaaMAx0
import Derived.Test.YtmfjmbdicjeooaaMAx4
namespace Go.Proofs.Ytmfjmbdicjeooaa.MA
open Go.RowKit Go.Proofs.YtmfjmbdicjeooaaW.PrintWords Go.Proofs.YtmfjmbdicjeooaaW.PrintLast Go.Proofs.YtmfjmbdicjeooaaW.PrintMore
attribute [local go_sem] max2_int min2_int max_two min_two max_three min_three max_four min_four
set_option linter.unusedVariables false
set_option linter.unusedSimpArgs false

/-! ### madrigalref1_Bins: function 10 -/
def madrigalref1_Bins.f (a0 : Int) (a1 : Int) (a2 : Int) : Option (Int × Int) := (madrigalref1_Edges.f a0).bind fun t259 => (if a1 = 10 then (if a2 < 0 then (some (0, 0)) else (if (wrap64 (a2 + 1)) ≥ (t259.length : Int) then (some (0, 0)) else (if a2 > 100 then (some (0, 0)) else (if 0 ≤ a2 then (if a2 < (t259.length : Int) then (if 0 ≤ (wrap64 (a2 + 1)) then (if (wrap64 (a2 + 1)) < (t259.length : Int) then (some (wrap64 ((wrap64 ((rd t259 a2) * 4)) * (wrap64 (Int.tdiv a1 10))), wrap64 ((wrap64 ((rd t259 (wrap64 (a2 + 1))) * 4)) * (wrap64 (Int.tdiv a1 10))))) else (none)) else (none)) else (none)) else (none))))) else (if a1 = 20 then (if a2 < 0 then (some (0, 0)) else (if (wrap64 (a2 + 1)) ≥ (t259.length : Int) then (some (0, 0)) else (if a2 > 100 then (some (0, 0)) else (if 0 ≤ a2 then (if a2 < (t259.length : Int) then (if 0 ≤ (wrap64 (a2 + 1)) then (if (wrap64 (a2 + 1)) < (t259.length : Int) then (some (wrap64 ((wrap64 ((rd t259 a2) * 4)) * (wrap64 (Int.tdiv a1 10))), wrap64 ((wrap64 ((rd t259 (wrap64 (a2 + 1))) * 4)) * (wrap64 (Int.tdiv a1 10))))) else (none)) else (none)) else (none)) else (none))))) else (some (0, 0))))
set_option maxHeartbeats 8000000 in
set_option maxRecDepth 100000 in
theorem madrigalref1_Bins.calls (a0 : Int) (a1 : Int) (a2 : Int) (r1 : Int) (r2 : Int) (w : World) (h : madrigalref1_Bins.f a0 a1 a2 = some (r1, r2)) :
  Calls Try.prog 10 #[.int .i64 a0, .int .i64 a1, .int .i64 a2] w fun e w' => e = .returned (.tuple #[.int .i64 r1, .int .i64 r2]) ∧ Below w.heap.size w w' := by
 have HB := Aside0.mk (Below.refl w.heap.size w)
 have H : ((madrigalref1_Edges.f a0).bind fun t259 => (if a1 = 10 then (if a2 < 0 then (some (0, 0)) else (if (wrap64 (a2 + 1)) ≥ (t259.length : Int) then (some (0, 0)) else (if a2 > 100 then (some (0, 0)) else (if 0 ≤ a2 then (if a2 < (t259.length : Int) then (if 0 ≤ (wrap64 (a2 + 1)) then (if (wrap64 (a2 + 1)) < (t259.length : Int) then (some (wrap64 ((wrap64 ((rd t259 a2) * 4)) * (wrap64 (Int.tdiv a1 10))), wrap64 ((wrap64 ((rd t259 (wrap64 (a2 + 1))) * 4)) * (wrap64 (Int.tdiv a1 10))))) else (none)) else (none)) else (none)) else (none))))) else (if a1 = 20 then (if a2 < 0 then (some (0, 0)) else (if (wrap64 (a2 + 1)) ≥ (t259.length : Int) then (some (0, 0)) else (if a2 > 100 then (some (0, 0)) else (if 0 ≤ a2 then (if a2 < (t259.length : Int) then (if 0 ≤ (wrap64 (a2 + 1)) then (if (wrap64 (a2 + 1)) < (t259.length : Int) then (some (wrap64 ((wrap64 ((rd t259 a2) * 4)) * (wrap64 (Int.tdiv a1 10))), wrap64 ((wrap64 ((rd t259 (wrap64 (a2 + 1))) * 4)) * (wrap64 (Int.tdiv a1 10))))) else (none)) else (none)) else (none)) else (none))))) else (some (0, 0))))) = some (r1, r2) := h
 clear h; replace H := Option.bind_eq_some_iff.mp H; obtain ⟨t259, A40, H⟩ := H
 replace H : (if a1 = 10 then (if a2 < 0 then (some (0, 0)) else (if (wrap64 (a2 + 1)) ≥ (t259.length : Int) then (some (0, 0)) else (if a2 > 100 then (some (0, 0)) else (if 0 ≤ a2 then (if a2 < (t259.length : Int) then (if 0 ≤ (wrap64 (a2 + 1)) then (if (wrap64 (a2 + 1)) < (t259.length : Int) then (some (wrap64 ((wrap64 ((rd t259 a2) * 4)) * (wrap64 (Int.tdiv a1 10))), wrap64 ((wrap64 ((rd t259 (wrap64 (a2 + 1))) * 4)) * (wrap64 (Int.tdiv a1 10))))) else (none)) else (none)) else (none)) else (none))))) else (if a1 = 20 then (if a2 < 0 then (some (0, 0)) else (if (wrap64 (a2 + 1)) ≥ (t259.length : Int) then (some (0, 0)) else (if a2 > 100 then (some (0, 0)) else (if 0 ≤ a2 then (if a2 < (t259.length : Int) then (if 0 ≤ (wrap64 (a2 + 1)) then (if (wrap64 (a2 + 1)) < (t259.length : Int) then (some (wrap64 ((wrap64 ((rd t259 a2) * 4)) * (wrap64 (Int.tdiv a1 10))), wrap64 ((wrap64 ((rd t259 (wrap64 (a2 + 1))) * 4)) * (wrap64 (Int.tdiv a1 10))))) else (none)) else (none)) else (none)) else (none))))) else (some (0, 0)))) = some (r1, r2) := H
 have A4 := Aside0.mk A40; clear A40
 by_cases c5 : a1 = 10
 ·
  rw [if_pos c5] at H; have c5b0 : (a1 == 10) = true := beq_iff_eq.mpr c5; have c5b1 : (a1 != 10) = false := bne_eq_false_iff_eq.mpr c5; clear c5
  by_cases c6 : a2 < 0
  ·
   rw [if_pos c6] at H; have c6b0 : decide (a2 < 0) = true := decide_eq_true c6; clear c6
   simp only [Option.some.injEq, Prod.mk.injEq] at H
   obtain ⟨rfl, rfl⟩ := H
   go_enter Try.func10, Try.ntmps10
   go_wp2_with (first | (go_at_call 8; (with_reducible refine (madrigalref1_Edges.calls a0 t259 _ A4.out).mono ?_); rintro e w7 ⟨v260, rfl, ho0, hb⟩; have n0_ := Aside0.mk (Kd.R_lower ho0 (below_size (by repeat (with_reducible first | exact HB.out | apply below_alloc | apply pw_below_drewN | apply below_drew1)))); have n1_ := Aside0.mk (below_step (by repeat (with_reducible first | exact HB.out | apply below_alloc | apply pw_below_drewN | apply below_drew1)) hb); clear HB; have HO261 := n0_; have HB := n1_; clear n0_ n1_; (try clear hb); (try clear hb2); (try clear hk); (try clear hi); (try clear ho0)))
   repeat (go_quiet (first | (go_at_call 8; (with_reducible refine (madrigalref1_Edges.calls a0 t259 _ A4.out).mono ?_); rintro e w7 ⟨v260, rfl, ho0, hb⟩; have n0_ := Aside0.mk (Kd.R_lower ho0 (below_size (by repeat (with_reducible first | exact HB.out | apply below_alloc | apply pw_below_drewN | apply below_drew1)))); have n1_ := Aside0.mk (below_step (by repeat (with_reducible first | exact HB.out | apply below_alloc | apply pw_below_drewN | apply below_drew1)) hb); clear HB; have HO261 := n0_; have HB := n1_; clear n0_ n1_; (try clear hb); (try clear hb2); (try clear hk); (try clear hi); (try clear ho0))); try go_wp2_with (first | (go_at_call 8; (with_reducible refine (madrigalref1_Edges.calls a0 t259 _ A4.out).mono ?_); rintro e w7 ⟨v260, rfl, ho0, hb⟩; have n0_ := Aside0.mk (Kd.R_lower ho0 (below_size (by repeat (with_reducible first | exact HB.out | apply below_alloc | apply pw_below_drewN | apply below_drew1)))); have n1_ := Aside0.mk (below_step (by repeat (with_reducible first | exact HB.out | apply below_alloc | apply pw_below_drewN | apply below_drew1)) hb); clear HB; have HO261 := n0_; have HB := n1_; clear n0_ n1_; (try clear hb); (try clear hb2); (try clear hk); (try clear hi); (try clear ho0))))
   go_ret2
   exact ⟨by first | rfl | (simp [errW_none, errW_some] <;> rfl) | (simp [*, errW_none, errW_some] <;> rfl), by repeat (with_reducible first | exact HB.out | apply below_alloc | apply pw_below_drewN | apply below_drew1)⟩
  ·
   rw [if_neg c6] at H; have c6b0 : decide (a2 < 0) = false := decide_eq_false c6; clear c6
   by_cases c8 : (wrap64 (a2 + 1)) ≥ (t259.length : Int)
   ·
    rw [if_pos c8] at H; have c8b0 : decide ((t259.length : Int) ≤ (wrap64 (a2 + 1))) = true := decide_eq_true c8; clear c8
    simp only [Option.some.injEq, Prod.mk.injEq] at H
    obtain ⟨rfl, rfl⟩ := H
    go_enter Try.func10, Try.ntmps10
    go_wp2_with (first | (go_at_call 8; (with_reducible refine (madrigalref1_Edges.calls a0 t259 _ A4.out).mono ?_); rintro e w9 ⟨v260, rfl, ho0, hb⟩; have n0_ := Aside0.mk (Kd.R_lower ho0 (below_size (by repeat (with_reducible first | exact HB.out | apply below_alloc | apply pw_below_drewN | apply below_drew1)))); have n1_ := Aside0.mk (below_step (by repeat (with_reducible first | exact HB.out | apply below_alloc | apply pw_below_drewN | apply below_drew1)) hb); clear HB; have HO261 := n0_; have HB := n1_; clear n0_ n1_; (try clear hb); (try clear hb2); (try clear hk); (try clear hi); (try clear ho0); obtain ⟨Ao10, co10, eo10⟩ := Kd.R_slice HO261.out; subst eo10))
    repeat (go_quiet (first | (go_at_call 8; (with_reducible refine (madrigalref1_Edges.calls a0 t259 _ A4.out).mono ?_); rintro e w9 ⟨v260, rfl, ho0, hb⟩; have n0_ := Aside0.mk (Kd.R_lower ho0 (below_size (by repeat (with_reducible first | exact HB.out | apply below_alloc | apply pw_below_drewN | apply below_drew1)))); have n1_ := Aside0.mk (below_step (by repeat (with_reducible first | exact HB.out | apply below_alloc | apply pw_below_drewN | apply below_drew1)) hb); clear HB; have HO261 := n0_; have HB := n1_; clear n0_ n1_; (try clear hb); (try clear hb2); (try clear hk); (try clear hi); (try clear ho0); obtain ⟨Ao10, co10, eo10⟩ := Kd.R_slice HO261.out; subst eo10)); try go_wp2_with (first | (go_at_call 8; (with_reducible refine (madrigalref1_Edges.calls a0 t259 _ A4.out).mono ?_); rintro e w9 ⟨v260, rfl, ho0, hb⟩; have n0_ := Aside0.mk (Kd.R_lower ho0 (below_size (by repeat (with_reducible first | exact HB.out | apply below_alloc | apply pw_below_drewN | apply below_drew1)))); have n1_ := Aside0.mk (below_step (by repeat (with_reducible first | exact HB.out | apply below_alloc | apply pw_below_drewN | apply below_drew1)) hb); clear HB; have HO261 := n0_; have HB := n1_; clear n0_ n1_; (try clear hb); (try clear hb2); (try clear hk); (try clear hi); (try clear ho0); obtain ⟨Ao10, co10, eo10⟩ := Kd.R_slice HO261.out; subst eo10)))
    go_ret2
    exact ⟨by first | rfl | (simp [errW_none, errW_some] <;> rfl) | (simp [*, errW_none, errW_some] <;> rfl), by repeat (with_reducible first | exact HB.out | apply below_alloc | apply pw_below_drewN | apply below_drew1)⟩
   ·
    rw [if_neg c8] at H; have c8b0 : decide ((t259.length : Int) ≤ (wrap64 (a2 + 1))) = false := decide_eq_false c8; clear c8
    by_cases c11 : a2 > 100
    ·
     rw [if_pos c11] at H; have c11b0 : decide (100 < a2) = true := decide_eq_true c11; clear c11
     simp only [Option.some.injEq, Prod.mk.injEq] at H
     obtain ⟨rfl, rfl⟩ := H
     go_enter Try.func10, Try.ntmps10
     go_wp2_with (first | (go_at_call 8; (with_reducible refine (madrigalref1_Edges.calls a0 t259 _ A4.out).mono ?_); rintro e w12 ⟨v260, rfl, ho0, hb⟩; have n0_ := Aside0.mk (Kd.R_lower ho0 (below_size (by repeat (with_reducible first | exact HB.out | apply below_alloc | apply pw_below_drewN | apply below_drew1)))); have n1_ := Aside0.mk (below_step (by repeat (with_reducible first | exact HB.out | apply below_alloc | apply pw_below_drewN | apply below_drew1)) hb); clear HB; have HO261 := n0_; have HB := n1_; clear n0_ n1_; (try clear hb); (try clear hb2); (try clear hk); (try clear hi); (try clear ho0); obtain ⟨Ao13, co13, eo13⟩ := Kd.R_slice HO261.out; subst eo13))
     repeat (go_quiet (first | (go_at_call 8; (with_reducible refine (madrigalref1_Edges.calls a0 t259 _ A4.out).mono ?_); rintro e w12 ⟨v260, rfl, ho0, hb⟩; have n0_ := Aside0.mk (Kd.R_lower ho0 (below_size (by repeat (with_reducible first | exact HB.out | apply below_alloc | apply pw_below_drewN | apply below_drew1)))); have n1_ := Aside0.mk (below_step (by repeat (with_reducible first | exact HB.out | apply below_alloc | apply pw_below_drewN | apply below_drew1)) hb); clear HB; have HO261 := n0_; have HB := n1_; clear n0_ n1_; (try clear hb); (try clear hb2); (try clear hk); (try clear hi); (try clear ho0); obtain ⟨Ao13, co13, eo13⟩ := Kd.R_slice HO261.out; subst eo13)); try go_wp2_with (first | (go_at_call 8; (with_reducible refine (madrigalref1_Edges.calls a0 t259 _ A4.out).mono ?_); rintro e w12 ⟨v260, rfl, ho0, hb⟩; have n0_ := Aside0.mk (Kd.R_lower ho0 (below_size (by repeat (with_reducible first | exact HB.out | apply below_alloc | apply pw_below_drewN | apply below_drew1)))); have n1_ := Aside0.mk (below_step (by repeat (with_reducible first | exact HB.out | apply below_alloc | apply pw_below_drewN | apply below_drew1)) hb); clear HB; have HO261 := n0_; have HB := n1_; clear n0_ n1_; (try clear hb); (try clear hb2); (try clear hk); (try clear hi); (try clear ho0); obtain ⟨Ao13, co13, eo13⟩ := Kd.R_slice HO261.out; subst eo13)))
     go_ret2
     exact ⟨by first | rfl | (simp [errW_none, errW_some] <;> rfl) | (simp [*, errW_none, errW_some] <;> rfl), by repeat (with_reducible first | exact HB.out | apply below_alloc | apply pw_below_drewN | apply below_drew1)⟩
    ·
     rw [if_neg c11] at H; have c11b0 : decide (100 < a2) = false := decide_eq_false c11; clear c11
     by_cases c14 : 0 ≤ a2; rotate_left
     · rw [if_neg c14] at H; exact absurd H (by simp)
     rw [if_pos c14] at H; have c14b0 : decide (0 ≤ a2) = true := decide_eq_true c14; clear c14
     by_cases c15 : a2 < (t259.length : Int); rotate_left
     · rw [if_neg c15] at H; exact absurd H (by simp)
     rw [if_pos c15] at H; have c15b0 : decide (a2 < (t259.length : Int)) = true := decide_eq_true c15; clear c15
     obtain ⟨ji16, hji16⟩ : ∃ j_ : Int, (wrap64 (a2 + 1)) = j_ := ⟨_, rfl⟩
     replace H : (if 0 ≤ (ji16) then (if (ji16) < (t259.length : Int) then (some (wrap64 ((wrap64 ((rd t259 a2) * 4)) * (wrap64 (Int.tdiv a1 10))), wrap64 ((wrap64 ((rd t259 (ji16)) * 4)) * (wrap64 (Int.tdiv a1 10))))) else (none)) else (none)) = some (r1, r2) := by first | (rw [hji16] at H; exact H) | (simp only [hji16] at H ⊢; exact H)
     (try rw [hji16] at c8b0); (try rw [hji16] at A4)
     have hji16w : (IntKind.i64.wrap (a2 + 1)) = ji16 := (i64_w _).trans hji16
     by_cases c17 : 0 ≤ (ji16); rotate_left
     · rw [if_neg c17] at H; exact absurd H (by simp)
     rw [if_pos c17] at H; have c17b0 : decide (0 ≤ (ji16)) = true := decide_eq_true c17; clear c17
     by_cases c18 : (ji16) < (t259.length : Int); rotate_left
     · rw [if_neg c18] at H; exact absurd H (by simp)
     rw [if_pos c18] at H; have c18b0 : decide ((ji16) < (t259.length : Int)) = true := decide_eq_true c18; clear c18
     simp only [Option.some.injEq, Prod.mk.injEq] at H
     obtain ⟨rfl, rfl⟩ := H
     go_enter Try.func10, Try.ntmps10
     go_wp2_with (first | (go_at_call 8; (with_reducible refine (madrigalref1_Edges.calls a0 t259 _ A4.out).mono ?_); rintro e w19 ⟨v260, rfl, ho0, hb⟩; have n0_ := Aside0.mk (Kd.R_lower ho0 (below_size (by repeat (with_reducible first | exact HB.out | apply below_alloc | apply pw_below_drewN | apply below_drew1)))); have n1_ := Aside0.mk (below_step (by repeat (with_reducible first | exact HB.out | apply below_alloc | apply pw_below_drewN | apply below_drew1)) hb); clear HB; have HO261 := n0_; have HB := n1_; clear n0_ n1_; (try clear hb); (try clear hb2); (try clear hk); (try clear hi); (try clear ho0); obtain ⟨Ao20, co20, eo20⟩ := Kd.R_slice HO261.out; subst eo20; have p262 : 0 ≤ (a2 : Int) := of_decide_eq_true (by first | (with_reducible assumption) | assumption); have q262 : a2 < (t259.length : Int) := of_decide_eq_true (by first | (with_reducible assumption) | assumption); obtain ⟨ad262, e262, hx262_0⟩ := Kd.at_int (Kd.R_reads' HO261.out).2.2 a2 p262 q262; cases e262; replace p262 := eq_true p262; replace q262 := eq_true q262; have p263 : 0 ≤ ((ji16) : Int) := of_decide_eq_true (by first | (with_reducible assumption) | assumption); have q263 : (ji16) < (t259.length : Int) := of_decide_eq_true (by first | (with_reducible assumption) | assumption); obtain ⟨ad263, e263, hx263_0⟩ := Kd.at_int (Kd.R_reads' HO261.out).2.2 (ji16) p263 q263; obtain rfl : ad262 = ad263 := (by injection e263); replace p263 := eq_true p263; replace q263 := eq_true q263))
     repeat (go_quiet (first | (go_at_call 8; (with_reducible refine (madrigalref1_Edges.calls a0 t259 _ A4.out).mono ?_); rintro e w19 ⟨v260, rfl, ho0, hb⟩; have n0_ := Aside0.mk (Kd.R_lower ho0 (below_size (by repeat (with_reducible first | exact HB.out | apply below_alloc | apply pw_below_drewN | apply below_drew1)))); have n1_ := Aside0.mk (below_step (by repeat (with_reducible first | exact HB.out | apply below_alloc | apply pw_below_drewN | apply below_drew1)) hb); clear HB; have HO261 := n0_; have HB := n1_; clear n0_ n1_; (try clear hb); (try clear hb2); (try clear hk); (try clear hi); (try clear ho0); obtain ⟨Ao20, co20, eo20⟩ := Kd.R_slice HO261.out; subst eo20; have p262 : 0 ≤ (a2 : Int) := of_decide_eq_true (by first | (with_reducible assumption) | assumption); have q262 : a2 < (t259.length : Int) := of_decide_eq_true (by first | (with_reducible assumption) | assumption); obtain ⟨ad262, e262, hx262_0⟩ := Kd.at_int (Kd.R_reads' HO261.out).2.2 a2 p262 q262; cases e262; replace p262 := eq_true p262; replace q262 := eq_true q262; have p263 : 0 ≤ ((ji16) : Int) := of_decide_eq_true (by first | (with_reducible assumption) | assumption); have q263 : (ji16) < (t259.length : Int) := of_decide_eq_true (by first | (with_reducible assumption) | assumption); obtain ⟨ad263, e263, hx263_0⟩ := Kd.at_int (Kd.R_reads' HO261.out).2.2 (ji16) p263 q263; obtain rfl : ad262 = ad263 := (by injection e263); replace p263 := eq_true p263; replace q263 := eq_true q263)); try go_wp2_with (first | (go_at_call 8; (with_reducible refine (madrigalref1_Edges.calls a0 t259 _ A4.out).mono ?_); rintro e w19 ⟨v260, rfl, ho0, hb⟩; have n0_ := Aside0.mk (Kd.R_lower ho0 (below_size (by repeat (with_reducible first | exact HB.out | apply below_alloc | apply pw_below_drewN | apply below_drew1)))); have n1_ := Aside0.mk (below_step (by repeat (with_reducible first | exact HB.out | apply below_alloc | apply pw_below_drewN | apply below_drew1)) hb); clear HB; have HO261 := n0_; have HB := n1_; clear n0_ n1_; (try clear hb); (try clear hb2); (try clear hk); (try clear hi); (try clear ho0); obtain ⟨Ao20, co20, eo20⟩ := Kd.R_slice HO261.out; subst eo20; have p262 : 0 ≤ (a2 : Int) := of_decide_eq_true (by first | (with_reducible assumption) | assumption); have q262 : a2 < (t259.length : Int) := of_decide_eq_true (by first | (with_reducible assumption) | assumption); obtain ⟨ad262, e262, hx262_0⟩ := Kd.at_int (Kd.R_reads' HO261.out).2.2 a2 p262 q262; cases e262; replace p262 := eq_true p262; replace q262 := eq_true q262; have p263 : 0 ≤ ((ji16) : Int) := of_decide_eq_true (by first | (with_reducible assumption) | assumption); have q263 : (ji16) < (t259.length : Int) := of_decide_eq_true (by first | (with_reducible assumption) | assumption); obtain ⟨ad263, e263, hx263_0⟩ := Kd.at_int (Kd.R_reads' HO261.out).2.2 (ji16) p263 q263; obtain rfl : ad262 = ad263 := (by injection e263); replace p263 := eq_true p263; replace q263 := eq_true q263)))
     go_ret2
     exact ⟨by first | rfl | (simp [errW_none, errW_some] <;> rfl) | (simp only [← hji16]; first | rfl | (simp [errW_none, errW_some] <;> rfl)) | (simp [*, errW_none, errW_some] <;> rfl), by repeat (with_reducible first | exact HB.out | apply below_alloc | apply pw_below_drewN | apply below_drew1)⟩
 ·
  rw [if_neg c5] at H; have c5b0 : (a1 == 10) = false := beq_eq_false_iff_ne.mpr c5; have c5b1 : (a1 != 10) = true := bne_iff_ne.mpr c5
  by_cases c21 : a1 = 20
  ·
   rw [if_pos c21] at H; have c21b0 : (a1 == 20) = true := beq_iff_eq.mpr c21; have c21b1 : (a1 != 20) = false := bne_eq_false_iff_eq.mpr c21; clear c21
   by_cases c22 : a2 < 0
   ·
    rw [if_pos c22] at H; have c22b0 : decide (a2 < 0) = true := decide_eq_true c22; clear c22
    simp only [Option.some.injEq, Prod.mk.injEq] at H
    obtain ⟨rfl, rfl⟩ := H
    go_enter Try.func10, Try.ntmps10
    go_wp2_with (first | (go_at_call 8; (with_reducible refine (madrigalref1_Edges.calls a0 t259 _ A4.out).mono ?_); rintro e w23 ⟨v260, rfl, ho0, hb⟩; have n0_ := Aside0.mk (Kd.R_lower ho0 (below_size (by repeat (with_reducible first | exact HB.out | apply below_alloc | apply pw_below_drewN | apply below_drew1)))); have n1_ := Aside0.mk (below_step (by repeat (with_reducible first | exact HB.out | apply below_alloc | apply pw_below_drewN | apply below_drew1)) hb); clear HB; have HO261 := n0_; have HB := n1_; clear n0_ n1_; (try clear hb); (try clear hb2); (try clear hk); (try clear hi); (try clear ho0)))
    repeat (go_quiet (first | (go_at_call 8; (with_reducible refine (madrigalref1_Edges.calls a0 t259 _ A4.out).mono ?_); rintro e w23 ⟨v260, rfl, ho0, hb⟩; have n0_ := Aside0.mk (Kd.R_lower ho0 (below_size (by repeat (with_reducible first | exact HB.out | apply below_alloc | apply pw_below_drewN | apply below_drew1)))); have n1_ := Aside0.mk (below_step (by repeat (with_reducible first | exact HB.out | apply below_alloc | apply pw_below_drewN | apply below_drew1)) hb); clear HB; have HO261 := n0_; have HB := n1_; clear n0_ n1_; (try clear hb); (try clear hb2); (try clear hk); (try clear hi); (try clear ho0))); try go_wp2_with (first | (go_at_call 8; (with_reducible refine (madrigalref1_Edges.calls a0 t259 _ A4.out).mono ?_); rintro e w23 ⟨v260, rfl, ho0, hb⟩; have n0_ := Aside0.mk (Kd.R_lower ho0 (below_size (by repeat (with_reducible first | exact HB.out | apply below_alloc | apply pw_below_drewN | apply below_drew1)))); have n1_ := Aside0.mk (below_step (by repeat (with_reducible first | exact HB.out | apply below_alloc | apply pw_below_drewN | apply below_drew1)) hb); clear HB; have HO261 := n0_; have HB := n1_; clear n0_ n1_; (try clear hb); (try clear hb2); (try clear hk); (try clear hi); (try clear ho0))))
    go_ret2
    exact ⟨by first | rfl | (simp [errW_none, errW_some] <;> rfl) | (simp [*, errW_none, errW_some] <;> rfl), by repeat (with_reducible first | exact HB.out | apply below_alloc | apply pw_below_drewN | apply below_drew1)⟩
   ·
    rw [if_neg c22] at H; have c22b0 : decide (a2 < 0) = false := decide_eq_false c22; clear c22
    by_cases c24 : (wrap64 (a2 + 1)) ≥ (t259.length : Int)
    ·
     rw [if_pos c24] at H; have c24b0 : decide ((t259.length : Int) ≤ (wrap64 (a2 + 1))) = true := decide_eq_true c24; clear c24
     simp only [Option.some.injEq, Prod.mk.injEq] at H
     obtain ⟨rfl, rfl⟩ := H
     go_enter Try.func10, Try.ntmps10
     go_wp2_with (first | (go_at_call 8; (with_reducible refine (madrigalref1_Edges.calls a0 t259 _ A4.out).mono ?_); rintro e w25 ⟨v260, rfl, ho0, hb⟩; have n0_ := Aside0.mk (Kd.R_lower ho0 (below_size (by repeat (with_reducible first | exact HB.out | apply below_alloc | apply pw_below_drewN | apply below_drew1)))); have n1_ := Aside0.mk (below_step (by repeat (with_reducible first | exact HB.out | apply below_alloc | apply pw_below_drewN | apply below_drew1)) hb); clear HB; have HO261 := n0_; have HB := n1_; clear n0_ n1_; (try clear hb); (try clear hb2); (try clear hk); (try clear hi); (try clear ho0); obtain ⟨Ao26, co26, eo26⟩ := Kd.R_slice HO261.out; subst eo26))
     repeat (go_quiet (first | (go_at_call 8; (with_reducible refine (madrigalref1_Edges.calls a0 t259 _ A4.out).mono ?_); rintro e w25 ⟨v260, rfl, ho0, hb⟩; have n0_ := Aside0.mk (Kd.R_lower ho0 (below_size (by repeat (with_reducible first | exact HB.out | apply below_alloc | apply pw_below_drewN | apply below_drew1)))); have n1_ := Aside0.mk (below_step (by repeat (with_reducible first | exact HB.out | apply below_alloc | apply pw_below_drewN | apply below_drew1)) hb); clear HB; have HO261 := n0_; have HB := n1_; clear n0_ n1_; (try clear hb); (try clear hb2); (try clear hk); (try clear hi); (try clear ho0); obtain ⟨Ao26, co26, eo26⟩ := Kd.R_slice HO261.out; subst eo26)); try go_wp2_with (first | (go_at_call 8; (with_reducible refine (madrigalref1_Edges.calls a0 t259 _ A4.out).mono ?_); rintro e w25 ⟨v260, rfl, ho0, hb⟩; have n0_ := Aside0.mk (Kd.R_lower ho0 (below_size (by repeat (with_reducible first | exact HB.out | apply below_alloc | apply pw_below_drewN | apply below_drew1)))); have n1_ := Aside0.mk (below_step (by repeat (with_reducible first | exact HB.out | apply below_alloc | apply pw_below_drewN | apply below_drew1)) hb); clear HB; have HO261 := n0_; have HB := n1_; clear n0_ n1_; (try clear hb); (try clear hb2); (try clear hk); (try clear hi); (try clear ho0); obtain ⟨Ao26, co26, eo26⟩ := Kd.R_slice HO261.out; subst eo26)))
     go_ret2
     exact ⟨by first | rfl | (simp [errW_none, errW_some] <;> rfl) | (simp [*, errW_none, errW_some] <;> rfl), by repeat (with_reducible first | exact HB.out | apply below_alloc | apply pw_below_drewN | apply below_drew1)⟩
    ·
     rw [if_neg c24] at H; have c24b0 : decide ((t259.length : Int) ≤ (wrap64 (a2 + 1))) = false := decide_eq_false c24; clear c24
     by_cases c27 : a2 > 100
     ·
      rw [if_pos c27] at H; have c27b0 : decide (100 < a2) = true := decide_eq_true c27; clear c27
      simp only [Option.some.injEq, Prod.mk.injEq] at H
      obtain ⟨rfl, rfl⟩ := H
      go_enter Try.func10, Try.ntmps10
      go_wp2_with (first | (go_at_call 8; (with_reducible refine (madrigalref1_Edges.calls a0 t259 _ A4.out).mono ?_); rintro e w28 ⟨v260, rfl, ho0, hb⟩; have n0_ := Aside0.mk (Kd.R_lower ho0 (below_size (by repeat (with_reducible first | exact HB.out | apply below_alloc | apply pw_below_drewN | apply below_drew1)))); have n1_ := Aside0.mk (below_step (by repeat (with_reducible first | exact HB.out | apply below_alloc | apply pw_below_drewN | apply below_drew1)) hb); clear HB; have HO261 := n0_; have HB := n1_; clear n0_ n1_; (try clear hb); (try clear hb2); (try clear hk); (try clear hi); (try clear ho0); obtain ⟨Ao29, co29, eo29⟩ := Kd.R_slice HO261.out; subst eo29))
      repeat (go_quiet (first | (go_at_call 8; (with_reducible refine (madrigalref1_Edges.calls a0 t259 _ A4.out).mono ?_); rintro e w28 ⟨v260, rfl, ho0, hb⟩; have n0_ := Aside0.mk (Kd.R_lower ho0 (below_size (by repeat (with_reducible first | exact HB.out | apply below_alloc | apply pw_below_drewN | apply below_drew1)))); have n1_ := Aside0.mk (below_step (by repeat (with_reducible first | exact HB.out | apply below_alloc | apply pw_below_drewN | apply below_drew1)) hb); clear HB; have HO261 := n0_; have HB := n1_; clear n0_ n1_; (try clear hb); (try clear hb2); (try clear hk); (try clear hi); (try clear ho0); obtain ⟨Ao29, co29, eo29⟩ := Kd.R_slice HO261.out; subst eo29)); try go_wp2_with (first | (go_at_call 8; (with_reducible refine (madrigalref1_Edges.calls a0 t259 _ A4.out).mono ?_); rintro e w28 ⟨v260, rfl, ho0, hb⟩; have n0_ := Aside0.mk (Kd.R_lower ho0 (below_size (by repeat (with_reducible first | exact HB.out | apply below_alloc | apply pw_below_drewN | apply below_drew1)))); have n1_ := Aside0.mk (below_step (by repeat (with_reducible first | exact HB.out | apply below_alloc | apply pw_below_drewN | apply below_drew1)) hb); clear HB; have HO261 := n0_; have HB := n1_; clear n0_ n1_; (try clear hb); (try clear hb2); (try clear hk); (try clear hi); (try clear ho0); obtain ⟨Ao29, co29, eo29⟩ := Kd.R_slice HO261.out; subst eo29)))
      go_ret2
      exact ⟨by first | rfl | (simp [errW_none, errW_some] <;> rfl) | (simp [*, errW_none, errW_some] <;> rfl), by repeat (with_reducible first | exact HB.out | apply below_alloc | apply pw_below_drewN | apply below_drew1)⟩
     ·
      rw [if_neg c27] at H; have c27b0 : decide (100 < a2) = false := decide_eq_false c27; clear c27
      by_cases c30 : 0 ≤ a2; rotate_left
      · rw [if_neg c30] at H; exact absurd H (by simp)
      rw [if_pos c30] at H; have c30b0 : decide (0 ≤ a2) = true := decide_eq_true c30; clear c30
      by_cases c31 : a2 < (t259.length : Int); rotate_left
      · rw [if_neg c31] at H; exact absurd H (by simp)
      rw [if_pos c31] at H; have c31b0 : decide (a2 < (t259.length : Int)) = true := decide_eq_true c31; clear c31
      obtain ⟨ji32, hji32⟩ : ∃ j_ : Int, (wrap64 (a2 + 1)) = j_ := ⟨_, rfl⟩
      replace H : (if 0 ≤ (ji32) then (if (ji32) < (t259.length : Int) then (some (wrap64 ((wrap64 ((rd t259 a2) * 4)) * (wrap64 (Int.tdiv a1 10))), wrap64 ((wrap64 ((rd t259 (ji32)) * 4)) * (wrap64 (Int.tdiv a1 10))))) else (none)) else (none)) = some (r1, r2) := by first | (rw [hji32] at H; exact H) | (simp only [hji32] at H ⊢; exact H)
      (try rw [hji32] at c24b0); (try rw [hji32] at A4)
      have hji32w : (IntKind.i64.wrap (a2 + 1)) = ji32 := (i64_w _).trans hji32
      by_cases c33 : 0 ≤ (ji32); rotate_left
      · rw [if_neg c33] at H; exact absurd H (by simp)
      rw [if_pos c33] at H; have c33b0 : decide (0 ≤ (ji32)) = true := decide_eq_true c33; clear c33
      by_cases c34 : (ji32) < (t259.length : Int); rotate_left
      · rw [if_neg c34] at H; exact absurd H (by simp)
      rw [if_pos c34] at H; have c34b0 : decide ((ji32) < (t259.length : Int)) = true := decide_eq_true c34; clear c34
      simp only [Option.some.injEq, Prod.mk.injEq] at H
      obtain ⟨rfl, rfl⟩ := H
      go_enter Try.func10, Try.ntmps10
      go_wp2_with (first | (go_at_call 8; (with_reducible refine (madrigalref1_Edges.calls a0 t259 _ A4.out).mono ?_); rintro e w35 ⟨v260, rfl, ho0, hb⟩; have n0_ := Aside0.mk (Kd.R_lower ho0 (below_size (by repeat (with_reducible first | exact HB.out | apply below_alloc | apply pw_below_drewN | apply below_drew1)))); have n1_ := Aside0.mk (below_step (by repeat (with_reducible first | exact HB.out | apply below_alloc | apply pw_below_drewN | apply below_drew1)) hb); clear HB; have HO261 := n0_; have HB := n1_; clear n0_ n1_; (try clear hb); (try clear hb2); (try clear hk); (try clear hi); (try clear ho0); obtain ⟨Ao36, co36, eo36⟩ := Kd.R_slice HO261.out; subst eo36; have p264 : 0 ≤ (a2 : Int) := of_decide_eq_true (by first | (with_reducible assumption) | assumption); have q264 : a2 < (t259.length : Int) := of_decide_eq_true (by first | (with_reducible assumption) | assumption); obtain ⟨ad264, e264, hx264_0⟩ := Kd.at_int (Kd.R_reads' HO261.out).2.2 a2 p264 q264; cases e264; replace p264 := eq_true p264; replace q264 := eq_true q264; have p265 : 0 ≤ ((ji32) : Int) := of_decide_eq_true (by first | (with_reducible assumption) | assumption); have q265 : (ji32) < (t259.length : Int) := of_decide_eq_true (by first | (with_reducible assumption) | assumption); obtain ⟨ad265, e265, hx265_0⟩ := Kd.at_int (Kd.R_reads' HO261.out).2.2 (ji32) p265 q265; obtain rfl : ad264 = ad265 := (by injection e265); replace p265 := eq_true p265; replace q265 := eq_true q265))
      repeat (go_quiet (first | (go_at_call 8; (with_reducible refine (madrigalref1_Edges.calls a0 t259 _ A4.out).mono ?_); rintro e w35 ⟨v260, rfl, ho0, hb⟩; have n0_ := Aside0.mk (Kd.R_lower ho0 (below_size (by repeat (with_reducible first | exact HB.out | apply below_alloc | apply pw_below_drewN | apply below_drew1)))); have n1_ := Aside0.mk (below_step (by repeat (with_reducible first | exact HB.out | apply below_alloc | apply pw_below_drewN | apply below_drew1)) hb); clear HB; have HO261 := n0_; have HB := n1_; clear n0_ n1_; (try clear hb); (try clear hb2); (try clear hk); (try clear hi); (try clear ho0); obtain ⟨Ao36, co36, eo36⟩ := Kd.R_slice HO261.out; subst eo36; have p264 : 0 ≤ (a2 : Int) := of_decide_eq_true (by first | (with_reducible assumption) | assumption); have q264 : a2 < (t259.length : Int) := of_decide_eq_true (by first | (with_reducible assumption) | assumption); obtain ⟨ad264, e264, hx264_0⟩ := Kd.at_int (Kd.R_reads' HO261.out).2.2 a2 p264 q264; cases e264; replace p264 := eq_true p264; replace q264 := eq_true q264; have p265 : 0 ≤ ((ji32) : Int) := of_decide_eq_true (by first | (with_reducible assumption) | assumption); have q265 : (ji32) < (t259.length : Int) := of_decide_eq_true (by first | (with_reducible assumption) | assumption); obtain ⟨ad265, e265, hx265_0⟩ := Kd.at_int (Kd.R_reads' HO261.out).2.2 (ji32) p265 q265; obtain rfl : ad264 = ad265 := (by injection e265); replace p265 := eq_true p265; replace q265 := eq_true q265)); try go_wp2_with (first | (go_at_call 8; (with_reducible refine (madrigalref1_Edges.calls a0 t259 _ A4.out).mono ?_); rintro e w35 ⟨v260, rfl, ho0, hb⟩; have n0_ := Aside0.mk (Kd.R_lower ho0 (below_size (by repeat (with_reducible first | exact HB.out | apply below_alloc | apply pw_below_drewN | apply below_drew1)))); have n1_ := Aside0.mk (below_step (by repeat (with_reducible first | exact HB.out | apply below_alloc | apply pw_below_drewN | apply below_drew1)) hb); clear HB; have HO261 := n0_; have HB := n1_; clear n0_ n1_; (try clear hb); (try clear hb2); (try clear hk); (try clear hi); (try clear ho0); obtain ⟨Ao36, co36, eo36⟩ := Kd.R_slice HO261.out; subst eo36; have p264 : 0 ≤ (a2 : Int) := of_decide_eq_true (by first | (with_reducible assumption) | assumption); have q264 : a2 < (t259.length : Int) := of_decide_eq_true (by first | (with_reducible assumption) | assumption); obtain ⟨ad264, e264, hx264_0⟩ := Kd.at_int (Kd.R_reads' HO261.out).2.2 a2 p264 q264; cases e264; replace p264 := eq_true p264; replace q264 := eq_true q264; have p265 : 0 ≤ ((ji32) : Int) := of_decide_eq_true (by first | (with_reducible assumption) | assumption); have q265 : (ji32) < (t259.length : Int) := of_decide_eq_true (by first | (with_reducible assumption) | assumption); obtain ⟨ad265, e265, hx265_0⟩ := Kd.at_int (Kd.R_reads' HO261.out).2.2 (ji32) p265 q265; obtain rfl : ad264 = ad265 := (by injection e265); replace p265 := eq_true p265; replace q265 := eq_true q265)))
      go_ret2
      exact ⟨by first | rfl | (simp [errW_none, errW_some] <;> rfl) | (simp only [← hji32]; first | rfl | (simp [errW_none, errW_some] <;> rfl)) | (simp [*, errW_none, errW_some] <;> rfl), by repeat (with_reducible first | exact HB.out | apply below_alloc | apply pw_below_drewN | apply below_drew1)⟩
  ·
   rw [if_neg c21] at H; have c21b0 : (a1 == 20) = false := beq_eq_false_iff_ne.mpr c21; have c21b1 : (a1 != 20) = true := bne_iff_ne.mpr c21
   simp only [Option.some.injEq, Prod.mk.injEq] at H
   obtain ⟨rfl, rfl⟩ := H
   go_enter Try.func10, Try.ntmps10
   go_wp2_with (first | (go_at_call 8; (with_reducible refine (madrigalref1_Edges.calls a0 t259 _ A4.out).mono ?_); rintro e w37 ⟨v260, rfl, ho0, hb⟩; have n0_ := Aside0.mk (Kd.R_lower ho0 (below_size (by repeat (with_reducible first | exact HB.out | apply below_alloc | apply pw_below_drewN | apply below_drew1)))); have n1_ := Aside0.mk (below_step (by repeat (with_reducible first | exact HB.out | apply below_alloc | apply pw_below_drewN | apply below_drew1)) hb); clear HB; have HO261 := n0_; have HB := n1_; clear n0_ n1_; (try clear hb); (try clear hb2); (try clear hk); (try clear hi); (try clear ho0)))
   repeat (go_quiet (first | (go_at_call 8; (with_reducible refine (madrigalref1_Edges.calls a0 t259 _ A4.out).mono ?_); rintro e w37 ⟨v260, rfl, ho0, hb⟩; have n0_ := Aside0.mk (Kd.R_lower ho0 (below_size (by repeat (with_reducible first | exact HB.out | apply below_alloc | apply pw_below_drewN | apply below_drew1)))); have n1_ := Aside0.mk (below_step (by repeat (with_reducible first | exact HB.out | apply below_alloc | apply pw_below_drewN | apply below_drew1)) hb); clear HB; have HO261 := n0_; have HB := n1_; clear n0_ n1_; (try clear hb); (try clear hb2); (try clear hk); (try clear hi); (try clear ho0))); try go_wp2_with (first | (go_at_call 8; (with_reducible refine (madrigalref1_Edges.calls a0 t259 _ A4.out).mono ?_); rintro e w37 ⟨v260, rfl, ho0, hb⟩; have n0_ := Aside0.mk (Kd.R_lower ho0 (below_size (by repeat (with_reducible first | exact HB.out | apply below_alloc | apply pw_below_drewN | apply below_drew1)))); have n1_ := Aside0.mk (below_step (by repeat (with_reducible first | exact HB.out | apply below_alloc | apply pw_below_drewN | apply below_drew1)) hb); clear HB; have HO261 := n0_; have HB := n1_; clear n0_ n1_; (try clear hb); (try clear hb2); (try clear hk); (try clear hi); (try clear ho0))))
   go_ret2
   exact ⟨by first | rfl | (simp [errW_none, errW_some] <;> rfl) | (simp [*, errW_none, errW_some] <;> rfl), by repeat (with_reducible first | exact HB.out | apply below_alloc | apply pw_below_drewN | apply below_drew1)⟩

/-! ### madrigalref1_Rate: function 12 -/
def madrigalref1_Rate.f (a0 : Int) : Option (Bool) := if a0 = 8000 then (some true) else (if a0 = 16000 then (some true) else (some (a0 == 24000)))
set_option maxHeartbeats 8000000 in
set_option maxRecDepth 100000 in
theorem madrigalref1_Rate.calls (a0 : Int) (r : Bool) (w : World) (h : madrigalref1_Rate.f a0 = some r) :
  Calls Try.prog 12 #[.int .i64 a0] w fun e w' => e = .returned (.bool r) ∧ Drawn0 w w' := by
 have H : (if a0 = 8000 then (some true) else (if a0 = 16000 then (some true) else (some (a0 == 24000)))) = some r := h
 clear h
 by_cases c2 : a0 = 8000
 ·
  rw [if_pos c2] at H; have c2b0 : (a0 == 8000) = true := beq_iff_eq.mpr c2; have c2b1 : (a0 != 8000) = false := bne_eq_false_iff_eq.mpr c2; clear c2
  obtain rfl := Option.some.inj H
  go_enter Try.func12, Try.ntmps12
  go_wp2
  go_ret
  exact ⟨by first | rfl | (simp; done) | (simp [*]; done), by repeat (first | exact Drawn0.refl _ | apply Drawn0.step)⟩
 ·
  rw [if_neg c2] at H; have c2b0 : (a0 == 8000) = false := beq_eq_false_iff_ne.mpr c2; have c2b1 : (a0 != 8000) = true := bne_iff_ne.mpr c2
  by_cases c3 : a0 = 16000
  ·
   rw [if_pos c3] at H; have c3b0 : (a0 == 16000) = true := beq_iff_eq.mpr c3; have c3b1 : (a0 != 16000) = false := bne_eq_false_iff_eq.mpr c3; clear c3
   obtain rfl := Option.some.inj H
   go_enter Try.func12, Try.ntmps12
   go_wp2
   go_ret
   exact ⟨by first | rfl | (simp; done) | (simp [*]; done), by repeat (first | exact Drawn0.refl _ | apply Drawn0.step)⟩
  ·
   rw [if_neg c3] at H; have c3b0 : (a0 == 16000) = false := beq_eq_false_iff_ne.mpr c3; have c3b1 : (a0 != 16000) = true := bne_iff_ne.mpr c3
   obtain rfl := Option.some.inj H
   go_enter Try.func12, Try.ntmps12
   go_wp2
   go_ret
   exact ⟨by first | rfl | (simp; done) | (simp [*]; done), by repeat (first | exact Drawn0.refl _ | apply Drawn0.step)⟩

/-! ### madrigalref1_Order: function 14 -/
def madrigalref1_Order.f (a0 : Int) : Option (Int) := if a0 = 8000 then (some 10) else (if a0 = 16000 then (some 16) else (some 0))
set_option maxHeartbeats 8000000 in
set_option maxRecDepth 100000 in
theorem madrigalref1_Order.calls (a0 : Int) (r : Int) (w : World) (h : madrigalref1_Order.f a0 = some r) :
  Calls Try.prog 14 #[.int .i64 a0] w fun e w' => e = .returned (.int .i64 r) ∧ Drawn0 w w' := by
 have H : (if a0 = 8000 then (some 10) else (if a0 = 16000 then (some 16) else (some 0))) = some r := h
 clear h
 by_cases c2 : a0 = 8000
 ·
  rw [if_pos c2] at H; have c2b0 : (a0 == 8000) = true := beq_iff_eq.mpr c2; have c2b1 : (a0 != 8000) = false := bne_eq_false_iff_eq.mpr c2; clear c2
  obtain rfl := Option.some.inj H
  go_enter Try.func14, Try.ntmps14
  go_wp2
  go_ret
  exact ⟨by first | rfl | (simp; done) | (simp [*]; done), by repeat (first | exact Drawn0.refl _ | apply Drawn0.step)⟩
 ·
  rw [if_neg c2] at H; have c2b0 : (a0 == 8000) = false := beq_eq_false_iff_ne.mpr c2; have c2b1 : (a0 != 8000) = true := bne_iff_ne.mpr c2
  by_cases c3 : a0 = 16000
  ·
   rw [if_pos c3] at H; have c3b0 : (a0 == 16000) = true := beq_iff_eq.mpr c3; have c3b1 : (a0 != 16000) = false := bne_eq_false_iff_eq.mpr c3; clear c3
   obtain rfl := Option.some.inj H
   go_enter Try.func14, Try.ntmps14
   go_wp2
   go_ret
   exact ⟨by first | rfl | (simp; done) | (simp [*]; done), by repeat (first | exact Drawn0.refl _ | apply Drawn0.step)⟩
  ·
   rw [if_neg c3] at H; have c3b0 : (a0 == 16000) = false := beq_eq_false_iff_ne.mpr c3; have c3b1 : (a0 != 16000) = true := bne_iff_ne.mpr c3
   obtain rfl := Option.some.inj H
   go_enter Try.func14, Try.ntmps14
   go_wp2
   go_ret
   exact ⟨by first | rfl | (simp; done) | (simp [*]; done), by repeat (first | exact Drawn0.refl _ | apply Drawn0.step)⟩

/-! ### madrigallaw2_same: function 15 -/
def madrigallaw2_same.l0 : Nat → List Int → List Int → Int → Option (Bool)
 | 0, _, _, _ => none
 | k + 1, x0, x1, x5 => if x5 < (x0.length : Int) then (if 0 ≤ x5 then (if x5 < (x1.length : Int) then (if (rd x0 x5) = (rd x1 x5) then (madrigallaw2_same.l0 k x0 x1 (wrap64 (x5 + 1))) else (some false)) else (none)) else (none)) else (some true)
def madrigallaw2_same.f (k : Nat) (l0 : List Int) (l1 : List Int) : Option (Bool) := if (l0.length : Int) = (l1.length : Int) then (madrigallaw2_same.l0 k l0 l1 0) else (some false)
set_option maxHeartbeats 8000000 in
set_option maxRecDepth 100000 in
theorem madrigallaw2_same.calls (k : Nat) (A0 : Option Addr) (c0 : Nat) (l0 : List Int) (A1 : Option Addr) (c1 : Nat) (l1 : List Int) (r : Bool) (w : World) (hr0 : Kd.C (Kd.int .i64) w A0 l0.length l0) (hc0 : l0.length ≤ c0) (hr1 : Kd.C (Kd.int .i64) w A1 l1.length l1) (hc1 : l1.length ≤ c1) (h : madrigallaw2_same.f k l0 l1 = some r) :
  Calls Try.prog 15 #[.slice A0 l0.length c0, .slice A1 l1.length c1] w fun e w' => e = .returned (.bool r) ∧ Drawn0 w w' := by
 have HR0 := Aside0.mk hr0; have HC0 := Aside0.mk hc0; clear hr0 hc0; have HR1 := Aside0.mk hr1; have HC1 := Aside0.mk hc1; clear hr1 hc1
 have H : (if (l0.length : Int) = (l1.length : Int) then (madrigallaw2_same.l0 k l0 l1 0) else (some false)) = some r := h
 clear h
 by_cases c3 : (l0.length : Int) = (l1.length : Int)
 ·
  rw [if_pos c3] at H; have c3b0 : ((l0.length : Int) == (l1.length : Int)) = true := beq_iff_eq.mpr c3; have c3b1 : ((l0.length : Int) != (l1.length : Int)) = false := bne_eq_false_iff_eq.mpr c3
  have c3b2 : (l0.length == l1.length) = true := by first | simpa using c3 | (simp at c3 ⊢; omega)
  clear c3; have H' := Aside0.mk H; clear H
  go_enter Try.func15, Try.ntmps15
  go_wp2
  repeat (go_quiet (fail); try go_wp2)
  go_loopg [5] k (fun kq v5 w' => ∃ (x5_1 : Int), v5 = .int .i64 x5_1 ∧ Aside0 (madrigallaw2_same.l0 kq l0 l1 x5_1 = some r) ∧ Aside0 (kq ≤ k) ∧ Drawn0 w w')
  case atStart => exact ⟨(0), (by first | rfl | (simp; done) | (simp [*]; done)), H', ⟨Nat.le_refl _⟩, by repeat (first | exact Drawn0.refl _ | apply Drawn0.step)⟩
  case round =>
   clear H'
   (try clear c1); (try clear p2); (try clear c3); (try clear c3b0); (try clear c3b0z0); (try clear c3b1); (try clear c3b1z0); (try clear c3b2); (try clear c3b2z0)
   obtain ⟨x5_1, rfl, HA, HK1, ⟨m1, rfl⟩⟩ := hrel
   cases gk with
   | zero => exact absurd HA.out (by simp [madrigallaw2_same.l0])
   | succ k1 =>
    have H := HA.out; clear HA
    simp only [madrigallaw2_same.l0] at H
    by_cases c4 : x5_1 < (l0.length : Int)
    ·
     rw [if_pos c4] at H; have c4b0 : decide (x5_1 < (l0.length : Int)) = true := decide_eq_true c4; clear c4
     by_cases c5 : 0 ≤ x5_1; rotate_left
     · rw [if_neg c5] at H; exact absurd H (by simp)
     rw [if_pos c5] at H; have c5b0 : decide (0 ≤ x5_1) = true := decide_eq_true c5; clear c5
     by_cases c6 : x5_1 < (l1.length : Int); rotate_left
     · rw [if_neg c6] at H; exact absurd H (by simp)
     rw [if_pos c6] at H; have c6b0 : decide (x5_1 < (l1.length : Int)) = true := decide_eq_true c6; clear c6
     by_cases c7 : (rd l0 x5_1) = (rd l1 x5_1)
     ·
      rw [if_pos c7] at H; have c7b0 : ((rd l0 x5_1) == (rd l1 x5_1)) = true := beq_iff_eq.mpr c7; have c7b1 : ((rd l0 x5_1) != (rd l1 x5_1)) = false := bne_eq_false_iff_eq.mpr c7; clear c7; have H' := Aside0.mk H; clear H; have p266 : 0 ≤ (x5_1 : Int) := of_decide_eq_true (by first | (with_reducible assumption) | assumption); have q266 : x5_1 < (l0.length : Int) := of_decide_eq_true (by first | (with_reducible assumption) | assumption)
      obtain ⟨ad266, e266, hx266_0⟩ := Kd.at_int HR0.out x5_1 p266 q266
      cases e266; replace p266 := eq_true p266; replace q266 := eq_true q266; have p267 : 0 ≤ (x5_1 : Int) := of_decide_eq_true (by first | (with_reducible assumption) | assumption); have q267 : x5_1 < (l1.length : Int) := of_decide_eq_true (by first | (with_reducible assumption) | assumption)
      obtain ⟨ad267, e267, hx267_0⟩ := Kd.at_int HR1.out x5_1 p267 q267
      cases e267; replace p267 := eq_true p267; replace q267 := eq_true q267
      go_wp2
      repeat (go_quiet (fail); try go_wp2)
      go_roundg k1
      case measure => have := HK1.out; omega
      case rel => exact ⟨(wrap64 (x5_1 + 1)), (by first | rfl | (simp; done) | (simp [*]; done)), H', ⟨by have := HK1.out; omega⟩, by repeat (first | exact Drawn0.refl _ | apply Drawn0.step)⟩
     ·
      rw [if_neg c7] at H; have c7b0 : ((rd l0 x5_1) == (rd l1 x5_1)) = false := beq_eq_false_iff_ne.mpr c7; have c7b1 : ((rd l0 x5_1) != (rd l1 x5_1)) = true := bne_iff_ne.mpr c7
      obtain rfl := Option.some.inj H
      have p266 : 0 ≤ (x5_1 : Int) := of_decide_eq_true (by first | (with_reducible assumption) | assumption); have q266 : x5_1 < (l0.length : Int) := of_decide_eq_true (by first | (with_reducible assumption) | assumption)
      obtain ⟨ad266, e266, hx266_0⟩ := Kd.at_int HR0.out x5_1 p266 q266
      cases e266; replace p266 := eq_true p266; replace q266 := eq_true q266; have p267 : 0 ≤ (x5_1 : Int) := of_decide_eq_true (by first | (with_reducible assumption) | assumption); have q267 : x5_1 < (l1.length : Int) := of_decide_eq_true (by first | (with_reducible assumption) | assumption)
      obtain ⟨ad267, e267, hx267_0⟩ := Kd.at_int HR1.out x5_1 p267 q267
      cases e267; replace p267 := eq_true p267; replace q267 := eq_true q267
      go_wp2
      repeat (go_quiet (fail); try go_wp2)
      go_ret
      exact ⟨by first | rfl | (simp; done) | (simp [*]; done), by repeat (first | exact Drawn0.refl _ | apply Drawn0.step)⟩
    ·
     rw [if_neg c4] at H; have c4b0 : decide (x5_1 < (l0.length : Int)) = false := decide_eq_false c4; clear c4
     obtain rfl := Option.some.inj H
     go_wp2
     repeat (go_quiet (fail); try go_wp2)
     go_ret
     exact ⟨by first | rfl | (simp; done) | (simp [*]; done), by repeat (first | exact Drawn0.refl _ | apply Drawn0.step)⟩
 ·
  rw [if_neg c3] at H; have c3b0 : ((l0.length : Int) == (l1.length : Int)) = false := beq_eq_false_iff_ne.mpr c3; have c3b1 : ((l0.length : Int) != (l1.length : Int)) = true := bne_iff_ne.mpr c3
  have c3b2 : (l0.length == l1.length) = false := by first | simpa using c3 | (simp at c3 ⊢; omega)
  obtain rfl := Option.some.inj H
  go_enter Try.func15, Try.ntmps15
  go_wp2
  repeat (go_quiet (fail); try go_wp2)
  go_ret
  exact ⟨by first | rfl | (simp; done) | (simp [*]; done), by repeat (first | exact Drawn0.refl _ | apply Drawn0.step)⟩

/-! ### madrigalref1_Clamp: function 31 -/
def madrigalref1_Clamp.j0 : Nat → Int → Int → Int → Bool → Option (Int)
 | 0, _, _, _, _ => none
 | k + 1, x0, x1, x2, x7 => if x7 = true then (some x1) else (if x0 > x2 then (some x2) else (some x0))
def madrigalref1_Clamp.f (k : Nat) (a0 : Int) (a1 : Int) (a2 : Int) : Option (Int) := if a0 < a1 then (madrigalref1_Clamp.j0 k a0 a1 a2 true) else (madrigalref1_Clamp.j0 k a0 a1 a2 (decide (a1 > a2)))
set_option maxHeartbeats 8000000 in
set_option maxRecDepth 100000 in
theorem madrigalref1_Clamp.calls (k : Nat) (a0 : Int) (a1 : Int) (a2 : Int) (r : Int) (w : World) (h : madrigalref1_Clamp.f k a0 a1 a2 = some r) :
  Calls Try.prog 31 #[.int .i64 a0, .int .i64 a1, .int .i64 a2] w fun e w' => e = .returned (.int .i64 r) ∧ Drawn0 w w' := by
 have H : (if a0 < a1 then (madrigalref1_Clamp.j0 k a0 a1 a2 true) else (madrigalref1_Clamp.j0 k a0 a1 a2 (decide (a1 > a2)))) = some r := h
 clear h; have HC4 := Aside0.mk H; clear H
 go_enter Try.func31, Try.ntmps31
 go_upto_region 1 with (fail)
 go_cut [7] (fun v7 wc => ∃ (kq : Nat) (x7_3 : Bool), v7 = .bool x7_3 ∧ Aside0 (madrigalref1_Clamp.j0 kq a0 a1 a2 x7_3 = some r) ∧ Aside0 (kq ≤ k) ∧ Drawn0 w wc)
 case first =>
  have H := HC4.out; clear HC4
  by_cases c5 : a0 < a1
  ·
   rw [if_pos c5] at H; have c5b0 : decide (a0 < a1) = true := decide_eq_true c5; clear c5
   (first | rw [c5b0] | (simp only [i64_w, i32_w]; rw [c5b0]) | skip)
   have H' := Aside0.mk H; clear H
   go_wp2
   go_meet
   case rel => exact ⟨_, (true), (by first | rfl | (simp; done) | (simp [*]; done)), H', ⟨by first | omega | exact Nat.le_refl _⟩, by repeat (first | exact Drawn0.refl _ | apply Drawn0.step)⟩
  ·
   rw [if_neg c5] at H; have c5b0 : decide (a0 < a1) = false := decide_eq_false c5; clear c5
   (first | rw [c5b0] | (simp only [i64_w, i32_w]; rw [c5b0]) | skip)
   have H' := Aside0.mk H; clear H
   go_wp2
   go_meet
   case rel => exact ⟨_, (decide (a1 > a2)), (by first | rfl | (simp; done) | (simp [*]; done)), H', ⟨by first | omega | exact Nat.le_refl _⟩, by repeat (first | exact Drawn0.refl _ | apply Drawn0.step)⟩
 case rest =>
  clear HC4; (try clear p2); (try clear c3); (try clear c5); (try clear c5b0); (try clear c5b0z0)
  obtain ⟨kq, x7_3, rfl, HA, HJ3, ⟨mc3, rfl⟩⟩ := hcut
  cases kq with
  | zero => exact absurd HA.out (by simp [madrigalref1_Clamp.j0])
  | succ kj3 =>
   have H := HA.out; clear HA
   simp only [madrigalref1_Clamp.j0] at H
   by_cases c6 : x7_3 = true
   ·
    subst c6
    have H1 : (some a1) = some r := by rw [if_pos rfl] at H; exact H
    clear H; have H := H1; clear H1
    obtain rfl := Option.some.inj H
    go_wp2
    go_ret
    exact ⟨by first | rfl | (simp; done) | (simp [*]; done), by repeat (first | exact Drawn0.refl _ | apply Drawn0.step)⟩
   ·
    replace c6 := Bool.eq_false_iff.mpr c6
    subst c6
    have H1 : (if a0 > a2 then (some a2) else (some a0)) = some r := by rw [if_neg (show ¬ (false = true) by decide)] at H; exact H
    clear H; have H := H1; clear H1
    by_cases c7 : a0 > a2
    ·
     rw [if_pos c7] at H; have c7b0 : decide (a2 < a0) = true := decide_eq_true c7; clear c7
     obtain rfl := Option.some.inj H
     go_wp2
     go_ret
     exact ⟨by first | rfl | (simp; done) | (simp [*]; done), by repeat (first | exact Drawn0.refl _ | apply Drawn0.step)⟩
    ·
     rw [if_neg c7] at H; have c7b0 : decide (a2 < a0) = false := decide_eq_false c7; clear c7
     obtain rfl := Option.some.inj H
     go_wp2
     go_ret
     exact ⟨by first | rfl | (simp; done) | (simp [*]; done), by repeat (first | exact Drawn0.refl _ | apply Drawn0.step)⟩

/-! ### madrigalref1_Mul: function 27 -/
def madrigalref1_Mul.j0 : Nat → Int → Int → Bool → Option (Int)
 | 0, _, _, _ => none
 | k + 1, x2, x7, x21 => if x21 = true then (some 0) else (if x2 = 0 then (some x7) else (if 0 ≤ (IntKind.u64.wrap (wrap64 (x2 - 1))) then (if 0 ≤ (IntKind.u64.wrap (x2)) then (if (wrap64 (x7 - (shl .i64 (shr .i64 x7 (IntKind.u64.wrap (x2))) (IntKind.u64.wrap (x2))))) ≥ (shl .i64 1 (IntKind.u64.wrap (wrap64 (x2 - 1)))) then (some (wrap64 ((shr .i64 x7 (IntKind.u64.wrap (x2))) + 1))) else (some (shr .i64 x7 (IntKind.u64.wrap (x2))))) else (none)) else (none)))
def madrigalref1_Mul.f (k : Nat) (a0 : Int) (a1 : Int) (a2 : Int) : Option (Int) := (madrigalref1_Clamp.f k a0 (-2147483648) 2147483648).bind fun t268 => ((madrigalref1_Clamp.f k a1 (-2147483648) 2147483648).bind fun t269 => (if a2 < 0 then (madrigalref1_Mul.j0 k a2 (wrap64 (t268 * t269)) true) else (madrigalref1_Mul.j0 k a2 (wrap64 (t268 * t269)) (decide (a2 > 62)))))
set_option maxHeartbeats 8000000 in
set_option maxRecDepth 100000 in
theorem madrigalref1_Mul.calls (k : Nat) (a0 : Int) (a1 : Int) (a2 : Int) (r : Int) (w : World) (h : madrigalref1_Mul.f k a0 a1 a2 = some r) :
  Calls Try.prog 27 #[.int .i64 a0, .int .i64 a1, .int .i64 a2] w fun e w' => e = .returned (.int .i64 r) ∧ Drawn0 w w' := by
 have H : ((madrigalref1_Clamp.f k a0 (-2147483648) 2147483648).bind fun t268 => ((madrigalref1_Clamp.f k a1 (-2147483648) 2147483648).bind fun t269 => (if a2 < 0 then (madrigalref1_Mul.j0 k a2 (wrap64 (t268 * t269)) true) else (madrigalref1_Mul.j0 k a2 (wrap64 (t268 * t269)) (decide (a2 > 62)))))) = some r := h
 clear h; replace H := Option.bind_eq_some_iff.mp H; obtain ⟨t268, A40, H⟩ := H
 replace H : ((madrigalref1_Clamp.f k a1 (-2147483648) 2147483648).bind fun t269 => (if a2 < 0 then (madrigalref1_Mul.j0 k a2 (wrap64 (t268 * t269)) true) else (madrigalref1_Mul.j0 k a2 (wrap64 (t268 * t269)) (decide (a2 > 62))))) = some r := H
 have A4 := Aside0.mk A40; clear A40; replace H := Option.bind_eq_some_iff.mp H; obtain ⟨t269, A50, H⟩ := H
 replace H : (if a2 < 0 then (madrigalref1_Mul.j0 k a2 (wrap64 (t268 * t269)) true) else (madrigalref1_Mul.j0 k a2 (wrap64 (t268 * t269)) (decide (a2 > 62)))) = some r := H
 have A5 := Aside0.mk A50; clear A50; have HC6 := Aside0.mk H; clear H
 go_enter Try.func27, Try.ntmps27
 go_upto_region 2 with (first | ((with_reducible refine gate_callee (f := 31) rfl ?_); refine goesL_ (some 12) rfl rfl Try.func31 (by kernel_rfl) rfl #[.int .i64 a0, .int .i64 (-2147483648), .int .i64 2147483648] rfl (by (try simp only [List.map_toArray, List.map_cons, List.map_nil]); first | done | rfl | (simp only [List.length_drop, List.length_take]; rfl)) ?_; (with_reducible refine (madrigalref1_Clamp.calls k a0 (-2147483648) 2147483648 t268 _ A4.out).mono ?_); rintro e w' ⟨rfl, ⟨nd, rfl⟩⟩; refine ⟨_, rfl, ?_⟩) | ((with_reducible refine gate_callee (f := 31) rfl ?_); refine goesL_ (some 14) rfl rfl Try.func31 (by kernel_rfl) rfl #[.int .i64 a1, .int .i64 (-2147483648), .int .i64 2147483648] rfl (by (try simp only [List.map_toArray, List.map_cons, List.map_nil]); first | done | rfl | (simp only [List.length_drop, List.length_take]; rfl)) ?_; (with_reducible refine (madrigalref1_Clamp.calls k a1 (-2147483648) 2147483648 t269 _ A5.out).mono ?_); rintro e w' ⟨rfl, ⟨nd, rfl⟩⟩; refine ⟨_, rfl, ?_⟩))
 (try simp only [Act.put, List.setIfInBounds_toArray, List.set_cons_zero, List.set_cons_succ])
 go_cut [21] (fun v21 wc => ∃ (kq : Nat) (x21_5 : Bool), v21 = .bool x21_5 ∧ Aside0 (madrigalref1_Mul.j0 kq a2 (wrap64 (t268 * t269)) x21_5 = some r) ∧ Aside0 (kq ≤ k) ∧ Drawn0 w wc)
 case first =>
  have H := HC6.out; clear HC6
  by_cases c7 : a2 < 0
  ·
   rw [if_pos c7] at H; have c7b0 : decide (a2 < 0) = true := decide_eq_true c7; clear c7
   (first | rw [c7b0] | (simp only [i64_w, i32_w]; rw [c7b0]) | skip)
   have H' := Aside0.mk H; clear H
   go_wp2
   go_meet
   case rel => exact ⟨_, (true), (by first | rfl | (simp; done) | (simp [*]; done)), H', ⟨by first | omega | exact Nat.le_refl _⟩, by repeat (first | exact Drawn0.refl _ | apply Drawn0.step)⟩
  ·
   rw [if_neg c7] at H; have c7b0 : decide (a2 < 0) = false := decide_eq_false c7; clear c7
   (first | rw [c7b0] | (simp only [i64_w, i32_w]; rw [c7b0]) | skip)
   have H' := Aside0.mk H; clear H
   go_wp2
   go_meet
   case rel => exact ⟨_, (decide (a2 > 62)), (by first | rfl | (simp; done) | (simp [*]; done)), H', ⟨by first | omega | exact Nat.le_refl _⟩, by repeat (first | exact Drawn0.refl _ | apply Drawn0.step)⟩
 case rest =>
  clear HC6; (try clear c2); (try clear p2); (try clear c3); (try clear p6); (try clear c7); (try clear c7b0); (try clear c7b0z0)
  obtain ⟨kq, x21_5, rfl, HA, HJ5, ⟨mc5, rfl⟩⟩ := hcut
  cases kq with
  | zero => exact absurd HA.out (by simp [madrigalref1_Mul.j0])
  | succ kj5 =>
   have H := HA.out; clear HA
   simp only [madrigalref1_Mul.j0] at H
   by_cases c8 : x21_5 = true
   ·
    subst c8
    have H1 : (some 0) = some r := by rw [if_pos rfl] at H; exact H
    clear H; have H := H1; clear H1
    obtain rfl := Option.some.inj H
    go_wp2
    go_ret
    exact ⟨by first | rfl | (simp; done) | (simp [*]; done), by repeat (first | exact Drawn0.refl _ | apply Drawn0.step)⟩
   ·
    replace c8 := Bool.eq_false_iff.mpr c8
    subst c8
    have H1 : (if a2 = 0 then (some (wrap64 (t268 * t269))) else (if 0 ≤ (IntKind.u64.wrap (wrap64 (a2 - 1))) then (if 0 ≤ (IntKind.u64.wrap (a2)) then (if (wrap64 ((wrap64 (t268 * t269)) - (shl .i64 (shr .i64 (wrap64 (t268 * t269)) (IntKind.u64.wrap (a2))) (IntKind.u64.wrap (a2))))) ≥ (shl .i64 1 (IntKind.u64.wrap (wrap64 (a2 - 1)))) then (some (wrap64 ((shr .i64 (wrap64 (t268 * t269)) (IntKind.u64.wrap (a2))) + 1))) else (some (shr .i64 (wrap64 (t268 * t269)) (IntKind.u64.wrap (a2))))) else (none)) else (none))) = some r := by rw [if_neg (show ¬ (false = true) by decide)] at H; exact H
    clear H; have H := H1; clear H1
    by_cases c9 : a2 = 0
    ·
     rw [if_pos c9] at H; have c9b0 : (a2 == 0) = true := beq_iff_eq.mpr c9; have c9b1 : (a2 != 0) = false := bne_eq_false_iff_eq.mpr c9; clear c9
     obtain rfl := Option.some.inj H
     go_wp2
     go_ret
     exact ⟨by first | rfl | (simp; done) | (simp [*]; done), by repeat (first | exact Drawn0.refl _ | apply Drawn0.step)⟩
    ·
     rw [if_neg c9] at H; have c9b0 : (a2 == 0) = false := beq_eq_false_iff_ne.mpr c9; have c9b1 : (a2 != 0) = true := bne_iff_ne.mpr c9
     obtain ⟨ji10, hji10⟩ : ∃ j_ : Int, (IntKind.u64.wrap (wrap64 (a2 - 1))) = j_ := ⟨_, rfl⟩
     replace H : (if 0 ≤ (ji10) then (if 0 ≤ (IntKind.u64.wrap (a2)) then (if (wrap64 ((wrap64 (t268 * t269)) - (shl .i64 (shr .i64 (wrap64 (t268 * t269)) (IntKind.u64.wrap (a2))) (IntKind.u64.wrap (a2))))) ≥ (shl .i64 1 (ji10)) then (some (wrap64 ((shr .i64 (wrap64 (t268 * t269)) (IntKind.u64.wrap (a2))) + 1))) else (some (shr .i64 (wrap64 (t268 * t269)) (IntKind.u64.wrap (a2))))) else (none)) else (none)) = some r := by first | (rw [hji10] at H; exact H) | (simp only [hji10] at H ⊢; exact H)
     by_cases c11 : 0 ≤ (ji10); rotate_left
     · rw [if_neg c11] at H; exact absurd H (by simp)
     rw [if_pos c11] at H; have c11b0 := eq_true c11; have c11b1 : decide (0 ≤ (ji10)) = true := decide_eq_true c11; clear c11
     obtain ⟨ji12, hji12⟩ : ∃ j_ : Int, (shl .i64 1 (ji10)) = j_ := ⟨_, rfl⟩
     replace H : (if 0 ≤ (IntKind.u64.wrap (a2)) then (if (wrap64 ((wrap64 (t268 * t269)) - (shl .i64 (shr .i64 (wrap64 (t268 * t269)) (IntKind.u64.wrap (a2))) (IntKind.u64.wrap (a2))))) ≥ (ji12) then (some (wrap64 ((shr .i64 (wrap64 (t268 * t269)) (IntKind.u64.wrap (a2))) + 1))) else (some (shr .i64 (wrap64 (t268 * t269)) (IntKind.u64.wrap (a2))))) else (none)) = some r := by first | (rw [hji12] at H; exact H) | (simp only [hji12] at H ⊢; exact H)
     have hji12_ : (IntKind.i64.wrap (1 * 2 ^ min (ji10).toNat 64)) = ji12 := hji12
     have hji12z : (ji10) ≤ 64 → (IntKind.i64.wrap (1 * 2 ^ (ji10).toNat)) = ji12 := shl_small hji12
     have hji12u : (IntKind.i64.wrap (2 ^ min (ji10).toNat 64)) = ji12 := by have h_ := hji12_; rw [Int.one_mul] at h_; exact h_
     have hji12v : (ji10) ≤ 64 → (IntKind.i64.wrap (2 ^ (ji10).toNat)) = ji12 := fun hle_ => by have h_ := hji12z hle_; rw [Int.one_mul] at h_; exact h_
     have hji12y : (wrap64 (1 * 2 ^ min (ji10).toNat 64)) = ji12 := (i64_w _).symm.trans hji12_
     have hji12x : (ji10) ≤ 64 → (wrap64 (1 * 2 ^ (ji10).toNat)) = ji12 := fun h_ => (i64_w _).symm.trans (hji12z h_)
     obtain ⟨ji13, hji13⟩ : ∃ j_ : Int, (IntKind.u64.wrap (a2)) = j_ := ⟨_, rfl⟩
     replace H : (if 0 ≤ (ji13) then (if (wrap64 ((wrap64 (t268 * t269)) - (shl .i64 (shr .i64 (wrap64 (t268 * t269)) (ji13)) (ji13)))) ≥ (ji12) then (some (wrap64 ((shr .i64 (wrap64 (t268 * t269)) (ji13)) + 1))) else (some (shr .i64 (wrap64 (t268 * t269)) (ji13)))) else (none)) = some r := by first | (rw [hji13] at H; exact H) | (simp only [hji13] at H ⊢; exact H)
     by_cases c14 : 0 ≤ (ji13); rotate_left
     · rw [if_neg c14] at H; exact absurd H (by simp)
     rw [if_pos c14] at H; have c14b0 := eq_true c14; have c14b1 : decide (0 ≤ (ji13)) = true := decide_eq_true c14; clear c14
     obtain ⟨ji15, hji15⟩ : ∃ j_ : Int, (shr .i64 (wrap64 (t268 * t269)) (ji13)) = j_ := ⟨_, rfl⟩
     replace H : (if (wrap64 ((wrap64 (t268 * t269)) - (shl .i64 (ji15) (ji13)))) ≥ (ji12) then (some (wrap64 ((ji15) + 1))) else (some ji15)) = some r := by first | (rw [hji15] at H; exact H) | (simp only [hji15] at H ⊢; exact H)
     have hji15_ : ((wrap64 (t268 * t269)) / 2 ^ min (ji13).toNat 64) = ji15 := hji15
     have hji15z : (ji13) ≤ 64 → ((wrap64 (t268 * t269)) / 2 ^ (ji13).toNat) = ji15 := shr_small hji15
     have c16b0 := eq_true (of_decide_eq_true (by first | (with_reducible assumption) | assumption) : 0 ≤ (ji13))
     obtain ⟨ji17, hji17⟩ : ∃ j_ : Int, (shl .i64 (ji15) (ji13)) = j_ := ⟨_, rfl⟩
     replace H : (if (wrap64 ((wrap64 (t268 * t269)) - (ji17))) ≥ (ji12) then (some (wrap64 ((ji15) + 1))) else (some ji15)) = some r := by first | (rw [hji17] at H; exact H) | (simp only [hji17] at H ⊢; exact H)
     have hji17_ : (IntKind.i64.wrap ((ji15) * 2 ^ min (ji13).toNat 64)) = ji17 := hji17
     have hji17z : (ji13) ≤ 64 → (IntKind.i64.wrap ((ji15) * 2 ^ (ji13).toNat)) = ji17 := shl_small hji17
     have hji17y : (wrap64 ((ji15) * 2 ^ min (ji13).toNat 64)) = ji17 := (i64_w _).symm.trans hji17_
     have hji17x : (ji13) ≤ 64 → (wrap64 ((ji15) * 2 ^ (ji13).toNat)) = ji17 := fun h_ => (i64_w _).symm.trans (hji17z h_)
     by_cases c18 : (wrap64 ((wrap64 (t268 * t269)) - (ji17))) ≥ (ji12)
     ·
      rw [if_pos c18] at H; have c18b0 : decide ((ji12) ≤ (wrap64 ((wrap64 (t268 * t269)) - (ji17)))) = true := decide_eq_true c18; clear c18
      obtain rfl := Option.some.inj H
      go_wp2
      go_ret
      exact ⟨by first | rfl | (simp; done) | (simp only [← hji10, ← hji12, ← hji13, ← hji15, ← hji17] <;> (first | rfl | simp)) | (simp [*]; done), by repeat (first | exact Drawn0.refl _ | apply Drawn0.step)⟩
     ·
      rw [if_neg c18] at H; have c18b0 : decide ((ji12) ≤ (wrap64 ((wrap64 (t268 * t269)) - (ji17)))) = false := decide_eq_false c18; clear c18
      obtain rfl := Option.some.inj H
      go_wp2
      go_ret
      exact ⟨by first | rfl | (simp; done) | (simp only [← hji10, ← hji12, ← hji13, ← hji15, ← hji17] <;> (first | rfl | simp)) | (simp [*]; done), by repeat (first | exact Drawn0.refl _ | apply Drawn0.step)⟩

/-! ### madrigalref1_series: function 35 -/
def madrigalref1_series.l0 : Nat → Int → Int → List Int → Int → Option (Int)
 | 0, _, _, _, _ => none
 | k + 1, x0, x1, x2, x7 => if x7 < (x2.length : Int) then (if 0 ≤ x7 then ((madrigalref1_Mul.f k x0 x1 30).bind fun t271 => (madrigalref1_series.l0 k x0 (wrap64 ((rd x2 x7) + t271)) x2 (wrap64 (x7 + 1)))) else (none)) else (some x1)
def madrigalref1_series.f (k : Nat) (a0 : Int) (a1 : Int) (l2 : List Int) : Option (Int) := madrigalref1_series.l0 k a0 a1 l2 0
set_option maxHeartbeats 8000000 in
set_option maxRecDepth 100000 in
theorem madrigalref1_series.calls (k : Nat) (a0 : Int) (a1 : Int) (A2 : Option Addr) (c2 : Nat) (l2 : List Int) (r : Int) (w : World) (hr2 : Kd.C (Kd.int .i64) w A2 l2.length l2) (hc2 : l2.length ≤ c2) (h : madrigalref1_series.f k a0 a1 l2 = some r) :
  Calls Try.prog 35 #[.int .i64 a0, .int .i64 a1, .slice A2 l2.length c2] w fun e w' => e = .returned (.int .i64 r) ∧ Drawn0 w w' := by
 have HR2 := Aside0.mk hr2; have HC2 := Aside0.mk hc2; clear hr2 hc2
 have H : (madrigalref1_series.l0 k a0 a1 l2 0) = some r := h
 clear h; have H' := Aside0.mk H; clear H
 go_enter Try.func35, Try.ntmps35
 go_wp2
 repeat (go_quiet (fail); try go_wp2)
 go_loopg [1, 7] k (fun kq v1 v7 w' => ∃ (x1_1 : Int) (x7_1 : Int), v1 = .int .i64 x1_1 ∧ v7 = .int .i64 x7_1 ∧ Aside0 (madrigalref1_series.l0 kq a0 x1_1 l2 x7_1 = some r) ∧ Aside0 (kq ≤ k) ∧ Drawn0 w w')
 case atStart => exact ⟨(a1), (0), (by first | rfl | (simp; done) | (simp [*]; done)), (by first | rfl | (simp; done) | (simp [*]; done)), H', ⟨Nat.le_refl _⟩, by repeat (first | exact Drawn0.refl _ | apply Drawn0.step)⟩
 case round =>
  clear H'
  (try clear c2); (try clear p2); (try clear c3)
  obtain ⟨x1_1, x7_1, rfl, rfl, HA, HK1, ⟨m1, rfl⟩⟩ := hrel
  cases gk with
  | zero => exact absurd HA.out (by simp [madrigalref1_series.l0])
  | succ k1 =>
   have H := HA.out; clear HA
   simp only [madrigalref1_series.l0] at H
   by_cases c4 : x7_1 < (l2.length : Int)
   ·
    rw [if_pos c4] at H; have c4b0 : decide (x7_1 < (l2.length : Int)) = true := decide_eq_true c4; clear c4
    by_cases c5 : 0 ≤ x7_1; rotate_left
    · rw [if_neg c5] at H; exact absurd H (by simp)
    rw [if_pos c5] at H; have c5b0 : decide (0 ≤ x7_1) = true := decide_eq_true c5; clear c5; replace H := Option.bind_eq_some_iff.mp H; obtain ⟨t271, A60, H⟩ := H
    replace H : (madrigalref1_series.l0 k1 a0 (wrap64 ((rd l2 x7_1) + t271)) l2 (wrap64 (x7_1 + 1))) = some r := H
    have A6 := Aside0.mk A60; clear A60; have H' := Aside0.mk H; clear H; have p270 : 0 ≤ (x7_1 : Int) := of_decide_eq_true (by first | (with_reducible assumption) | assumption); have q270 : x7_1 < (l2.length : Int) := of_decide_eq_true (by first | (with_reducible assumption) | assumption)
    obtain ⟨ad270, e270, hx270_0⟩ := Kd.at_int HR2.out x7_1 p270 q270
    cases e270; replace p270 := eq_true p270; replace q270 := eq_true q270
    go_wp2_with (first | (go_at_call 27; (with_reducible refine (madrigalref1_Mul.calls k1 a0 x1_1 30 t271 _ A6.out).mono ?_); rintro e w' ⟨rfl, ⟨nd, rfl⟩⟩; (try first | exact ⟨rfl, _, World.drewN_drewN _ _ _⟩ | exact ⟨rfl, _, Eq.trans (World.drewN_drewN _ _ _) (congrArg (World.drewN _) (Nat.add_assoc _ _ _))⟩)))
    repeat (go_quiet (first | (go_at_call 27; (with_reducible refine (madrigalref1_Mul.calls k1 a0 x1_1 30 t271 _ A6.out).mono ?_); rintro e w' ⟨rfl, ⟨nd, rfl⟩⟩; (try first | exact ⟨rfl, _, World.drewN_drewN _ _ _⟩ | exact ⟨rfl, _, Eq.trans (World.drewN_drewN _ _ _) (congrArg (World.drewN _) (Nat.add_assoc _ _ _))⟩))); try go_wp2_with (first | (go_at_call 27; (with_reducible refine (madrigalref1_Mul.calls k1 a0 x1_1 30 t271 _ A6.out).mono ?_); rintro e w' ⟨rfl, ⟨nd, rfl⟩⟩; (try first | exact ⟨rfl, _, World.drewN_drewN _ _ _⟩ | exact ⟨rfl, _, Eq.trans (World.drewN_drewN _ _ _) (congrArg (World.drewN _) (Nat.add_assoc _ _ _))⟩))))
    go_roundg k1
    case measure => have := HK1.out; omega
    case rel => exact ⟨(wrap64 ((rd l2 x7_1) + t271)), (wrap64 (x7_1 + 1)), (by first | rfl | (simp; done) | (simp [*]; done)), (by first | rfl | (simp; done) | (simp [*]; done)), H', ⟨by have := HK1.out; omega⟩, by repeat (first | exact Drawn0.refl _ | apply Drawn0.step)⟩
   ·
    rw [if_neg c4] at H; have c4b0 : decide (x7_1 < (l2.length : Int)) = false := decide_eq_false c4; clear c4
    obtain rfl := Option.some.inj H
    go_wp2
    repeat (go_quiet (fail); try go_wp2)
    go_ret
    exact ⟨by first | rfl | (simp; done) | (simp [*]; done), by repeat (first | exact Drawn0.refl _ | apply Drawn0.step)⟩

/-! ### madrigalref1_quarter: function 34 -/
def madrigalref1_quarter.f (k : Nat) (a0 : Int) : Option (Int) := if a0 ≤ 8192 then ((madrigalref1_Mul.f k a0 1686629713 14).bind fun t272 => ((madrigalref1_Mul.f k t272 t272 30).bind fun t273 => ((madrigalref1_series.f k t273 (-296) (([26631, (-1491308), 44739243, (-536870912), 1073741824] : List Int))).bind fun t277 => ((madrigalref1_Mul.f k t277 1 15).bind fun t278 => (some t278))))) else ((madrigalref1_Mul.f k (wrap64 (16384 - a0)) 1686629713 14).bind fun t279 => ((madrigalref1_Mul.f k t279 t279 30).bind fun t280 => ((madrigalref1_series.f k t280 2959 (([(-213044), 8947849, (-178956971), 1073741824] : List Int))).bind fun t284 => ((madrigalref1_Mul.f k t279 t284 30).bind fun t285 => ((madrigalref1_Mul.f k t285 1 15).bind fun t286 => (some t286))))))
set_option maxHeartbeats 8000000 in
set_option maxRecDepth 100000 in
theorem madrigalref1_quarter.calls (k : Nat) (a0 : Int) (r : Int) (w : World) (h : madrigalref1_quarter.f k a0 = some r) :
  Calls Try.prog 34 #[.int .i64 a0] w fun e w' => e = .returned (.int .i64 r) ∧ Below w.heap.size w w' := by
 have HB := Aside0.mk (Below.refl w.heap.size w)
 have H : (if a0 ≤ 8192 then ((madrigalref1_Mul.f k a0 1686629713 14).bind fun t272 => ((madrigalref1_Mul.f k t272 t272 30).bind fun t273 => ((madrigalref1_series.f k t273 (-296) (([26631, (-1491308), 44739243, (-536870912), 1073741824] : List Int))).bind fun t277 => ((madrigalref1_Mul.f k t277 1 15).bind fun t278 => (some t278))))) else ((madrigalref1_Mul.f k (wrap64 (16384 - a0)) 1686629713 14).bind fun t279 => ((madrigalref1_Mul.f k t279 t279 30).bind fun t280 => ((madrigalref1_series.f k t280 2959 (([(-213044), 8947849, (-178956971), 1073741824] : List Int))).bind fun t284 => ((madrigalref1_Mul.f k t279 t284 30).bind fun t285 => ((madrigalref1_Mul.f k t285 1 15).bind fun t286 => (some t286))))))) = some r := h
 clear h
 by_cases c2 : a0 ≤ 8192
 ·
  rw [if_pos c2] at H; have c2b0 : decide (a0 ≤ 8192) = true := decide_eq_true c2; clear c2; replace H := Option.bind_eq_some_iff.mp H; obtain ⟨t272, A30, H⟩ := H
  replace H : ((madrigalref1_Mul.f k t272 t272 30).bind fun t273 => ((madrigalref1_series.f k t273 (-296) (([26631, (-1491308), 44739243, (-536870912), 1073741824] : List Int))).bind fun t277 => ((madrigalref1_Mul.f k t277 1 15).bind fun t278 => (some t278)))) = some r := H
  have A3 := Aside0.mk A30; clear A30; replace H := Option.bind_eq_some_iff.mp H; obtain ⟨t273, A40, H⟩ := H
  replace H : ((madrigalref1_series.f k t273 (-296) (([26631, (-1491308), 44739243, (-536870912), 1073741824] : List Int))).bind fun t277 => ((madrigalref1_Mul.f k t277 1 15).bind fun t278 => (some t278))) = some r := H
  have A4 := Aside0.mk A40; clear A40
  obtain ⟨y274, hy274⟩ : ∃ y_ : List Int, y_ = (([26631, (-1491308), 44739243, (-536870912), 1073741824] : List Int)) := ⟨_, rfl⟩
  replace H : ((madrigalref1_series.f k t273 (-296) y274).bind fun t277 => ((madrigalref1_Mul.f k t277 1 15).bind fun t278 => (some t278))) = some r := by first | (rw [hy274]; with_reducible exact H) | (have H2_ := (Option.bind_some _ _).symm.trans H; rw [hy274]; with_reducible exact H2_) | (have H2_ := (Option.bind_some _ _).symm.trans H; with_reducible exact H2_) | with_reducible exact H | (rw [hy274]; exact H) | exact H
  have Ny274 := Aside0.mk hy274; clear hy274; replace H := Option.bind_eq_some_iff.mp H; obtain ⟨t277, A50, H⟩ := H
  replace H : ((madrigalref1_Mul.f k t277 1 15).bind fun t278 => (some t278)) = some r := H
  have A5 := Aside0.mk A50; clear A50; replace H := Option.bind_eq_some_iff.mp H; obtain ⟨t278, A60, H⟩ := H
  replace H : (some t278) = some r := H
  have A6 := Aside0.mk A60; clear A60
  obtain rfl := Option.some.inj H
  go_enter Try.func34, Try.ntmps34
  go_wp2_with (first | ((with_reducible refine gate_callee (f := 27) rfl ?_); refine goesL_ (some 10) rfl rfl Try.func27 (by kernel_rfl) rfl #[.int .i64 a0, .int .i64 1686629713, .int .i64 14] rfl (by (try simp only [List.map_toArray, List.map_cons, List.map_nil]); first | done | rfl | (simp only [List.length_drop, List.length_take]; rfl)) ?_; (with_reducible refine (madrigalref1_Mul.calls k a0 1686629713 14 t272 _ A3.out).mono ?_); rintro e w' ⟨rfl, ⟨nd, rfl⟩⟩; refine ⟨_, rfl, ?_⟩) | ((with_reducible refine gate_callee (f := 27) rfl ?_); refine goesL_ (some 13) rfl rfl Try.func27 (by kernel_rfl) rfl #[.int .i64 t272, .int .i64 t272, .int .i64 30] rfl (by (try simp only [List.map_toArray, List.map_cons, List.map_nil]); first | done | rfl | (simp only [List.length_drop, List.length_take]; rfl)) ?_; (with_reducible refine (madrigalref1_Mul.calls k t272 t272 30 t273 _ A4.out).mono ?_); rintro e w' ⟨rfl, ⟨nd, rfl⟩⟩; refine ⟨_, rfl, ?_⟩) | ((with_reducible refine gate_dst (N := 15) rfl ?_); refine Kd.R_lit (Kd.int .i64) _ 2 ?hg (N := 15) ?hd (xs := ([26631, (-1491308), 44739243, (-536870912), 1073741824] : List Int)) (inner := [.int .i64 26631, .int .i64 (-1491308), .int .i64 44739243, .int .i64 (-536870912), .int .i64 1073741824]) (ok := fun _ => True) (okp := fun _ => True) ?hr ?hp (fun _ hk => hk) trivial (Below.refl _ _) (Nat.le_refl _) (by simp) ?_; (case hd => rfl); (case hg => rfl); (case hr => first | (go_simp; done) | (go_simp; rfl)); (case hp => exact (Reps.one (show Kd.M (Kd.int .i64) _ _ _ 26631 [.int .i64 26631] from rfl) (Reps.one (show Kd.M (Kd.int .i64) _ _ _ (-1491308) [.int .i64 (-1491308)] from rfl) (Reps.one (show Kd.M (Kd.int .i64) _ _ _ 44739243 [.int .i64 44739243] from rfl) (Reps.one (show Kd.M (Kd.int .i64) _ _ _ (-536870912) [.int .i64 (-536870912)] from rfl) (Reps.one (show Kd.M (Kd.int .i64) _ _ _ 1073741824 [.int .i64 1073741824] from rfl) (Reps.none _ _))))))); intro v275 w7 ho8 hb hg_ hnew_; clear hg_ hnew_; (first | rw [← Ny274.out] at ho8 | (simp only [Int.reduceToNat] at ho8; rw [← Ny274.out] at ho8)); have n0_ := Aside0.mk (Kd.R_lower ho8 (below_size (by repeat (with_reducible first | exact HB.out | apply below_alloc | apply pw_below_drewN | apply below_drew1)))); have n1_ := Aside0.mk (below_step (by repeat (with_reducible first | exact HB.out | apply below_alloc | apply pw_below_drewN | apply below_drew1)) hb); clear HB; have HO276 := n0_; have HB := n1_; clear n0_ n1_; clear hb ho8; obtain ⟨Ao9, co9, eo9⟩ := Kd.R_slice HO276.out; subst eo9) | ((with_reducible refine gate_callee (f := 35) rfl ?_); refine goesL_ (some 16) rfl rfl Try.func35 (by kernel_rfl) rfl #[.int .i64 t273, .int .i64 (-296), .slice Ao9 y274.length co9] rfl (by (try simp only [List.map_toArray, List.map_cons, List.map_nil]); first | done | rfl | (simp only [List.length_drop, List.length_take]; rfl)) ?_; (with_reducible refine (madrigalref1_series.calls k t273 (-296) _ _ y274 t277 _ ?side1 ?side2 A5.out).mono ?_); (case side1 => repeat (first | exact (Kd.R_reads' HO276.out).2.2 | (with_reducible refine Kd.C_alloc ?_ _) | (with_reducible refine Kd.C_drewN ?_ _) | (with_reducible refine Kd.C_drew ?_))); (case side2 => exact (Kd.R_reads' HO276.out).2.1); rintro e w' ⟨rfl, ⟨nd, rfl⟩⟩; refine ⟨_, rfl, ?_⟩) | ((with_reducible refine gate_callee (f := 27) rfl ?_); refine goesL_ (some 17) rfl rfl Try.func27 (by kernel_rfl) rfl #[.int .i64 t277, .int .i64 1, .int .i64 15] rfl (by (try simp only [List.map_toArray, List.map_cons, List.map_nil]); first | done | rfl | (simp only [List.length_drop, List.length_take]; rfl)) ?_; (with_reducible refine (madrigalref1_Mul.calls k t277 1 15 t278 _ A6.out).mono ?_); rintro e w' ⟨rfl, ⟨nd, rfl⟩⟩; refine ⟨_, rfl, ?_⟩))
  go_ret
  exact ⟨by first | rfl | (simp [errW_none, errW_some] <;> rfl) | (simp [*, errW_none, errW_some] <;> rfl), by repeat (with_reducible first | exact HB.out | apply below_alloc | apply pw_below_drewN | apply below_drew1)⟩
 ·
  rw [if_neg c2] at H; have c2b0 : decide (a0 ≤ 8192) = false := decide_eq_false c2; clear c2; replace H := Option.bind_eq_some_iff.mp H; obtain ⟨t279, A100, H⟩ := H
  replace H : ((madrigalref1_Mul.f k t279 t279 30).bind fun t280 => ((madrigalref1_series.f k t280 2959 (([(-213044), 8947849, (-178956971), 1073741824] : List Int))).bind fun t284 => ((madrigalref1_Mul.f k t279 t284 30).bind fun t285 => ((madrigalref1_Mul.f k t285 1 15).bind fun t286 => (some t286))))) = some r := H
  have A10 := Aside0.mk A100; clear A100; replace H := Option.bind_eq_some_iff.mp H; obtain ⟨t280, A110, H⟩ := H
  replace H : ((madrigalref1_series.f k t280 2959 (([(-213044), 8947849, (-178956971), 1073741824] : List Int))).bind fun t284 => ((madrigalref1_Mul.f k t279 t284 30).bind fun t285 => ((madrigalref1_Mul.f k t285 1 15).bind fun t286 => (some t286)))) = some r := H
  have A11 := Aside0.mk A110; clear A110
  obtain ⟨y281, hy281⟩ : ∃ y_ : List Int, y_ = (([(-213044), 8947849, (-178956971), 1073741824] : List Int)) := ⟨_, rfl⟩
  replace H : ((madrigalref1_series.f k t280 2959 y281).bind fun t284 => ((madrigalref1_Mul.f k t279 t284 30).bind fun t285 => ((madrigalref1_Mul.f k t285 1 15).bind fun t286 => (some t286)))) = some r := by first | (rw [hy281]; with_reducible exact H) | (have H2_ := (Option.bind_some _ _).symm.trans H; rw [hy281]; with_reducible exact H2_) | (have H2_ := (Option.bind_some _ _).symm.trans H; with_reducible exact H2_) | with_reducible exact H | (rw [hy281]; exact H) | exact H
  have Ny281 := Aside0.mk hy281; clear hy281; replace H := Option.bind_eq_some_iff.mp H; obtain ⟨t284, A120, H⟩ := H
  replace H : ((madrigalref1_Mul.f k t279 t284 30).bind fun t285 => ((madrigalref1_Mul.f k t285 1 15).bind fun t286 => (some t286))) = some r := H
  have A12 := Aside0.mk A120; clear A120; replace H := Option.bind_eq_some_iff.mp H; obtain ⟨t285, A130, H⟩ := H
  replace H : ((madrigalref1_Mul.f k t285 1 15).bind fun t286 => (some t286)) = some r := H
  have A13 := Aside0.mk A130; clear A130; replace H := Option.bind_eq_some_iff.mp H; obtain ⟨t286, A140, H⟩ := H
  replace H : (some t286) = some r := H
  have A14 := Aside0.mk A140; clear A140
  obtain rfl := Option.some.inj H
  go_enter Try.func34, Try.ntmps34
  go_wp2_with (first | ((with_reducible refine gate_callee (f := 27) rfl ?_); refine goesL_ (some 20) rfl rfl Try.func27 (by kernel_rfl) rfl #[.int .i64 (wrap64 (16384 - a0)), .int .i64 1686629713, .int .i64 14] rfl (by (try simp only [List.map_toArray, List.map_cons, List.map_nil]); first | done | rfl | (simp only [List.length_drop, List.length_take]; rfl)) ?_; (with_reducible refine (madrigalref1_Mul.calls k (wrap64 (16384 - a0)) 1686629713 14 t279 _ A10.out).mono ?_); rintro e w' ⟨rfl, ⟨nd, rfl⟩⟩; refine ⟨_, rfl, ?_⟩) | ((with_reducible refine gate_callee (f := 27) rfl ?_); refine goesL_ (some 23) rfl rfl Try.func27 (by kernel_rfl) rfl #[.int .i64 t279, .int .i64 t279, .int .i64 30] rfl (by (try simp only [List.map_toArray, List.map_cons, List.map_nil]); first | done | rfl | (simp only [List.length_drop, List.length_take]; rfl)) ?_; (with_reducible refine (madrigalref1_Mul.calls k t279 t279 30 t280 _ A11.out).mono ?_); rintro e w' ⟨rfl, ⟨nd, rfl⟩⟩; refine ⟨_, rfl, ?_⟩) | ((with_reducible refine gate_dst (N := 26) rfl ?_); refine Kd.R_lit (Kd.int .i64) _ 2 ?hg (N := 26) ?hd (xs := ([(-213044), 8947849, (-178956971), 1073741824] : List Int)) (inner := [.int .i64 (-213044), .int .i64 8947849, .int .i64 (-178956971), .int .i64 1073741824]) (ok := fun _ => True) (okp := fun _ => True) ?hr ?hp (fun _ hk => hk) trivial (Below.refl _ _) (Nat.le_refl _) (by simp) ?_; (case hd => rfl); (case hg => rfl); (case hr => first | (go_simp; done) | (go_simp; rfl)); (case hp => exact (Reps.one (show Kd.M (Kd.int .i64) _ _ _ (-213044) [.int .i64 (-213044)] from rfl) (Reps.one (show Kd.M (Kd.int .i64) _ _ _ 8947849 [.int .i64 8947849] from rfl) (Reps.one (show Kd.M (Kd.int .i64) _ _ _ (-178956971) [.int .i64 (-178956971)] from rfl) (Reps.one (show Kd.M (Kd.int .i64) _ _ _ 1073741824 [.int .i64 1073741824] from rfl) (Reps.none _ _)))))); intro v282 w15 ho16 hb hg_ hnew_; clear hg_ hnew_; (first | rw [← Ny281.out] at ho16 | (simp only [Int.reduceToNat] at ho16; rw [← Ny281.out] at ho16)); have n0_ := Aside0.mk (Kd.R_lower ho16 (below_size (by repeat (with_reducible first | exact HB.out | apply below_alloc | apply pw_below_drewN | apply below_drew1)))); have n1_ := Aside0.mk (below_step (by repeat (with_reducible first | exact HB.out | apply below_alloc | apply pw_below_drewN | apply below_drew1)) hb); clear HB; have HO283 := n0_; have HB := n1_; clear n0_ n1_; clear hb ho16; obtain ⟨Ao17, co17, eo17⟩ := Kd.R_slice HO283.out; subst eo17) | ((with_reducible refine gate_callee (f := 35) rfl ?_); refine goesL_ (some 27) rfl rfl Try.func35 (by kernel_rfl) rfl #[.int .i64 t280, .int .i64 2959, .slice Ao17 y281.length co17] rfl (by (try simp only [List.map_toArray, List.map_cons, List.map_nil]); first | done | rfl | (simp only [List.length_drop, List.length_take]; rfl)) ?_; (with_reducible refine (madrigalref1_series.calls k t280 2959 _ _ y281 t284 _ ?side1 ?side2 A12.out).mono ?_); (case side1 => repeat (first | exact (Kd.R_reads' HO283.out).2.2 | (with_reducible refine Kd.C_alloc ?_ _) | (with_reducible refine Kd.C_drewN ?_ _) | (with_reducible refine Kd.C_drew ?_))); (case side2 => exact (Kd.R_reads' HO283.out).2.1); rintro e w' ⟨rfl, ⟨nd, rfl⟩⟩; refine ⟨_, rfl, ?_⟩) | ((with_reducible refine gate_callee (f := 27) rfl ?_); refine goesL_ (some 28) rfl rfl Try.func27 (by kernel_rfl) rfl #[.int .i64 t279, .int .i64 t284, .int .i64 30] rfl (by (try simp only [List.map_toArray, List.map_cons, List.map_nil]); first | done | rfl | (simp only [List.length_drop, List.length_take]; rfl)) ?_; (with_reducible refine (madrigalref1_Mul.calls k t279 t284 30 t285 _ A13.out).mono ?_); rintro e w' ⟨rfl, ⟨nd, rfl⟩⟩; refine ⟨_, rfl, ?_⟩) | ((with_reducible refine gate_callee (f := 27) rfl ?_); refine goesL_ (some 29) rfl rfl Try.func27 (by kernel_rfl) rfl #[.int .i64 t285, .int .i64 1, .int .i64 15] rfl (by (try simp only [List.map_toArray, List.map_cons, List.map_nil]); first | done | rfl | (simp only [List.length_drop, List.length_take]; rfl)) ?_; (with_reducible refine (madrigalref1_Mul.calls k t285 1 15 t286 _ A14.out).mono ?_); rintro e w' ⟨rfl, ⟨nd, rfl⟩⟩; refine ⟨_, rfl, ?_⟩))
  go_ret
  exact ⟨by first | rfl | (simp [errW_none, errW_some] <;> rfl) | (simp [*, errW_none, errW_some] <;> rfl), by repeat (with_reducible first | exact HB.out | apply below_alloc | apply pw_below_drewN | apply below_drew1)⟩

/-! ### madrigalref1_Cos: function 30 -/
def madrigalref1_Cos.j0 : Nat → Int → Option (Int)
 | 0, _ => none
 | k + 1, x0 => if x0 > 16384 then ((madrigalref1_quarter.f k (wrap64 (32768 - x0))).bind fun t287 => (some (wrap64 (-t287)))) else ((madrigalref1_quarter.f k x0).bind fun t288 => (some t288))
def madrigalref1_Cos.f (k : Nat) (a0 : Int) : Option (Int) := if (Go.bits .and .i64 a0 65535) > 32768 then (madrigalref1_Cos.j0 k (wrap64 (65536 - (Go.bits .and .i64 a0 65535)))) else (madrigalref1_Cos.j0 k (Go.bits .and .i64 a0 65535))
set_option maxHeartbeats 8000000 in
set_option maxRecDepth 100000 in
theorem madrigalref1_Cos.calls (k : Nat) (a0 : Int) (r : Int) (w : World) (h : madrigalref1_Cos.f k a0 = some r) :
  Calls Try.prog 30 #[.int .i64 a0] w fun e w' => e = .returned (.int .i64 r) ∧ Below w.heap.size w w' := by
 have HB := Aside0.mk (Below.refl w.heap.size w)
 have H : (if (Go.bits .and .i64 a0 65535) > 32768 then (madrigalref1_Cos.j0 k (wrap64 (65536 - (Go.bits .and .i64 a0 65535)))) else (madrigalref1_Cos.j0 k (Go.bits .and .i64 a0 65535))) = some r := h
 clear h; have HC2 := Aside0.mk H; clear H
 go_enter Try.func30, Try.ntmps30
 go_upto_if 6 with (fail)
 go_cut [0] (fun v0 wc => ∃ (kq : Nat) (x0_1 : Int), v0 = .int .i64 x0_1 ∧ Aside0 (madrigalref1_Cos.j0 kq x0_1 = some r) ∧ Aside0 (kq ≤ k) ∧ Aside0 (Below w.heap.size w wc))
 case first =>
  have H := HC2.out; clear HC2
  by_cases c3 : (Go.bits .and .i64 a0 65535) > 32768
  ·
   rw [if_pos c3] at H; have c3b0 : decide (32768 < (Go.bits .and .i64 a0 65535)) = true := decide_eq_true c3; clear c3
   (first | rw [c3b0] | (simp only [i64_w, i32_w]; rw [c3b0]) | skip)
   have H' := Aside0.mk H; clear H
   go_wp2
   go_meet
   case rel => exact ⟨_, (wrap64 (65536 - (Go.bits .and .i64 a0 65535))), (by first | rfl | (simp; done) | (simp [*]; done)), H', ⟨by first | omega | exact Nat.le_refl _⟩, ⟨by repeat (with_reducible first | exact HB.out | apply below_alloc | apply pw_below_drewN | apply below_drew1)⟩⟩
  ·
   rw [if_neg c3] at H; have c3b0 : decide (32768 < (Go.bits .and .i64 a0 65535)) = false := decide_eq_false c3; clear c3
   (first | rw [c3b0] | (simp only [i64_w, i32_w]; rw [c3b0]) | skip)
   have H' := Aside0.mk H; clear H
   go_wp2
   go_meet
   case rel => exact ⟨_, (Go.bits .and .i64 a0 65535), (by first | rfl | (simp; done) | (simp [*]; done)), H', ⟨by first | omega | exact Nat.le_refl _⟩, ⟨by repeat (with_reducible first | exact HB.out | apply below_alloc | apply pw_below_drewN | apply below_drew1)⟩⟩
 case rest =>
  clear HC2; (try clear p2); (try clear c3); (try clear c3b0); (try clear c3b0z0)
  obtain ⟨kq, x0_1, rfl, HA, HJ1, HB⟩ := hcut
  cases kq with
  | zero => exact absurd HA.out (by simp [madrigalref1_Cos.j0])
  | succ kj1 =>
   have H := HA.out; clear HA
   simp only [madrigalref1_Cos.j0] at H
   by_cases c4 : x0_1 > 16384
   ·
    rw [if_pos c4] at H; have c4b0 : decide (16384 < x0_1) = true := decide_eq_true c4; clear c4; replace H := Option.bind_eq_some_iff.mp H; obtain ⟨t287, A50, H⟩ := H
    replace H : (some (wrap64 (-t287))) = some r := H
    have A5 := Aside0.mk A50; clear A50
    obtain rfl := Option.some.inj H
    go_wp2_with (first | ((with_reducible refine gate_callee (f := 34) rfl ?_); refine goesL_ (some 13) rfl rfl Try.func34 (by kernel_rfl) rfl #[.int .i64 (wrap64 (32768 - x0_1))] rfl (by (try simp only [List.map_toArray, List.map_cons, List.map_nil]); first | done | rfl | (simp only [List.length_drop, List.length_take]; rfl)) ?_; (with_reducible refine (madrigalref1_quarter.calls kj1 (wrap64 (32768 - x0_1)) t287 _ A5.out).mono ?_); rintro e w6 ⟨rfl, hb⟩; refine ⟨_, rfl, ?_⟩; have n0_ := Aside0.mk (below_step (by repeat (with_reducible first | exact HB.out | apply below_alloc | apply pw_below_drewN | apply below_drew1)) hb); clear HB; have HB := n0_; clear n0_; (try clear hb); (try clear hb2); (try clear hk); (try clear hi)))
    go_ret
    exact ⟨by first | rfl | (simp [errW_none, errW_some] <;> rfl) | (simp [*, errW_none, errW_some] <;> rfl), by repeat (with_reducible first | exact HB.out | apply below_alloc | apply pw_below_drewN | apply below_drew1)⟩
   ·
    rw [if_neg c4] at H; have c4b0 : decide (16384 < x0_1) = false := decide_eq_false c4; clear c4; replace H := Option.bind_eq_some_iff.mp H; obtain ⟨t288, A70, H⟩ := H
    replace H : (some t288) = some r := H
    have A7 := Aside0.mk A70; clear A70
    obtain rfl := Option.some.inj H
    go_wp2_with (first | ((with_reducible refine gate_callee (f := 34) rfl ?_); refine goesL_ (some 16) rfl rfl Try.func34 (by kernel_rfl) rfl #[.int .i64 x0_1] rfl (by (try simp only [List.map_toArray, List.map_cons, List.map_nil]); first | done | rfl | (simp only [List.length_drop, List.length_take]; rfl)) ?_; (with_reducible refine (madrigalref1_quarter.calls kj1 x0_1 t288 _ A7.out).mono ?_); rintro e w8 ⟨rfl, hb⟩; refine ⟨_, rfl, ?_⟩; have n0_ := Aside0.mk (below_step (by repeat (with_reducible first | exact HB.out | apply below_alloc | apply pw_below_drewN | apply below_drew1)) hb); clear HB; have HB := n0_; clear n0_; (try clear hb); (try clear hb2); (try clear hk); (try clear hi)))
    go_ret
    exact ⟨by first | rfl | (simp [errW_none, errW_some] <;> rfl) | (simp [*, errW_none, errW_some] <;> rfl), by repeat (with_reducible first | exact HB.out | apply below_alloc | apply pw_below_drewN | apply below_drew1)⟩

/-! ### madrigalref1_Sin: function 26 -/
def madrigalref1_Sin.f (k : Nat) (a0 : Int) : Option (Int) := (madrigalref1_Cos.f k (wrap64 ((Go.bits .and .i64 a0 65535) - 16384))).bind fun t289 => (some t289)
set_option maxHeartbeats 8000000 in
set_option maxRecDepth 100000 in
theorem madrigalref1_Sin.calls (k : Nat) (a0 : Int) (r : Int) (w : World) (h : madrigalref1_Sin.f k a0 = some r) :
  Calls Try.prog 26 #[.int .i64 a0] w fun e w' => e = .returned (.int .i64 r) ∧ Below w.heap.size w w' := by
 have HB := Aside0.mk (Below.refl w.heap.size w)
 have H : ((madrigalref1_Cos.f k (wrap64 ((Go.bits .and .i64 a0 65535) - 16384))).bind fun t289 => (some t289)) = some r := h
 clear h; replace H := Option.bind_eq_some_iff.mp H; obtain ⟨t289, A20, H⟩ := H
 replace H : (some t289) = some r := H
 have A2 := Aside0.mk A20; clear A20
 obtain rfl := Option.some.inj H
 go_enter Try.func26, Try.ntmps26
 go_wp2_with (first | ((with_reducible refine gate_callee (f := 30) rfl ?_); refine goesL_ (some 6) rfl rfl Try.func30 (by kernel_rfl) rfl #[.int .i64 (wrap64 ((Go.bits .and .i64 a0 65535) - 16384))] rfl (by (try simp only [List.map_toArray, List.map_cons, List.map_nil]); first | done | rfl | (simp only [List.length_drop, List.length_take]; rfl)) ?_; (with_reducible refine (madrigalref1_Cos.calls k (wrap64 ((Go.bits .and .i64 a0 65535) - 16384)) t289 _ A2.out).mono ?_); rintro e w3 ⟨rfl, hb⟩; refine ⟨_, rfl, ?_⟩; have n0_ := Aside0.mk (below_step (by repeat (with_reducible first | exact HB.out | apply below_alloc | apply pw_below_drewN | apply below_drew1)) hb); clear HB; have HB := n0_; clear n0_; (try clear hb); (try clear hb2); (try clear hk); (try clear hi)))
 go_ret
 exact ⟨by first | rfl | (simp [errW_none, errW_some] <;> rfl) | (simp [*, errW_none, errW_some] <;> rfl), by repeat (with_reducible first | exact HB.out | apply below_alloc | apply pw_below_drewN | apply below_drew1)⟩

end Go.Proofs.Ytmfjmbdicjeooaa.MA
