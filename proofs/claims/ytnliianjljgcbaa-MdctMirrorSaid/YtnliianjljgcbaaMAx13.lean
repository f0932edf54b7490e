/- Functions of the program as plain Lean functions, and that the code comes to their answers. No condition. -/
import Derived.Test.YtnliianjljgcbaaMAx0
import Derived.Test.YtnliianjljgcbaaMAx1
import Derived.Test.YtnliianjljgcbaaMAx2
import Derived.Test.YtnliianjljgcbaaMAx6
namespace Go.Proofs.Ytnliianjljgcbaa.MA
open Go.RowKit Go.Proofs.YtnliianjljgcbaaW.PrintWords Go.Proofs.YtnliianjljgcbaaW.PrintLast Go.Proofs.YtnliianjljgcbaaW.PrintMore
attribute [local go_sem] max2_int min2_int max_two min_two max_three min_three max_four min_four
set_option linter.unusedVariables false
set_option linter.unusedSimpArgs false

/-! ### madrigallaw15_MdctMirror: function 8 -/
def madrigallaw15_MdctMirror.l0 : Nat → Int → Int → List Int → Int → Int → Option (Bool)
 | 0, _, _, _, _, _ => none
 | k + 1, x0, x1, x5, x6, x7 => if x7 < x0 then (if 0 ≤ x7 then (if x7 < (x5.length : Int) then (if 0 ≤ (wrap64 ((wrap64 ((wrap64 (2 * x0)) - 1)) - x7)) then (if (wrap64 ((wrap64 ((wrap64 (2 * x0)) - 1)) - x7)) < (x5.length : Int) then (if (rd x5 x7) = (rd x5 (wrap64 ((wrap64 ((wrap64 (2 * x0)) - 1)) - x7))) then (if (rd x5 x7) < 0 then (some false) else (if (rd x5 x7) > 32768 then (some false) else (if x7 < (wrap64 (Int.tdiv (wrap64 (x0 - x1)) 2)) then (if (rd x5 x7) = 0 then (if x7 ≥ (wrap64 (Int.tdiv (wrap64 (x0 + x1)) 2)) then (if (rd x5 x7) = 32768 then (madrigallaw15_MdctMirror.l0 k x0 x1 x5 x6 (wrap64 (x7 + 1))) else (some false)) else (madrigallaw15_MdctMirror.l0 k x0 x1 x5 x6 (wrap64 (x7 + 1)))) else (some false)) else (if x7 ≥ (wrap64 (Int.tdiv (wrap64 (x0 + x1)) 2)) then (if (rd x5 x7) = 32768 then (madrigallaw15_MdctMirror.l0 k x0 x1 x5 x6 (wrap64 (x7 + 1))) else (some false)) else (madrigallaw15_MdctMirror.l0 k x0 x1 x5 x6 (wrap64 (x7 + 1))))))) else (some false)) else (none)) else (none)) else (none)) else (none)) else (if x6 = 0 then (some ((x5.length : Int) == (wrap64 (2 * x0)))) else (some false))
def madrigallaw15_MdctMirror.f (k : Nat) (a0 : Int) (a1 : Int) : Option (Bool) := (madrigallaw15_awake.f).bind fun t459 => (if t459 = true then (if a0 > 480 then ((mdct_Good.f a0 a1).bind fun t460 => (some (!t460))) else ((mdct_Shape.f k a0 a1).bind fun bt461 => ((mdct_Good.f a0 a1).bind fun t465 => (if t465 = true then (madrigallaw15_MdctMirror.l0 k a0 a1 bt461.1 bt461.2 0) else (if bt461.2 = 0 then (some false) else (some ((bt461.1.length : Int) == 0))))))) else (some false))
set_option maxHeartbeats 8000000 in
set_option maxRecDepth 100000 in
theorem madrigallaw15_MdctMirror.calls (k : Nat) (a0 : Int) (a1 : Int) (r : Bool) (w : World) (hrt : r = true) (h : madrigallaw15_MdctMirror.f k a0 a1 = some r) :
  Calls Try.prog 8 #[.int .i64 a0, .int .i64 a1] w fun e w' => e = .returned (.bool r) ∧ Below w.heap.size w w' := by
 have HRT := Aside0.mk hrt; clear hrt
 have HB := Aside0.mk (Below.refl w.heap.size w)
 have H : ((madrigallaw15_awake.f).bind fun t459 => (if t459 = true then (if a0 > 480 then ((mdct_Good.f a0 a1).bind fun t460 => (some (!t460))) else ((mdct_Shape.f k a0 a1).bind fun bt461 => ((mdct_Good.f a0 a1).bind fun t465 => (if t465 = true then (madrigallaw15_MdctMirror.l0 k a0 a1 bt461.1 bt461.2 0) else (if bt461.2 = 0 then (some false) else (some ((bt461.1.length : Int) == 0))))))) else (some false))) = some r := h
 clear h; replace H := Option.bind_eq_some_iff.mp H; obtain ⟨t459, A30, H⟩ := H
 replace H : (if t459 = true then (if a0 > 480 then ((mdct_Good.f a0 a1).bind fun t460 => (some (!t460))) else ((mdct_Shape.f k a0 a1).bind fun bt461 => ((mdct_Good.f a0 a1).bind fun t465 => (if t465 = true then (madrigallaw15_MdctMirror.l0 k a0 a1 bt461.1 bt461.2 0) else (if bt461.2 = 0 then (some false) else (some ((bt461.1.length : Int) == 0))))))) else (some false)) = some r := H
 have A3 := Aside0.mk A30; clear A30
 by_cases c4 : t459 = true
 ·
  subst c4
  have H1 : (if a0 > 480 then ((mdct_Good.f a0 a1).bind fun t460 => (some (!t460))) else ((mdct_Shape.f k a0 a1).bind fun bt461 => ((mdct_Good.f a0 a1).bind fun t465 => (if t465 = true then (madrigallaw15_MdctMirror.l0 k a0 a1 bt461.1 bt461.2 0) else (if bt461.2 = 0 then (some false) else (some ((bt461.1.length : Int) == 0))))))) = some r := by rw [if_pos rfl] at H; exact H
  clear H; have H := H1; clear H1
  by_cases c5 : a0 > 480
  ·
   rw [if_pos c5] at H; have c5b0 : decide (480 < a0) = true := decide_eq_true c5; clear c5; replace H := Option.bind_eq_some_iff.mp H; obtain ⟨t460, A60, H⟩ := H
   replace H : (some (!t460)) = some r := H
   have A6 := Aside0.mk A60; clear A60
   obtain rfl := Option.some.inj H
   go_enter Try.func8, Try.ntmps8
   go_wp2_with (first | (go_at_call 9; (with_reducible refine (madrigallaw15_awake.calls  true _ A3.out).mono ?_); rintro e w7 ⟨rfl, hb⟩; have n0_ := Aside0.mk (below_step (by repeat (with_reducible first | exact HB.out | apply below_alloc | apply pw_below_drewN | apply below_drew1)) hb); clear HB; have HB := n0_; clear n0_; (try clear hb); (try clear hb2); (try clear hk); (try clear hi)) | (go_at_call 16; (with_reducible refine (mdct_Good.calls a0 a1 t460 _ A6.out).mono ?_); rintro e w' ⟨rfl, ⟨nd, rfl⟩⟩; (try first | exact ⟨rfl, _, World.drewN_drewN _ _ _⟩ | exact ⟨rfl, _, Eq.trans (World.drewN_drewN _ _ _) (congrArg (World.drewN _) (Nat.add_assoc _ _ _))⟩)))
   repeat (go_quiet (first | (go_at_call 9; (with_reducible refine (madrigallaw15_awake.calls  true _ A3.out).mono ?_); rintro e w7 ⟨rfl, hb⟩; have n0_ := Aside0.mk (below_step (by repeat (with_reducible first | exact HB.out | apply below_alloc | apply pw_below_drewN | apply below_drew1)) hb); clear HB; have HB := n0_; clear n0_; (try clear hb); (try clear hb2); (try clear hk); (try clear hi)) | (go_at_call 16; (with_reducible refine (mdct_Good.calls a0 a1 t460 _ A6.out).mono ?_); rintro e w' ⟨rfl, ⟨nd, rfl⟩⟩; (try first | exact ⟨rfl, _, World.drewN_drewN _ _ _⟩ | exact ⟨rfl, _, Eq.trans (World.drewN_drewN _ _ _) (congrArg (World.drewN _) (Nat.add_assoc _ _ _))⟩))); try go_wp2_with (first | (go_at_call 9; (with_reducible refine (madrigallaw15_awake.calls  true _ A3.out).mono ?_); rintro e w7 ⟨rfl, hb⟩; have n0_ := Aside0.mk (below_step (by repeat (with_reducible first | exact HB.out | apply below_alloc | apply pw_below_drewN | apply below_drew1)) hb); clear HB; have HB := n0_; clear n0_; (try clear hb); (try clear hb2); (try clear hk); (try clear hi)) | (go_at_call 16; (with_reducible refine (mdct_Good.calls a0 a1 t460 _ A6.out).mono ?_); rintro e w' ⟨rfl, ⟨nd, rfl⟩⟩; (try first | exact ⟨rfl, _, World.drewN_drewN _ _ _⟩ | exact ⟨rfl, _, Eq.trans (World.drewN_drewN _ _ _) (congrArg (World.drewN _) (Nat.add_assoc _ _ _))⟩))))
   go_ret
   exact ⟨by first | rfl | (simp [errW_none, errW_some] <;> rfl) | (simp [*, errW_none, errW_some] <;> rfl), by repeat (with_reducible first | exact HB.out | apply below_alloc | apply pw_below_drewN | apply below_drew1)⟩
  ·
   rw [if_neg c5] at H; have c5b0 : decide (480 < a0) = false := decide_eq_false c5; clear c5; replace H := Option.bind_eq_some_iff.mp H; obtain ⟨⟨t461, t462⟩, A80, H⟩ := H
   replace H : ((mdct_Good.f a0 a1).bind fun t465 => (if t465 = true then (madrigallaw15_MdctMirror.l0 k a0 a1 t461 t462 0) else (if t462 = 0 then (some false) else (some ((t461.length : Int) == 0))))) = some r := H
   have A8 := Aside0.mk A80; clear A80; replace H := Option.bind_eq_some_iff.mp H; obtain ⟨t465, A90, H⟩ := H
   replace H : (if t465 = true then (madrigallaw15_MdctMirror.l0 k a0 a1 t461 t462 0) else (if t462 = 0 then (some false) else (some ((t461.length : Int) == 0)))) = some r := H
   have A9 := Aside0.mk A90; clear A90
   by_cases c10 : t465 = true
   ·
    subst c10
    have H1 : (madrigallaw15_MdctMirror.l0 k a0 a1 t461 t462 0) = some r := by rw [if_pos rfl] at H; exact H
    clear H; have H := H1; clear H1; have H' := Aside0.mk H; clear H
    go_enter Try.func8, Try.ntmps8
    go_wp2_with (first | (go_at_call 9; (with_reducible refine (madrigallaw15_awake.calls  true _ A3.out).mono ?_); rintro e w11 ⟨rfl, hb⟩; have n0_ := Aside0.mk (below_step (by repeat (with_reducible first | exact HB.out | apply below_alloc | apply pw_below_drewN | apply below_drew1)) hb); clear HB; have HB := n0_; clear n0_; (try clear hb); (try clear hb2); (try clear hk); (try clear hi)) | (go_at_call 10; (with_reducible refine (mdct_Shape.calls k a0 a1 t461 t462 _ A8.out).mono ?_); rintro e w12 ⟨v463, rfl, ho0, hb⟩; have n0_ := Aside0.mk (Kd.R_lower ho0 (below_size (by repeat (with_reducible first | exact HB.out | apply below_alloc | apply pw_below_drewN | apply below_drew1)))); have n1_ := Aside0.mk (below_step (by repeat (with_reducible first | exact HB.out | apply below_alloc | apply pw_below_drewN | apply below_drew1)) hb); clear HB; have HO464 := n0_; have HB := n1_; clear n0_ n1_; (try clear hb); (try clear hb2); (try clear hk); (try clear hi); (try clear ho0)) | (go_at_call 16; (with_reducible refine (mdct_Good.calls a0 a1 true _ A9.out).mono ?_); rintro e w' ⟨rfl, ⟨nd, rfl⟩⟩; (try first | exact ⟨rfl, _, World.drewN_drewN _ _ _⟩ | exact ⟨rfl, _, Eq.trans (World.drewN_drewN _ _ _) (congrArg (World.drewN _) (Nat.add_assoc _ _ _))⟩)))
    repeat (go_quiet (first | (go_at_call 9; (with_reducible refine (madrigallaw15_awake.calls  true _ A3.out).mono ?_); rintro e w11 ⟨rfl, hb⟩; have n0_ := Aside0.mk (below_step (by repeat (with_reducible first | exact HB.out | apply below_alloc | apply pw_below_drewN | apply below_drew1)) hb); clear HB; have HB := n0_; clear n0_; (try clear hb); (try clear hb2); (try clear hk); (try clear hi)) | (go_at_call 10; (with_reducible refine (mdct_Shape.calls k a0 a1 t461 t462 _ A8.out).mono ?_); rintro e w12 ⟨v463, rfl, ho0, hb⟩; have n0_ := Aside0.mk (Kd.R_lower ho0 (below_size (by repeat (with_reducible first | exact HB.out | apply below_alloc | apply pw_below_drewN | apply below_drew1)))); have n1_ := Aside0.mk (below_step (by repeat (with_reducible first | exact HB.out | apply below_alloc | apply pw_below_drewN | apply below_drew1)) hb); clear HB; have HO464 := n0_; have HB := n1_; clear n0_ n1_; (try clear hb); (try clear hb2); (try clear hk); (try clear hi); (try clear ho0)) | (go_at_call 16; (with_reducible refine (mdct_Good.calls a0 a1 true _ A9.out).mono ?_); rintro e w' ⟨rfl, ⟨nd, rfl⟩⟩; (try first | exact ⟨rfl, _, World.drewN_drewN _ _ _⟩ | exact ⟨rfl, _, Eq.trans (World.drewN_drewN _ _ _) (congrArg (World.drewN _) (Nat.add_assoc _ _ _))⟩))); try go_wp2_with (first | (go_at_call 9; (with_reducible refine (madrigallaw15_awake.calls  true _ A3.out).mono ?_); rintro e w11 ⟨rfl, hb⟩; have n0_ := Aside0.mk (below_step (by repeat (with_reducible first | exact HB.out | apply below_alloc | apply pw_below_drewN | apply below_drew1)) hb); clear HB; have HB := n0_; clear n0_; (try clear hb); (try clear hb2); (try clear hk); (try clear hi)) | (go_at_call 10; (with_reducible refine (mdct_Shape.calls k a0 a1 t461 t462 _ A8.out).mono ?_); rintro e w12 ⟨v463, rfl, ho0, hb⟩; have n0_ := Aside0.mk (Kd.R_lower ho0 (below_size (by repeat (with_reducible first | exact HB.out | apply below_alloc | apply pw_below_drewN | apply below_drew1)))); have n1_ := Aside0.mk (below_step (by repeat (with_reducible first | exact HB.out | apply below_alloc | apply pw_below_drewN | apply below_drew1)) hb); clear HB; have HO464 := n0_; have HB := n1_; clear n0_ n1_; (try clear hb); (try clear hb2); (try clear hk); (try clear hi); (try clear ho0)) | (go_at_call 16; (with_reducible refine (mdct_Good.calls a0 a1 true _ A9.out).mono ?_); rintro e w' ⟨rfl, ⟨nd, rfl⟩⟩; (try first | exact ⟨rfl, _, World.drewN_drewN _ _ _⟩ | exact ⟨rfl, _, Eq.trans (World.drewN_drewN _ _ _) (congrArg (World.drewN _) (Nat.add_assoc _ _ _))⟩))))
    go_loopg [7] k (fun kq v7 w' => ∃ (x7_1 : Int), v7 = .int .i64 x7_1 ∧ Aside0 (madrigallaw15_MdctMirror.l0 kq a0 a1 t461 t462 x7_1 = some r) ∧ Aside0 (kq ≤ k) ∧ Aside0 (Kd.R (Kd.int .i64) 2 w' w.heap.size (fun _ => True) v463 t461) ∧ Aside0 (Below w.heap.size w w'))
    case atStart => exact ⟨(0), (by first | rfl | (simp; done) | (simp [*]; done)), H', ⟨Nat.le_refl _⟩, ⟨by (with_reducible repeat first | apply Kd.R_alloc | apply Kd.R_drewN | apply Kd.R_drew); exact HO464.out⟩, ⟨by repeat (with_reducible first | exact HB.out | apply below_alloc | apply pw_below_drewN | apply below_drew1)⟩⟩
    case round =>
     clear H'
     (try clear c1); (try clear p2); (try clear c4); (try clear c5); (try clear c5b0); (try clear c5b0z0); (try clear c8); (try clear c10)
     obtain ⟨x7_1, rfl, HA, HK1, HO_5, HB⟩ := hrel
     cases gk with
     | zero => exact absurd HA.out (by simp [madrigallaw15_MdctMirror.l0])
     | succ k1 =>
      have H := HA.out; clear HA
      simp only [madrigallaw15_MdctMirror.l0] at H
      by_cases c13 : x7_1 < a0
      ·
       rw [if_pos c13] at H; have c13b0 : decide (x7_1 < a0) = true := decide_eq_true c13; clear c13
       by_cases c14 : 0 ≤ x7_1; rotate_left
       · rw [if_neg c14] at H; exact absurd H (by simp)
       rw [if_pos c14] at H; have c14b0 : decide (0 ≤ x7_1) = true := decide_eq_true c14; clear c14
       by_cases c15 : x7_1 < (t461.length : Int); rotate_left
       · rw [if_neg c15] at H; exact absurd H (by simp)
       rw [if_pos c15] at H; have c15b0 : decide (x7_1 < (t461.length : Int)) = true := decide_eq_true c15; clear c15
       obtain ⟨ji16, hji16⟩ : ∃ j_ : Int, (wrap64 ((wrap64 ((wrap64 (2 * a0)) - 1)) - x7_1)) = j_ := ⟨_, rfl⟩
       replace H : (if 0 ≤ (ji16) then (if (ji16) < (t461.length : Int) then (if (rd t461 x7_1) = (rd t461 (ji16)) then (if (rd t461 x7_1) < 0 then (some false) else (if (rd t461 x7_1) > 32768 then (some false) else (if x7_1 < (wrap64 (Int.tdiv (wrap64 (a0 - a1)) 2)) then (if (rd t461 x7_1) = 0 then (if x7_1 ≥ (wrap64 (Int.tdiv (wrap64 (a0 + a1)) 2)) then (if (rd t461 x7_1) = 32768 then (madrigallaw15_MdctMirror.l0 k1 a0 a1 t461 t462 (wrap64 (x7_1 + 1))) else (some false)) else (madrigallaw15_MdctMirror.l0 k1 a0 a1 t461 t462 (wrap64 (x7_1 + 1)))) else (some false)) else (if x7_1 ≥ (wrap64 (Int.tdiv (wrap64 (a0 + a1)) 2)) then (if (rd t461 x7_1) = 32768 then (madrigallaw15_MdctMirror.l0 k1 a0 a1 t461 t462 (wrap64 (x7_1 + 1))) else (some false)) else (madrigallaw15_MdctMirror.l0 k1 a0 a1 t461 t462 (wrap64 (x7_1 + 1))))))) else (some false)) else (none)) else (none)) = some r := by first | (rw [hji16] at H; exact H) | (simp only [hji16] at H ⊢; exact H)
       have hji16w : (IntKind.i64.wrap ((wrap64 ((wrap64 (2 * a0)) - 1)) - x7_1)) = ji16 := (i64_w _).trans hji16
       by_cases c17 : 0 ≤ (ji16); rotate_left
       · rw [if_neg c17] at H; exact absurd H (by simp)
       rw [if_pos c17] at H; have c17b0 : decide (0 ≤ (ji16)) = true := decide_eq_true c17; clear c17
       by_cases c18 : (ji16) < (t461.length : Int); rotate_left
       · rw [if_neg c18] at H; exact absurd H (by simp)
       rw [if_pos c18] at H; have c18b0 : decide ((ji16) < (t461.length : Int)) = true := decide_eq_true c18; clear c18
       by_cases c19 : (rd t461 x7_1) = (rd t461 (ji16))
       ·
        rw [if_pos c19] at H; have c19b0 : ((rd t461 x7_1) == (rd t461 (ji16))) = true := beq_iff_eq.mpr c19; have c19b1 : ((rd t461 x7_1) != (rd t461 (ji16))) = false := bne_eq_false_iff_eq.mpr c19; clear c19
        by_cases c20 : (rd t461 x7_1) < 0
        ·
         rw [if_pos c20] at H; have c20b0 : decide ((rd t461 x7_1) < 0) = true := decide_eq_true c20; clear c20
         exact absurd ((Option.some.inj H).trans HRT.out) (by simp)
        ·
         rw [if_neg c20] at H; have c20b0 : decide ((rd t461 x7_1) < 0) = false := decide_eq_false c20; clear c20
         by_cases c21 : (rd t461 x7_1) > 32768
         ·
          rw [if_pos c21] at H; have c21b0 : decide (32768 < (rd t461 x7_1)) = true := decide_eq_true c21; clear c21
          exact absurd ((Option.some.inj H).trans HRT.out) (by simp)
         ·
          rw [if_neg c21] at H; have c21b0 : decide (32768 < (rd t461 x7_1)) = false := decide_eq_false c21; clear c21
          by_cases c22 : x7_1 < (wrap64 (Int.tdiv (wrap64 (a0 - a1)) 2))
          ·
           rw [if_pos c22] at H; have c22b0 : decide (x7_1 < (wrap64 (Int.tdiv (wrap64 (a0 - a1)) 2))) = true := decide_eq_true c22; clear c22
           by_cases c23 : (rd t461 x7_1) = 0
           ·
            rw [if_pos c23] at H; have c23b0 : ((rd t461 x7_1) == 0) = true := beq_iff_eq.mpr c23; have c23b1 : ((rd t461 x7_1) != 0) = false := bne_eq_false_iff_eq.mpr c23; clear c23
            by_cases c24 : x7_1 ≥ (wrap64 (Int.tdiv (wrap64 (a0 + a1)) 2))
            ·
             rw [if_pos c24] at H; have c24b0 : decide ((wrap64 (Int.tdiv (wrap64 (a0 + a1)) 2)) ≤ x7_1) = true := decide_eq_true c24; clear c24
             by_cases c25 : (rd t461 x7_1) = 32768
             ·
              rw [if_pos c25] at H; have c25b0 : ((rd t461 x7_1) == 32768) = true := beq_iff_eq.mpr c25; have c25b1 : ((rd t461 x7_1) != 32768) = false := bne_eq_false_iff_eq.mpr c25; clear c25; have H' := Aside0.mk H; clear H
              obtain ⟨Ao26, co26, eo26⟩ := Kd.R_slice HO_5.out
              subst eo26; have p466 : 0 ≤ (x7_1 : Int) := of_decide_eq_true (by first | (with_reducible assumption) | assumption); have q466 : x7_1 < (t461.length : Int) := of_decide_eq_true (by first | (with_reducible assumption) | assumption)
              obtain ⟨ad466, e466, hx466_0⟩ := Kd.at_int (Kd.R_reads' HO_5.out).2.2 x7_1 p466 q466
              cases e466; replace p466 := eq_true p466; replace q466 := eq_true q466; have p467 : 0 ≤ ((ji16) : Int) := of_decide_eq_true (by first | (with_reducible assumption) | assumption); have q467 : (ji16) < (t461.length : Int) := of_decide_eq_true (by first | (with_reducible assumption) | assumption)
              obtain ⟨ad467, e467, hx467_0⟩ := Kd.at_int (Kd.R_reads' HO_5.out).2.2 (ji16) p467 q467
              obtain rfl : ad466 = ad467 := (by injection e467)
              replace p467 := eq_true p467; replace q467 := eq_true q467; have p468 : 0 ≤ (x7_1 : Int) := of_decide_eq_true (by first | (with_reducible assumption) | assumption); have q468 : x7_1 < (t461.length : Int) := of_decide_eq_true (by first | (with_reducible assumption) | assumption)
              obtain ⟨ad468, e468, hx468_0⟩ := Kd.at_int (Kd.R_reads' HO_5.out).2.2 x7_1 p468 q468
              obtain rfl : ad466 = ad468 := (by injection e468)
              replace p468 := eq_true p468; replace q468 := eq_true q468; have p469 : 0 ≤ (x7_1 : Int) := of_decide_eq_true (by first | (with_reducible assumption) | assumption); have q469 : x7_1 < (t461.length : Int) := of_decide_eq_true (by first | (with_reducible assumption) | assumption)
              obtain ⟨ad469, e469, hx469_0⟩ := Kd.at_int (Kd.R_reads' HO_5.out).2.2 x7_1 p469 q469
              obtain rfl : ad466 = ad469 := (by injection e469)
              replace p469 := eq_true p469; replace q469 := eq_true q469; have p470 : 0 ≤ (x7_1 : Int) := of_decide_eq_true (by first | (with_reducible assumption) | assumption); have q470 : x7_1 < (t461.length : Int) := of_decide_eq_true (by first | (with_reducible assumption) | assumption)
              obtain ⟨ad470, e470, hx470_0⟩ := Kd.at_int (Kd.R_reads' HO_5.out).2.2 x7_1 p470 q470
              obtain rfl : ad466 = ad470 := (by injection e470)
              replace p470 := eq_true p470; replace q470 := eq_true q470; have p471 : 0 ≤ (x7_1 : Int) := of_decide_eq_true (by first | (with_reducible assumption) | assumption); have q471 : x7_1 < (t461.length : Int) := of_decide_eq_true (by first | (with_reducible assumption) | assumption)
              obtain ⟨ad471, e471, hx471_0⟩ := Kd.at_int (Kd.R_reads' HO_5.out).2.2 x7_1 p471 q471
              obtain rfl : ad466 = ad471 := (by injection e471)
              replace p471 := eq_true p471; replace q471 := eq_true q471
              go_wp2
              repeat (go_quiet (fail); try go_wp2)
              go_roundg k1
              case measure => have := HK1.out; omega
              case rel => exact ⟨(wrap64 (x7_1 + 1)), (by first | rfl | (simp; done) | (simp [*]; done)), H', ⟨by have := HK1.out; omega⟩, ⟨by (with_reducible repeat first | apply Kd.R_alloc | apply Kd.R_drewN | apply Kd.R_drew); exact HO_5.out⟩, ⟨by repeat (with_reducible first | exact HB.out | apply below_alloc | apply pw_below_drewN | apply below_drew1)⟩⟩
             ·
              rw [if_neg c25] at H; have c25b0 : ((rd t461 x7_1) == 32768) = false := beq_eq_false_iff_ne.mpr c25; have c25b1 : ((rd t461 x7_1) != 32768) = true := bne_iff_ne.mpr c25
              exact absurd ((Option.some.inj H).trans HRT.out) (by simp)
            ·
             rw [if_neg c24] at H; have c24b0 : decide ((wrap64 (Int.tdiv (wrap64 (a0 + a1)) 2)) ≤ x7_1) = false := decide_eq_false c24; clear c24; have H' := Aside0.mk H; clear H
             obtain ⟨Ao27, co27, eo27⟩ := Kd.R_slice HO_5.out
             subst eo27; have p466 : 0 ≤ (x7_1 : Int) := of_decide_eq_true (by first | (with_reducible assumption) | assumption); have q466 : x7_1 < (t461.length : Int) := of_decide_eq_true (by first | (with_reducible assumption) | assumption)
             obtain ⟨ad466, e466, hx466_0⟩ := Kd.at_int (Kd.R_reads' HO_5.out).2.2 x7_1 p466 q466
             cases e466; replace p466 := eq_true p466; replace q466 := eq_true q466; have p467 : 0 ≤ ((ji16) : Int) := of_decide_eq_true (by first | (with_reducible assumption) | assumption); have q467 : (ji16) < (t461.length : Int) := of_decide_eq_true (by first | (with_reducible assumption) | assumption)
             obtain ⟨ad467, e467, hx467_0⟩ := Kd.at_int (Kd.R_reads' HO_5.out).2.2 (ji16) p467 q467
             obtain rfl : ad466 = ad467 := (by injection e467)
             replace p467 := eq_true p467; replace q467 := eq_true q467; have p468 : 0 ≤ (x7_1 : Int) := of_decide_eq_true (by first | (with_reducible assumption) | assumption); have q468 : x7_1 < (t461.length : Int) := of_decide_eq_true (by first | (with_reducible assumption) | assumption)
             obtain ⟨ad468, e468, hx468_0⟩ := Kd.at_int (Kd.R_reads' HO_5.out).2.2 x7_1 p468 q468
             obtain rfl : ad466 = ad468 := (by injection e468)
             replace p468 := eq_true p468; replace q468 := eq_true q468; have p469 : 0 ≤ (x7_1 : Int) := of_decide_eq_true (by first | (with_reducible assumption) | assumption); have q469 : x7_1 < (t461.length : Int) := of_decide_eq_true (by first | (with_reducible assumption) | assumption)
             obtain ⟨ad469, e469, hx469_0⟩ := Kd.at_int (Kd.R_reads' HO_5.out).2.2 x7_1 p469 q469
             obtain rfl : ad466 = ad469 := (by injection e469)
             replace p469 := eq_true p469; replace q469 := eq_true q469; have p470 : 0 ≤ (x7_1 : Int) := of_decide_eq_true (by first | (with_reducible assumption) | assumption); have q470 : x7_1 < (t461.length : Int) := of_decide_eq_true (by first | (with_reducible assumption) | assumption)
             obtain ⟨ad470, e470, hx470_0⟩ := Kd.at_int (Kd.R_reads' HO_5.out).2.2 x7_1 p470 q470
             obtain rfl : ad466 = ad470 := (by injection e470)
             replace p470 := eq_true p470; replace q470 := eq_true q470
             go_wp2
             repeat (go_quiet (fail); try go_wp2)
             go_roundg k1
             case measure => have := HK1.out; omega
             case rel => exact ⟨(wrap64 (x7_1 + 1)), (by first | rfl | (simp; done) | (simp [*]; done)), H', ⟨by have := HK1.out; omega⟩, ⟨by (with_reducible repeat first | apply Kd.R_alloc | apply Kd.R_drewN | apply Kd.R_drew); exact HO_5.out⟩, ⟨by repeat (with_reducible first | exact HB.out | apply below_alloc | apply pw_below_drewN | apply below_drew1)⟩⟩
           ·
            rw [if_neg c23] at H; have c23b0 : ((rd t461 x7_1) == 0) = false := beq_eq_false_iff_ne.mpr c23; have c23b1 : ((rd t461 x7_1) != 0) = true := bne_iff_ne.mpr c23
            exact absurd ((Option.some.inj H).trans HRT.out) (by simp)
          ·
           rw [if_neg c22] at H; have c22b0 : decide (x7_1 < (wrap64 (Int.tdiv (wrap64 (a0 - a1)) 2))) = false := decide_eq_false c22; clear c22
           by_cases c28 : x7_1 ≥ (wrap64 (Int.tdiv (wrap64 (a0 + a1)) 2))
           ·
            rw [if_pos c28] at H; have c28b0 : decide ((wrap64 (Int.tdiv (wrap64 (a0 + a1)) 2)) ≤ x7_1) = true := decide_eq_true c28; clear c28
            by_cases c29 : (rd t461 x7_1) = 32768
            ·
             rw [if_pos c29] at H; have c29b0 : ((rd t461 x7_1) == 32768) = true := beq_iff_eq.mpr c29; have c29b1 : ((rd t461 x7_1) != 32768) = false := bne_eq_false_iff_eq.mpr c29; clear c29; have H' := Aside0.mk H; clear H
             obtain ⟨Ao30, co30, eo30⟩ := Kd.R_slice HO_5.out
             subst eo30; have p466 : 0 ≤ (x7_1 : Int) := of_decide_eq_true (by first | (with_reducible assumption) | assumption); have q466 : x7_1 < (t461.length : Int) := of_decide_eq_true (by first | (with_reducible assumption) | assumption)
             obtain ⟨ad466, e466, hx466_0⟩ := Kd.at_int (Kd.R_reads' HO_5.out).2.2 x7_1 p466 q466
             cases e466; replace p466 := eq_true p466; replace q466 := eq_true q466; have p467 : 0 ≤ ((ji16) : Int) := of_decide_eq_true (by first | (with_reducible assumption) | assumption); have q467 : (ji16) < (t461.length : Int) := of_decide_eq_true (by first | (with_reducible assumption) | assumption)
             obtain ⟨ad467, e467, hx467_0⟩ := Kd.at_int (Kd.R_reads' HO_5.out).2.2 (ji16) p467 q467
             obtain rfl : ad466 = ad467 := (by injection e467)
             replace p467 := eq_true p467; replace q467 := eq_true q467; have p468 : 0 ≤ (x7_1 : Int) := of_decide_eq_true (by first | (with_reducible assumption) | assumption); have q468 : x7_1 < (t461.length : Int) := of_decide_eq_true (by first | (with_reducible assumption) | assumption)
             obtain ⟨ad468, e468, hx468_0⟩ := Kd.at_int (Kd.R_reads' HO_5.out).2.2 x7_1 p468 q468
             obtain rfl : ad466 = ad468 := (by injection e468)
             replace p468 := eq_true p468; replace q468 := eq_true q468; have p469 : 0 ≤ (x7_1 : Int) := of_decide_eq_true (by first | (with_reducible assumption) | assumption); have q469 : x7_1 < (t461.length : Int) := of_decide_eq_true (by first | (with_reducible assumption) | assumption)
             obtain ⟨ad469, e469, hx469_0⟩ := Kd.at_int (Kd.R_reads' HO_5.out).2.2 x7_1 p469 q469
             obtain rfl : ad466 = ad469 := (by injection e469)
             replace p469 := eq_true p469; replace q469 := eq_true q469; have p472 : 0 ≤ (x7_1 : Int) := of_decide_eq_true (by first | (with_reducible assumption) | assumption); have q472 : x7_1 < (t461.length : Int) := of_decide_eq_true (by first | (with_reducible assumption) | assumption)
             obtain ⟨ad472, e472, hx472_0⟩ := Kd.at_int (Kd.R_reads' HO_5.out).2.2 x7_1 p472 q472
             obtain rfl : ad466 = ad472 := (by injection e472)
             replace p472 := eq_true p472; replace q472 := eq_true q472
             go_wp2
             repeat (go_quiet (fail); try go_wp2)
             go_roundg k1
             case measure => have := HK1.out; omega
             case rel => exact ⟨(wrap64 (x7_1 + 1)), (by first | rfl | (simp; done) | (simp [*]; done)), H', ⟨by have := HK1.out; omega⟩, ⟨by (with_reducible repeat first | apply Kd.R_alloc | apply Kd.R_drewN | apply Kd.R_drew); exact HO_5.out⟩, ⟨by repeat (with_reducible first | exact HB.out | apply below_alloc | apply pw_below_drewN | apply below_drew1)⟩⟩
            ·
             rw [if_neg c29] at H; have c29b0 : ((rd t461 x7_1) == 32768) = false := beq_eq_false_iff_ne.mpr c29; have c29b1 : ((rd t461 x7_1) != 32768) = true := bne_iff_ne.mpr c29
             exact absurd ((Option.some.inj H).trans HRT.out) (by simp)
           ·
            rw [if_neg c28] at H; have c28b0 : decide ((wrap64 (Int.tdiv (wrap64 (a0 + a1)) 2)) ≤ x7_1) = false := decide_eq_false c28; clear c28; have H' := Aside0.mk H; clear H
            obtain ⟨Ao31, co31, eo31⟩ := Kd.R_slice HO_5.out
            subst eo31; have p466 : 0 ≤ (x7_1 : Int) := of_decide_eq_true (by first | (with_reducible assumption) | assumption); have q466 : x7_1 < (t461.length : Int) := of_decide_eq_true (by first | (with_reducible assumption) | assumption)
            obtain ⟨ad466, e466, hx466_0⟩ := Kd.at_int (Kd.R_reads' HO_5.out).2.2 x7_1 p466 q466
            cases e466; replace p466 := eq_true p466; replace q466 := eq_true q466; have p467 : 0 ≤ ((ji16) : Int) := of_decide_eq_true (by first | (with_reducible assumption) | assumption); have q467 : (ji16) < (t461.length : Int) := of_decide_eq_true (by first | (with_reducible assumption) | assumption)
            obtain ⟨ad467, e467, hx467_0⟩ := Kd.at_int (Kd.R_reads' HO_5.out).2.2 (ji16) p467 q467
            obtain rfl : ad466 = ad467 := (by injection e467)
            replace p467 := eq_true p467; replace q467 := eq_true q467; have p468 : 0 ≤ (x7_1 : Int) := of_decide_eq_true (by first | (with_reducible assumption) | assumption); have q468 : x7_1 < (t461.length : Int) := of_decide_eq_true (by first | (with_reducible assumption) | assumption)
            obtain ⟨ad468, e468, hx468_0⟩ := Kd.at_int (Kd.R_reads' HO_5.out).2.2 x7_1 p468 q468
            obtain rfl : ad466 = ad468 := (by injection e468)
            replace p468 := eq_true p468; replace q468 := eq_true q468; have p469 : 0 ≤ (x7_1 : Int) := of_decide_eq_true (by first | (with_reducible assumption) | assumption); have q469 : x7_1 < (t461.length : Int) := of_decide_eq_true (by first | (with_reducible assumption) | assumption)
            obtain ⟨ad469, e469, hx469_0⟩ := Kd.at_int (Kd.R_reads' HO_5.out).2.2 x7_1 p469 q469
            obtain rfl : ad466 = ad469 := (by injection e469)
            replace p469 := eq_true p469; replace q469 := eq_true q469
            go_wp2
            repeat (go_quiet (fail); try go_wp2)
            go_roundg k1
            case measure => have := HK1.out; omega
            case rel => exact ⟨(wrap64 (x7_1 + 1)), (by first | rfl | (simp; done) | (simp [*]; done)), H', ⟨by have := HK1.out; omega⟩, ⟨by (with_reducible repeat first | apply Kd.R_alloc | apply Kd.R_drewN | apply Kd.R_drew); exact HO_5.out⟩, ⟨by repeat (with_reducible first | exact HB.out | apply below_alloc | apply pw_below_drewN | apply below_drew1)⟩⟩
       ·
        rw [if_neg c19] at H; have c19b0 : ((rd t461 x7_1) == (rd t461 (ji16))) = false := beq_eq_false_iff_ne.mpr c19; have c19b1 : ((rd t461 x7_1) != (rd t461 (ji16))) = true := bne_iff_ne.mpr c19
        exact absurd ((Option.some.inj H).trans HRT.out) (by simp)
      ·
       rw [if_neg c13] at H; have c13b0 : decide (x7_1 < a0) = false := decide_eq_false c13; clear c13
       by_cases c32 : t462 = 0
       ·
        rw [if_pos c32] at H; have c32b0 : (t462 == 0) = true := beq_iff_eq.mpr c32; have c32b1 : (t462 != 0) = false := bne_eq_false_iff_eq.mpr c32; clear c32
        obtain rfl := Option.some.inj H
        obtain ⟨Ao33, co33, eo33⟩ := Kd.R_slice HO_5.out
        subst eo33
        go_wp2
        repeat (go_quiet (fail); try go_wp2)
        go_ret
        exact ⟨by first | rfl | (simp [errW_none, errW_some] <;> rfl) | (simp [*, errW_none, errW_some] <;> rfl), by repeat (with_reducible first | exact HB.out | apply below_alloc | apply pw_below_drewN | apply below_drew1)⟩
       ·
        rw [if_neg c32] at H; have c32b0 : (t462 == 0) = false := beq_eq_false_iff_ne.mpr c32; have c32b1 : (t462 != 0) = true := bne_iff_ne.mpr c32
        exact absurd ((Option.some.inj H).trans HRT.out) (by simp)
   ·
    replace c10 := Bool.eq_false_iff.mpr c10
    subst c10
    have H1 : (if t462 = 0 then (some false) else (some ((t461.length : Int) == 0))) = some r := by rw [if_neg (show ¬ (false = true) by decide)] at H; exact H
    clear H; have H := H1; clear H1
    by_cases c34 : t462 = 0
    ·
     rw [if_pos c34] at H; have c34b0 : (t462 == 0) = true := beq_iff_eq.mpr c34; have c34b1 : (t462 != 0) = false := bne_eq_false_iff_eq.mpr c34; clear c34
     exact absurd ((Option.some.inj H).trans HRT.out) (by simp)
    ·
     rw [if_neg c34] at H; have c34b0 : (t462 == 0) = false := beq_eq_false_iff_ne.mpr c34; have c34b1 : (t462 != 0) = true := bne_iff_ne.mpr c34
     obtain rfl := Option.some.inj H
     go_enter Try.func8, Try.ntmps8
     go_wp2_with (first | (go_at_call 9; (with_reducible refine (madrigallaw15_awake.calls  true _ A3.out).mono ?_); rintro e w35 ⟨rfl, hb⟩; have n0_ := Aside0.mk (below_step (by repeat (with_reducible first | exact HB.out | apply below_alloc | apply pw_below_drewN | apply below_drew1)) hb); clear HB; have HB := n0_; clear n0_; (try clear hb); (try clear hb2); (try clear hk); (try clear hi)) | (go_at_call 10; (with_reducible refine (mdct_Shape.calls k a0 a1 t461 t462 _ A8.out).mono ?_); rintro e w36 ⟨v463, rfl, ho0, hb⟩; have n0_ := Aside0.mk (Kd.R_lower ho0 (below_size (by repeat (with_reducible first | exact HB.out | apply below_alloc | apply pw_below_drewN | apply below_drew1)))); have n1_ := Aside0.mk (below_step (by repeat (with_reducible first | exact HB.out | apply below_alloc | apply pw_below_drewN | apply below_drew1)) hb); clear HB; have HO464 := n0_; have HB := n1_; clear n0_ n1_; (try clear hb); (try clear hb2); (try clear hk); (try clear hi); (try clear ho0)) | (go_at_call 16; (with_reducible refine (mdct_Good.calls a0 a1 false _ A9.out).mono ?_); rintro e w' ⟨rfl, ⟨nd, rfl⟩⟩; (try first | exact ⟨rfl, _, World.drewN_drewN _ _ _⟩ | exact ⟨rfl, _, Eq.trans (World.drewN_drewN _ _ _) (congrArg (World.drewN _) (Nat.add_assoc _ _ _))⟩); obtain ⟨Ao37, co37, eo37⟩ := Kd.R_slice HO464.out; subst eo37))
     repeat (go_quiet (first | (go_at_call 9; (with_reducible refine (madrigallaw15_awake.calls  true _ A3.out).mono ?_); rintro e w35 ⟨rfl, hb⟩; have n0_ := Aside0.mk (below_step (by repeat (with_reducible first | exact HB.out | apply below_alloc | apply pw_below_drewN | apply below_drew1)) hb); clear HB; have HB := n0_; clear n0_; (try clear hb); (try clear hb2); (try clear hk); (try clear hi)) | (go_at_call 10; (with_reducible refine (mdct_Shape.calls k a0 a1 t461 t462 _ A8.out).mono ?_); rintro e w36 ⟨v463, rfl, ho0, hb⟩; have n0_ := Aside0.mk (Kd.R_lower ho0 (below_size (by repeat (with_reducible first | exact HB.out | apply below_alloc | apply pw_below_drewN | apply below_drew1)))); have n1_ := Aside0.mk (below_step (by repeat (with_reducible first | exact HB.out | apply below_alloc | apply pw_below_drewN | apply below_drew1)) hb); clear HB; have HO464 := n0_; have HB := n1_; clear n0_ n1_; (try clear hb); (try clear hb2); (try clear hk); (try clear hi); (try clear ho0)) | (go_at_call 16; (with_reducible refine (mdct_Good.calls a0 a1 false _ A9.out).mono ?_); rintro e w' ⟨rfl, ⟨nd, rfl⟩⟩; (try first | exact ⟨rfl, _, World.drewN_drewN _ _ _⟩ | exact ⟨rfl, _, Eq.trans (World.drewN_drewN _ _ _) (congrArg (World.drewN _) (Nat.add_assoc _ _ _))⟩); obtain ⟨Ao37, co37, eo37⟩ := Kd.R_slice HO464.out; subst eo37)); try go_wp2_with (first | (go_at_call 9; (with_reducible refine (madrigallaw15_awake.calls  true _ A3.out).mono ?_); rintro e w35 ⟨rfl, hb⟩; have n0_ := Aside0.mk (below_step (by repeat (with_reducible first | exact HB.out | apply below_alloc | apply pw_below_drewN | apply below_drew1)) hb); clear HB; have HB := n0_; clear n0_; (try clear hb); (try clear hb2); (try clear hk); (try clear hi)) | (go_at_call 10; (with_reducible refine (mdct_Shape.calls k a0 a1 t461 t462 _ A8.out).mono ?_); rintro e w36 ⟨v463, rfl, ho0, hb⟩; have n0_ := Aside0.mk (Kd.R_lower ho0 (below_size (by repeat (with_reducible first | exact HB.out | apply below_alloc | apply pw_below_drewN | apply below_drew1)))); have n1_ := Aside0.mk (below_step (by repeat (with_reducible first | exact HB.out | apply below_alloc | apply pw_below_drewN | apply below_drew1)) hb); clear HB; have HO464 := n0_; have HB := n1_; clear n0_ n1_; (try clear hb); (try clear hb2); (try clear hk); (try clear hi); (try clear ho0)) | (go_at_call 16; (with_reducible refine (mdct_Good.calls a0 a1 false _ A9.out).mono ?_); rintro e w' ⟨rfl, ⟨nd, rfl⟩⟩; (try first | exact ⟨rfl, _, World.drewN_drewN _ _ _⟩ | exact ⟨rfl, _, Eq.trans (World.drewN_drewN _ _ _) (congrArg (World.drewN _) (Nat.add_assoc _ _ _))⟩); obtain ⟨Ao37, co37, eo37⟩ := Kd.R_slice HO464.out; subst eo37)))
     go_ret
     exact ⟨by first | rfl | (simp [errW_none, errW_some] <;> rfl) | (simp [*, errW_none, errW_some] <;> rfl), by repeat (with_reducible first | exact HB.out | apply below_alloc | apply pw_below_drewN | apply below_drew1)⟩
 ·
  replace c4 := Bool.eq_false_iff.mpr c4
  subst c4
  have H1 : (some false) = some r := by rw [if_neg (show ¬ (false = true) by decide)] at H; exact H
  clear H; have H := H1; clear H1
  exact absurd ((Option.some.inj H).trans HRT.out) (by simp)

/-- THE ONE PURE STATEMENT of madrigallaw15_MdctMirror: yours. -/
def madrigallaw15_MdctMirror.Pure : Prop := ∀ (a0 : Int) (a1 : Int), (Lit.int .i64 a0).wf = true → (Lit.int .i64 a1).wf = true → ∃ k, madrigallaw15_MdctMirror.f k a0 a1 = some true
theorem madrigallaw15_MdctMirror.walk (P : madrigallaw15_MdctMirror.Pure) (a0 : Int) (a1 : Int) (w : World) (w0 : (Lit.int .i64 a0).wf = true) (w1 : (Lit.int .i64 a1).wf = true) :
  Calls Try.prog 8 #[.int .i64 a0, .int .i64 a1] w fun e w' => e = .returned (.bool true) ∧ Below w.heap.size w w' := by
 obtain ⟨k, h⟩ := P a0 a1 w0 w1
 refine (madrigallaw15_MdctMirror.calls k a0 a1 true w rfl h).mono ?_
 rintro e w' ⟨rfl, hd⟩
 exact ⟨rfl, hd⟩

end Go.Proofs.Ytnliianjljgcbaa.MA
