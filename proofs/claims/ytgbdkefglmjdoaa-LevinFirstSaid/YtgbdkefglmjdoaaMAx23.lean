/- Functions of the program as plain Lean functions, and that the code comes to their answers; in a Law text: that the law holds for every input, out of its Pure statement. No condition beyond those that stand in each statement. Written by a program of this session. -/
import Derived.Test.YtgbdkefglmjdoaaMAx0
import Derived.Test.YtgbdkefglmjdoaaMAx1
import Derived.Test.YtgbdkefglmjdoaaMAx5
import Derived.Test.YtgbdkefglmjdoaaMAx11
namespace Go.Proofs.Ytgbdkefglmjdoaa.MA
open Go.RowKit Go.Proofs.YtgbdkefglmjdoaaW.PrintWords Go.Proofs.YtgbdkefglmjdoaaW.PrintLast Go.Proofs.YtgbdkefglmjdoaaW.PrintMore
attribute [local go_sem] max2_int min2_int max_two min_two max_three min_three max_four min_four   -- for this text's walks alone
set_option linter.unusedVariables false
set_option linter.unusedSimpArgs false

/-! ### madrigallaw12_LevinFirst: function 6 -/
mutual
def madrigallaw12_LevinFirst.j0 : Nat → Int → Int → Bool → Option (Bool)
 | 0, _, _, _ => none
 | k + 1, x0, x1, x28 => if x28 = true then (some true) else (madrigallaw12_LevinFirst.l0 k x0 x1 30000 ([] : List Int) 0)
def madrigallaw12_LevinFirst.l0 : Nat → Int → Int → Int → List Int → Int → Option (Bool)
 | 0, _, _, _, _, _ => none
 | k + 1, x0, x1, x5, x6, x7 => if x7 < x1 then (if x6.length < 17592186044416 then (madrigallaw12_LevinFirst.l0 k x0 x1 (wrap64 (Int.tdiv (wrap64 (x5 * x0)) 4096)) (x6 ++ [x5]) (wrap64 (x7 + 1))) else (none)) else ((levin_Auto.f k x6 1).bind fun bt716 => ((levin_Solve.f k bt716.1).bind fun bt720 => (if bt716.2 = 0 then (if bt720.2 = 0 then (if (bt720.1.length : Int) = 1 then (if 0 < (bt720.1.length : Int) then (if (wrap64 ((rd bt720.1 0) - x0)) ≤ 40 then (some (decide ((wrap64 ((rd bt720.1 0) - x0)) ≥ (-40)))) else (some false)) else (none)) else (some false)) else (some false)) else (some false))))
end
def madrigallaw12_LevinFirst.f (k : Nat) (a0 : Int) (a1 : Int) : Option (Bool) := (madrigallaw12_awake.f).bind fun t712 => (if t712 = true then (if a0 < (-3686) then (madrigallaw12_LevinFirst.j0 k a0 a1 true) else (if a0 > 3686 then (madrigallaw12_LevinFirst.j0 k a0 a1 true) else (if a1 < 200 then (madrigallaw12_LevinFirst.j0 k a0 a1 true) else (madrigallaw12_LevinFirst.j0 k a0 a1 (decide (a1 > 400)))))) else (some false))
set_option maxHeartbeats 8000000 in
set_option maxRecDepth 100000 in
theorem madrigallaw12_LevinFirst.calls (k : Nat) (a0 : Int) (a1 : Int) (r : Bool) (w : World) (hrt : r = true) (h : madrigallaw12_LevinFirst.f k a0 a1 = some r) :
  Calls Try.prog 6 #[.int .i64 a0, .int .i64 a1] w fun e w' => e = .returned (.bool r) ∧ Below w.heap.size w w' := by
 have HRT := Aside0.mk hrt
 clear hrt
 have HB := Aside0.mk (Below.refl w.heap.size w)
 have H : ((madrigallaw12_awake.f).bind fun t712 => (if t712 = true then (if a0 < (-3686) then (madrigallaw12_LevinFirst.j0 k a0 a1 true) else (if a0 > 3686 then (madrigallaw12_LevinFirst.j0 k a0 a1 true) else (if a1 < 200 then (madrigallaw12_LevinFirst.j0 k a0 a1 true) else (madrigallaw12_LevinFirst.j0 k a0 a1 (decide (a1 > 400)))))) else (some false))) = some r := h
 clear h
 replace H := Option.bind_eq_some_iff.mp H
 obtain ⟨t712, A30, H⟩ := H
 replace H : (if t712 = true then (if a0 < (-3686) then (madrigallaw12_LevinFirst.j0 k a0 a1 true) else (if a0 > 3686 then (madrigallaw12_LevinFirst.j0 k a0 a1 true) else (if a1 < 200 then (madrigallaw12_LevinFirst.j0 k a0 a1 true) else (madrigallaw12_LevinFirst.j0 k a0 a1 (decide (a1 > 400)))))) else (some false)) = some r := H
 have A3 := Aside0.mk A30
 clear A30
 by_cases c4 : t712 = true
 ·
  subst c4
  have H1 : (if a0 < (-3686) then (madrigallaw12_LevinFirst.j0 k a0 a1 true) else (if a0 > 3686 then (madrigallaw12_LevinFirst.j0 k a0 a1 true) else (if a1 < 200 then (madrigallaw12_LevinFirst.j0 k a0 a1 true) else (madrigallaw12_LevinFirst.j0 k a0 a1 (decide (a1 > 400)))))) = some r := by rw [if_pos rfl] at H; exact H
  clear H
  have H := H1
  clear H1
  have HC5 := Aside0.mk H
  clear H
  go_enter Try.func6, Try.ntmps6
  go_upto_region 3 with (first | ((with_reducible refine gate_callee (f := 10) rfl ?_); refine goesL_ (some 13) rfl rfl Try.func10 (by kernel_rfl) rfl #[] rfl (by (try simp only [List.map_toArray, List.map_cons, List.map_nil]); first | done | rfl | (simp only [List.length_drop, List.length_take]; rfl)) ?_; (with_reducible refine (madrigallaw12_awake.calls  true _ A3.out).mono ?_); rintro e w6 ⟨rfl, hb⟩; refine ⟨_, rfl, ?_⟩; have n0_ := Aside0.mk (below_step (by repeat (first | (with_reducible first | exact HB.out | apply below_alloc | apply pw_below_drewN | apply below_drew1) | exact HB.out)) hb); clear HB; have HB := n0_; clear n0_; (try clear hb); (try clear hb2); (try clear hk); (try clear hi)))
  (try simp only [Act.put, List.setIfInBounds_toArray, List.set_cons_zero, List.set_cons_succ])
  go_cut [28] (fun v28 wc => ∃ (kq : Nat) (x28_4 : Bool), v28 = .bool x28_4 ∧ Aside0 (madrigallaw12_LevinFirst.j0 kq a0 a1 x28_4 = some r) ∧ Aside0 (kq ≤ k) ∧ Aside0 (Below w.heap.size w wc))
  case first =>
   have H := HC5.out
   clear HC5
   by_cases c7 : a0 < (-3686)
   ·
    rw [if_pos c7] at H
    have c7b0 : decide (a0 < (-3686)) = true := decide_eq_true c7
    clear c7
    (first | rw [c7b0] | (simp only [i64_w, i32_w]; rw [c7b0]) | skip)
    have H' := Aside0.mk H
    clear H
    go_wp2
    go_meet
    case rel => exact ⟨_, (true), (by first | rfl | (simp; done) | (simp [*]; done)), H', ⟨by first | omega | exact Nat.le_refl _⟩, ⟨by repeat (first | (with_reducible first | exact HB.out | apply below_alloc | apply pw_below_drewN | apply below_drew1) | exact HB.out)⟩⟩
   ·
    rw [if_neg c7] at H
    have c7b0 : decide (a0 < (-3686)) = false := decide_eq_false c7
    clear c7
    (first | rw [c7b0] | (simp only [i64_w, i32_w]; rw [c7b0]) | skip)
    by_cases c8 : a0 > 3686
    ·
     rw [if_pos c8] at H
     have c8b0 : decide (3686 < a0) = true := decide_eq_true c8
     clear c8
     have H' := Aside0.mk H
     clear H
     go_wp2
     go_meet
     case rel => exact ⟨_, (true), (by first | rfl | (simp; done) | (simp [*]; done)), H', ⟨by first | omega | exact Nat.le_refl _⟩, ⟨by repeat (first | (with_reducible first | exact HB.out | apply below_alloc | apply pw_below_drewN | apply below_drew1) | exact HB.out)⟩⟩
    ·
     rw [if_neg c8] at H
     have c8b0 : decide (3686 < a0) = false := decide_eq_false c8
     clear c8
     by_cases c9 : a1 < 200
     ·
      rw [if_pos c9] at H
      have c9b0 : decide (a1 < 200) = true := decide_eq_true c9
      clear c9
      have H' := Aside0.mk H
      clear H
      go_wp2
      go_meet
      case rel => exact ⟨_, (true), (by first | rfl | (simp; done) | (simp [*]; done)), H', ⟨by first | omega | exact Nat.le_refl _⟩, ⟨by repeat (first | (with_reducible first | exact HB.out | apply below_alloc | apply pw_below_drewN | apply below_drew1) | exact HB.out)⟩⟩
     ·
      rw [if_neg c9] at H
      have c9b0 : decide (a1 < 200) = false := decide_eq_false c9
      clear c9
      have H' := Aside0.mk H
      clear H
      go_wp2
      go_meet
      case rel => exact ⟨_, (decide (a1 > 400)), (by first | rfl | (simp; done) | (simp [*]; done)), H', ⟨by first | omega | exact Nat.le_refl _⟩, ⟨by repeat (first | (with_reducible first | exact HB.out | apply below_alloc | apply pw_below_drewN | apply below_drew1) | exact HB.out)⟩⟩
  case rest =>
   clear HC5
   (try clear c1); (try clear p2); (try clear c4); (try clear c6); (try clear c7); (try clear c7b0); (try clear c7b0z0); (try clear c8); (try clear c8b0); (try clear c8b0z0); (try clear c9); (try clear c9b0); (try clear c9b0z0)
   obtain ⟨kq, x28_4, rfl, HA, HJ4, HB⟩ := hcut
   cases kq with
   | zero => exact absurd HA.out (by simp [madrigallaw12_LevinFirst.j0])
   | succ kj4 =>
    have H := HA.out
    clear HA
    simp only [madrigallaw12_LevinFirst.j0] at H
    by_cases c10 : x28_4 = true
    ·
     subst c10
     have H1 : (some true) = some r := by rw [if_pos rfl] at H; exact H
     clear H
     have H := H1
     clear H1
     obtain rfl := Option.some.inj H
     go_wp2
     go_ret
     exact ⟨by first | rfl | (simp [errW_none, errW_some] <;> rfl) | (simp [*, errW_none, errW_some] <;> rfl), by repeat (first | (with_reducible first | exact HB.out | apply below_alloc | apply pw_below_drewN | apply below_drew1) | exact HB.out)⟩
    ·
     replace c10 := Bool.eq_false_iff.mpr c10
     subst c10
     have H1 : (madrigallaw12_LevinFirst.l0 kj4 a0 a1 30000 ([] : List Int) 0) = some r := by rw [if_neg (show ¬ (false = true) by decide)] at H; exact H
     clear H
     have H := H1
     clear H1
     have H' := Aside0.mk H
     clear H
     go_wp2
     go_loopg [5, 6, 7] kj4 (fun kq v5 v6 v7 w' => ∃ (x5_2 : Int) (x6_2 : List Int) (x7_2 : Int), v5 = .int .i64 x5_2 ∧ v7 = .int .i64 x7_2 ∧ Aside0 (madrigallaw12_LevinFirst.l0 kq a0 a1 x5_2 x6_2 x7_2 = some r) ∧ Aside0 (kq ≤ kj4) ∧ Aside0 (Kd.R (Kd.int .i64) 2 w' w.heap.size (fun _ => True) v6 x6_2) ∧ Aside0 (Below w.heap.size w w'))
     case atStart => exact ⟨(30000), (([] : List Int)), (0), (by first | rfl | (simp; done) | (simp [*]; done)), (by first | rfl | (simp; done) | (simp [*]; done)), H', ⟨Nat.le_refl _⟩, ⟨by first | exact Kd.R_nil _ _ _ _ _ | exact Kd.N_nil _ _ _ _ _ | exact Kd.V_nil _ _ _ _ _ | exact Kd.Q_nil _ _ _ _ _ | exact Kd.S_nil _ _ _ _ _⟩, ⟨by repeat (first | (with_reducible first | exact HB.out | apply below_alloc | apply pw_below_drewN | apply below_drew1) | exact HB.out)⟩⟩
     case round =>
      clear H'
      (try clear c1); (try clear p2); (try clear c4); (try clear c6); (try clear c7); (try clear c7b0); (try clear c7b0z0); (try clear c8); (try clear c8b0); (try clear c8b0z0); (try clear c9); (try clear c9b0); (try clear c9b0z0); (try clear c10); (try clear p2)
      obtain ⟨x5_2, x6_2, x7_2, rfl, rfl, HA, HK2, HO_6, HB⟩ := hrel
      cases gk with
      | zero => exact absurd HA.out (by simp [madrigallaw12_LevinFirst.l0])
      | succ k2 =>
       have H := HA.out
       clear HA
       simp only [madrigallaw12_LevinFirst.l0] at H
       by_cases c11 : x7_2 < a1
       ·
        rw [if_pos c11] at H
        have c11b0 : decide (x7_2 < a1) = true := decide_eq_true c11
        clear c11
        by_cases c12 : x6_2.length < 17592186044416
        ·
         rw [if_pos c12] at H
         have LMc12 := Aside0.mk c12
         clear c12
         obtain ⟨y713, hy713⟩ : ∃ y_ : List Int, y_ = (x6_2 ++ [x5_2]) := ⟨_, rfl⟩
         replace H : (madrigallaw12_LevinFirst.l0 k2 a0 a1 (wrap64 (Int.tdiv (wrap64 (x5_2 * a0)) 4096)) y713 (wrap64 (x7_2 + 1))) = some r := by first | (rw [hy713]; with_reducible exact H) | (have H2_ := (Option.bind_some _ _).symm.trans H; rw [hy713]; with_reducible exact H2_) | (have H2_ := (Option.bind_some _ _).symm.trans H; with_reducible exact H2_) | with_reducible exact H | (rw [hy713]; exact H) | exact H
         have Ny713 := Aside0.mk hy713
         clear hy713
         have H' := Aside0.mk H
         clear H
         go_wp2_with (first | ((with_reducible refine gate_builtin (b := .append) (xs := #[.tmp 34, .tmp 36]) rfl ?_); (try (refine gate_guard (by rfl) ?_; dsimp only)); at_builtin; refine Kd.R_append (Kd.int .i64) (w0 := w) w.heap.size rfl (.tmp 34) (.tmp 36) 23 2 (.int .i64 0) 8 rfl Try.underlying23 info2 rfl (by decide) (by omega) u6 x6_2 x5_2 [.int .i64 x5_2] (fun _ => True) (fun _ => False) rfl rfl ?aP (fun _ hk => hk.elim) ?aF ?aO ?aB ?aS ?aL ?_; (case aP => exact rfl); (case aB => exact (by repeat (first | (with_reducible first | exact HB.out | apply below_alloc | apply pw_below_drewN | apply below_drew1) | exact HB.out))); (case aF => exact (fun _ _ => trivial)); (case aO => exact (by (with_reducible repeat (first | apply Kd.R_alloc | apply Kd.R_drewN | apply Kd.R_drew)); exact HO_6.out)); (case aS => exact (below_size (by repeat (first | (with_reducible first | exact HB.out | apply below_alloc | apply pw_below_drewN | apply below_drew1) | exact HB.out)))); (case aL => have := LMc12.out; omega); intro v714 w13 ho hb hg hat; rw [← Ny713.out] at ho; have n0_ := Aside0.mk (hb); have n1_ := Aside0.mk (ho); clear HB; clear HO_6; have HB := n0_; have HO715 := n1_; clear n0_ n1_; clear ho hb hg hat))
         go_roundg k2
         case measure => have := HJ4.out; have := HK2.out; omega
         case rel => exact ⟨(wrap64 (Int.tdiv (wrap64 (x5_2 * a0)) 4096)), (y713), (wrap64 (x7_2 + 1)), (by first | rfl | (simp; done) | (simp [*]; done)), (by first | rfl | (simp; done) | (simp [*]; done)), H', ⟨by have := HJ4.out; have := HK2.out; omega⟩, ⟨by (with_reducible repeat (first | apply Kd.R_alloc | apply Kd.R_drewN | apply Kd.R_drew)); exact HO715.out⟩, ⟨by repeat (first | (with_reducible first | exact HB.out | apply below_alloc | apply pw_below_drewN | apply below_drew1) | exact HB.out)⟩⟩
        ·
         rw [if_neg c12] at H
         exact absurd H (by simp)
       ·
        rw [if_neg c11] at H
        have c11b0 : decide (x7_2 < a1) = false := decide_eq_false c11
        clear c11
        replace H := Option.bind_eq_some_iff.mp H
        obtain ⟨⟨t716, t717⟩, A140, H⟩ := H
        replace H : ((levin_Solve.f k2 t716).bind fun bt720 => (if t717 = 0 then (if bt720.2 = 0 then (if (bt720.1.length : Int) = 1 then (if 0 < (bt720.1.length : Int) then (if (wrap64 ((rd bt720.1 0) - a0)) ≤ 40 then (some (decide ((wrap64 ((rd bt720.1 0) - a0)) ≥ (-40)))) else (some false)) else (none)) else (some false)) else (some false)) else (some false))) = some r := H
        have A14 := Aside0.mk A140
        clear A140
        replace H := Option.bind_eq_some_iff.mp H
        obtain ⟨⟨t720, t721⟩, A150, H⟩ := H
        replace H : (if t717 = 0 then (if t721 = 0 then (if (t720.length : Int) = 1 then (if 0 < (t720.length : Int) then (if (wrap64 ((rd t720 0) - a0)) ≤ 40 then (some (decide ((wrap64 ((rd t720 0) - a0)) ≥ (-40)))) else (some false)) else (none)) else (some false)) else (some false)) else (some false)) = some r := H
        have A15 := Aside0.mk A150
        clear A150
        by_cases c16 : t717 = 0
        ·
         rw [if_pos c16] at H
         have c16b0 : (t717 == 0) = true := beq_iff_eq.mpr c16
         have c16b1 : (t717 != 0) = false := bne_eq_false_iff_eq.mpr c16
         clear c16
         by_cases c17 : t721 = 0
         ·
          rw [if_pos c17] at H
          have c17b0 : (t721 == 0) = true := beq_iff_eq.mpr c17
          have c17b1 : (t721 != 0) = false := bne_eq_false_iff_eq.mpr c17
          clear c17
          by_cases c18 : (t720.length : Int) = 1
          ·
           rw [if_pos c18] at H
           have c18b0 : ((t720.length : Int) == 1) = true := beq_iff_eq.mpr c18
           have c18b1 : ((t720.length : Int) != 1) = false := bne_eq_false_iff_eq.mpr c18
           clear c18
           by_cases c19 : 0 < (t720.length : Int)
           ·
            rw [if_pos c19] at H
            have c19b0 : decide (0 < (t720.length : Int)) = true := decide_eq_true c19
            have c19b1 : decide (0 < t720.length) = true := decide_eq_true (by omega)
            clear c19
            by_cases c20 : (wrap64 ((rd t720 0) - a0)) ≤ 40
            ·
             rw [if_pos c20] at H
             have c20b0 : decide ((wrap64 ((rd t720 0) - a0)) ≤ 40) = true := decide_eq_true c20
             clear c20
             obtain rfl := Option.some.inj H
             obtain ⟨Ao21, co21, eo21⟩ := Kd.R_slice HO_6.out
             subst eo21
             go_wp2_with (first | ((with_reducible refine gate_callee (f := 11) rfl ?_); refine goesL_ (some 44) rfl rfl Try.func11 (by kernel_rfl) rfl #[.slice Ao21 x6_2.length co21, .int .i64 1] rfl (by (try simp only [List.map_toArray, List.map_cons, List.map_nil]); first | done | rfl | (simp only [List.length_drop, List.length_take]; rfl)) ?_; (with_reducible refine (levin_Auto.calls k2 _ _ x6_2 1 t716 t717 _ ?side1 ?side2 A14.out).mono ?_); (case side1 => repeat (first | exact (Kd.R_reads' HO_6.out).2.2 | (with_reducible refine Kd.C_alloc ?_ _) | (with_reducible refine Kd.C_drewN ?_ _) | (with_reducible refine Kd.C_drew ?_))); (case side2 => exact (Kd.R_reads' HO_6.out).2.1); rintro e w22 ⟨v718, rfl, ho0, hb⟩; refine ⟨_, rfl, ?_⟩; have n0_ := Aside0.mk (Kd.R_elder' (by (with_reducible repeat (first | apply Kd.R_alloc | apply Kd.R_drewN | apply Kd.R_drew)); exact HO_6.out) (Kd.R_base ho0) hb); have n1_ := Aside0.mk (Kd.R_lower (Kd.R_new' ho0 (Kd.R_lt (by (with_reducible repeat (first | apply Kd.R_alloc | apply Kd.R_drewN | apply Kd.R_drew)); exact HO_6.out))) (below_size (by repeat (first | (with_reducible first | exact HB.out | apply below_alloc | apply pw_below_drewN | apply below_drew1) | exact HB.out)))); have n2_ := Aside0.mk (below_step (by repeat (first | (with_reducible first | exact HB.out | apply below_alloc | apply pw_below_drewN | apply below_drew1) | exact HB.out)) hb); clear HO_6; clear HB; have HO_6 := n0_; have HO719 := n1_; have HB := n2_; clear n0_ n1_ n2_; (try clear hb); (try clear hb2); (try clear hk); (try clear hi); (try clear ho0); obtain ⟨Ao23, co23, eo23⟩ := Kd.R_slice HO719.out; subst eo23) | ((with_reducible refine gate_callee (f := 12) rfl ?_); refine goesL_ (some 49) rfl rfl Try.func12 (by kernel_rfl) rfl #[.slice Ao23 t716.length co23] rfl (by (try simp only [List.map_toArray, List.map_cons, List.map_nil]); first | done | rfl | (simp only [List.length_drop, List.length_take]; rfl)) ?_; (with_reducible refine (levin_Solve.calls k2 _ _ t716 t720 t721 _ ?side1 ?side2 A15.out).mono ?_); (case side1 => repeat (first | exact (Kd.R_reads' HO719.out).2.2 | (with_reducible refine Kd.C_alloc ?_ _) | (with_reducible refine Kd.C_drewN ?_ _) | (with_reducible refine Kd.C_drew ?_))); (case side2 => exact (Kd.R_reads' HO719.out).2.1); rintro e w24 ⟨v722, rfl, ho0, hb⟩; refine ⟨_, rfl, ?_⟩; have n0_ := Aside0.mk (Kd.R_elder' (by (with_reducible repeat (first | apply Kd.R_alloc | apply Kd.R_drewN | apply Kd.R_drew)); exact HO_6.out) (Kd.R_base ho0) hb); have n1_ := Aside0.mk (Kd.R_elder' (by (with_reducible repeat (first | apply Kd.R_alloc | apply Kd.R_drewN | apply Kd.R_drew)); exact HO719.out) (Kd.R_base ho0) hb); have n2_ := Aside0.mk (Kd.R_lower (Kd.R_new' (Kd.R_new' ho0 (Kd.R_lt (by (with_reducible repeat (first | apply Kd.R_alloc | apply Kd.R_drewN | apply Kd.R_drew)); exact HO_6.out))) (Kd.R_lt (by (with_reducible repeat (first | apply Kd.R_alloc | apply Kd.R_drewN | apply Kd.R_drew)); exact HO719.out))) (below_size (by repeat (first | (with_reducible first | exact HB.out | apply below_alloc | apply pw_below_drewN | apply below_drew1) | exact HB.out)))); have n3_ := Aside0.mk (below_step (by repeat (first | (with_reducible first | exact HB.out | apply below_alloc | apply pw_below_drewN | apply below_drew1) | exact HB.out)) hb); clear HO_6; clear HO719; clear HB; have HO_6 := n0_; have HO719 := n1_; have HO723 := n2_; have HB := n3_; clear n0_ n1_ n2_ n3_; (try clear hb); (try clear hb2); (try clear hk); (try clear hi); (try clear ho0); obtain ⟨Ao25, co25, eo25⟩ := Kd.R_slice HO723.out; subst eo25; have p724 : 0 ≤ (0 : Int) := (by omega); have q724 : 0 < (t720.length : Int) := of_decide_eq_true (by first | (with_reducible assumption) | assumption); obtain ⟨ad724, e724, hx724_0⟩ := Kd.at_int (Kd.R_reads' HO723.out).2.2 0 p724 q724; cases e724; have qi724 : (0 < t720.length) = True := eq_true (by omega); (try rw [show ((0 : Int)).toNat = 0 from rfl] at hx724_0); (try rw [Addr.add_zero'] at hx724_0); replace p724 := eq_true p724; replace q724 := eq_true q724))
             go_ret
             exact ⟨by first | rfl | (simp [errW_none, errW_some] <;> rfl) | (simp [*, errW_none, errW_some] <;> rfl), by repeat (first | (with_reducible first | exact HB.out | apply below_alloc | apply pw_below_drewN | apply below_drew1) | exact HB.out)⟩
            ·
             rw [if_neg c20] at H
             have c20b0 : decide ((wrap64 ((rd t720 0) - a0)) ≤ 40) = false := decide_eq_false c20
             clear c20
             exact absurd ((Option.some.inj H).trans HRT.out) (by simp)
           ·
            rw [if_neg c19] at H
            exact absurd H (by simp)
          ·
           rw [if_neg c18] at H
           have c18b0 : ((t720.length : Int) == 1) = false := beq_eq_false_iff_ne.mpr c18
           have c18b1 : ((t720.length : Int) != 1) = true := bne_iff_ne.mpr c18
           exact absurd ((Option.some.inj H).trans HRT.out) (by simp)
         ·
          rw [if_neg c17] at H
          have c17b0 : (t721 == 0) = false := beq_eq_false_iff_ne.mpr c17
          have c17b1 : (t721 != 0) = true := bne_iff_ne.mpr c17
          exact absurd ((Option.some.inj H).trans HRT.out) (by simp)
        ·
         rw [if_neg c16] at H
         have c16b0 : (t717 == 0) = false := beq_eq_false_iff_ne.mpr c16
         have c16b1 : (t717 != 0) = true := bne_iff_ne.mpr c16
         exact absurd ((Option.some.inj H).trans HRT.out) (by simp)
 ·
  replace c4 := Bool.eq_false_iff.mpr c4
  subst c4
  have H1 : (some false) = some r := by rw [if_neg (show ¬ (false = true) by decide)] at H; exact H
  clear H
  have H := H1
  clear H1
  exact absurd ((Option.some.inj H).trans HRT.out) (by simp)

/-- THE ONE PURE STATEMENT of madrigallaw12_LevinFirst: yours. -/
def madrigallaw12_LevinFirst.Pure : Prop := ∀ (a0 : Int) (a1 : Int), (Lit.int .i64 a0).wf = true → (Lit.int .i64 a1).wf = true → ∃ k, madrigallaw12_LevinFirst.f k a0 a1 = some true
theorem madrigallaw12_LevinFirst.walk (P : madrigallaw12_LevinFirst.Pure) (a0 : Int) (a1 : Int) (w : World) (w0 : (Lit.int .i64 a0).wf = true) (w1 : (Lit.int .i64 a1).wf = true) :
  Calls Try.prog 6 #[.int .i64 a0, .int .i64 a1] w fun e w' => e = .returned (.bool true) ∧ Below w.heap.size w w' := by
 obtain ⟨k, h⟩ := P a0 a1 w0 w1
 refine (madrigallaw12_LevinFirst.calls k a0 a1 true w rfl h).mono ?_
 rintro e w' ⟨rfl, hd⟩
 exact ⟨rfl, hd⟩

end Go.Proofs.Ytgbdkefglmjdoaa.MA
