/- Functions of the program as plain Lean functions, and that the code comes to their answers; in a Law text: that the law holds for every input, out of its Pure statement. No condition beyond those that stand in each statement. Written by a program of this session. -/
import Derived.Test.YtgbdkefglmjdoaaMAx0
import Derived.Test.YtgbdkefglmjdoaaMAx1
import Derived.Test.YtgbdkefglmjdoaaMAx11
namespace Go.Proofs.Ytgbdkefglmjdoaa.MA
open Go.RowKit Go.Proofs.YtgbdkefglmjdoaaW.PrintWords Go.Proofs.YtgbdkefglmjdoaaW.PrintLast Go.Proofs.YtgbdkefglmjdoaaW.PrintMore
attribute [local go_sem] max2_int min2_int max_two min_two max_three min_three max_four min_four   -- for this text's walks alone
set_option linter.unusedVariables false
set_option linter.unusedSimpArgs false

/-! ### madrigallaw12_LevinTwice: function 9 -/
mutual
def madrigallaw12_LevinTwice.j0 : Nat → List Int → Int → Bool → Option (Bool)
 | 0, _, _, _ => none
 | k + 1, x0, x1, x24 => if x24 = true then (some true) else (madrigallaw12_LevinTwice.l0 k x0 x1 ([] : List Int) 0)
def madrigallaw12_LevinTwice.l0 : Nat → List Int → Int → List Int → Int → Option (Bool)
 | 0, _, _, _, _ => none
 | k + 1, x0, x1, x5, x6 => if x6 < (x0.length : Int) then (if 0 ≤ x6 then (if (rd x0 x6) < (-16383) then (some true) else (if (rd x0 x6) > 16383 then (some true) else (if x5.length < 17592186044416 then (madrigallaw12_LevinTwice.l0 k x0 x1 (x5 ++ [wrap64 (2 * (rd x0 x6))]) (wrap64 (x6 + 1))) else (none)))) else (none)) else ((levin_Auto.f k x0 x1).bind fun bt778 => ((levin_Auto.f k x5 x1).bind fun bt782 => (if bt778.2 = 0 then (if bt782.2 = 0 then (madrigallaw12_LevinTwice.j2 k bt778.1 bt782.1 ((bt782.1.length : Int) != (bt778.1.length : Int))) else (madrigallaw12_LevinTwice.j2 k bt778.1 bt782.1 true)) else (madrigallaw12_LevinTwice.j2 k bt778.1 bt782.1 true))))
def madrigallaw12_LevinTwice.j2 : Nat → List Int → List Int → Bool → Option (Bool)
 | 0, _, _, _ => none
 | k + 1, x7, x9, x75 => if x75 = true then (some false) else (madrigallaw12_LevinTwice.l1 k x7 x9 0)
def madrigallaw12_LevinTwice.l1 : Nat → List Int → List Int → Int → Option (Bool)
 | 0, _, _, _ => none
 | k + 1, x7, x9, x11 => if x11 < (x7.length : Int) then (if 0 ≤ x11 then (if x11 < (x9.length : Int) then (if (rd x9 x11) = (wrap64 (4 * (rd x7 x11))) then (madrigallaw12_LevinTwice.l1 k x7 x9 (wrap64 (x11 + 1))) else (some false)) else (none)) else (none)) else (some true)
end
def madrigallaw12_LevinTwice.f (k : Nat) (l0 : List Int) (a1 : Int) : Option (Bool) := (madrigallaw12_awake.f).bind fun t771 => (if t771 = true then (if (l0.length : Int) > 300 then (madrigallaw12_LevinTwice.j0 k l0 a1 true) else (if a1 < 1 then (madrigallaw12_LevinTwice.j0 k l0 a1 true) else (madrigallaw12_LevinTwice.j0 k l0 a1 (decide (a1 > 16))))) else (some false))
set_option maxHeartbeats 8000000 in
set_option maxRecDepth 100000 in
theorem madrigallaw12_LevinTwice.calls (k : Nat) (A0 : Option Addr) (c0 : Nat) (l0 : List Int) (a1 : Int) (r : Bool) (w : World) (hr0 : Kd.C (Kd.int .i64) w A0 l0.length l0) (hc0 : l0.length ≤ c0) (hrt : r = true) (h : madrigallaw12_LevinTwice.f k l0 a1 = some r) :
  Calls Try.prog 9 #[.slice A0 l0.length c0, .int .i64 a1] w fun e w' => e = .returned (.bool r) ∧ Below w.heap.size w w' := by
 have HRT := Aside0.mk hrt
 clear hrt
 have HR0 := Aside0.mk hr0
 have HC0 := Aside0.mk hc0
 clear hr0 hc0
 have HB := Aside0.mk (Below.refl w.heap.size w)
 have H : ((madrigallaw12_awake.f).bind fun t771 => (if t771 = true then (if (l0.length : Int) > 300 then (madrigallaw12_LevinTwice.j0 k l0 a1 true) else (if a1 < 1 then (madrigallaw12_LevinTwice.j0 k l0 a1 true) else (madrigallaw12_LevinTwice.j0 k l0 a1 (decide (a1 > 16))))) else (some false))) = some r := h
 clear h
 replace H := Option.bind_eq_some_iff.mp H
 obtain ⟨t771, A30, H⟩ := H
 replace H : (if t771 = true then (if (l0.length : Int) > 300 then (madrigallaw12_LevinTwice.j0 k l0 a1 true) else (if a1 < 1 then (madrigallaw12_LevinTwice.j0 k l0 a1 true) else (madrigallaw12_LevinTwice.j0 k l0 a1 (decide (a1 > 16))))) else (some false)) = some r := H
 have A3 := Aside0.mk A30
 clear A30
 by_cases c4 : t771 = true
 ·
  subst c4
  have H1 : (if (l0.length : Int) > 300 then (madrigallaw12_LevinTwice.j0 k l0 a1 true) else (if a1 < 1 then (madrigallaw12_LevinTwice.j0 k l0 a1 true) else (madrigallaw12_LevinTwice.j0 k l0 a1 (decide (a1 > 16))))) = some r := by rw [if_pos rfl] at H; exact H
  clear H
  have H := H1
  clear H1
  have HC5 := Aside0.mk H
  clear H
  go_enter Try.func9, Try.ntmps9
  go_upto_region 3 with (first | (go_at_call 10; (with_reducible refine (madrigallaw12_awake.calls  true _ A3.out).mono ?_); rintro e w6 ⟨rfl, hb⟩; have n0_ := Aside0.mk (below_step (by repeat (first | (with_reducible first | exact HB.out | apply below_alloc | apply pw_below_drewN | apply below_drew1) | exact HB.out)) hb); clear HB; have HB := n0_; clear n0_; (try clear hb); (try clear hb2); (try clear hk); (try clear hi)))
  repeat (go_quiet (first | (go_at_call 10; (with_reducible refine (madrigallaw12_awake.calls  true _ A3.out).mono ?_); rintro e w6 ⟨rfl, hb⟩; have n0_ := Aside0.mk (below_step (by repeat (first | (with_reducible first | exact HB.out | apply below_alloc | apply pw_below_drewN | apply below_drew1) | exact HB.out)) hb); clear HB; have HB := n0_; clear n0_; (try clear hb); (try clear hb2); (try clear hk); (try clear hi))); go_upto_region 3 with (first | (go_at_call 10; (with_reducible refine (madrigallaw12_awake.calls  true _ A3.out).mono ?_); rintro e w6 ⟨rfl, hb⟩; have n0_ := Aside0.mk (below_step (by repeat (first | (with_reducible first | exact HB.out | apply below_alloc | apply pw_below_drewN | apply below_drew1) | exact HB.out)) hb); clear HB; have HB := n0_; clear n0_; (try clear hb); (try clear hb2); (try clear hk); (try clear hi))))
  (try simp only [Act.put, List.setIfInBounds_toArray, List.set_cons_zero, List.set_cons_succ])
  go_cut [24] (fun v24 wc => ∃ (kq : Nat) (x24_4 : Bool), v24 = .bool x24_4 ∧ Aside0 (madrigallaw12_LevinTwice.j0 kq l0 a1 x24_4 = some r) ∧ Aside0 (kq ≤ k) ∧ Aside0 (Below w.heap.size w wc))
  case first =>
   have H := HC5.out
   clear HC5
   by_cases c7 : (l0.length : Int) > 300
   ·
    rw [if_pos c7] at H
    have c7b0 : decide (300 < (l0.length : Int)) = true := decide_eq_true c7
    have c7b1 : decide (300 < l0.length) = true := decide_eq_true (by omega)
    clear c7
    (first | rw [c7b0] | (simp only [i64_w, i32_w]; rw [c7b0]) | skip)
    have H' := Aside0.mk H
    clear H
    go_wp2
    repeat (go_quiet (fail); try go_wp2)
    go_meet
    case rel => exact ⟨_, (true), (by first | rfl | (simp; done) | (simp [*]; done)), H', ⟨by first | omega | exact Nat.le_refl _⟩, ⟨by repeat (first | (with_reducible first | exact HB.out | apply below_alloc | apply pw_below_drewN | apply below_drew1) | exact HB.out)⟩⟩
   ·
    rw [if_neg c7] at H
    have c7b0 : decide (300 < (l0.length : Int)) = false := decide_eq_false c7
    have c7b1 : decide (300 < l0.length) = false := decide_eq_false (by omega)
    clear c7
    (first | rw [c7b0] | (simp only [i64_w, i32_w]; rw [c7b0]) | skip)
    by_cases c8 : a1 < 1
    ·
     rw [if_pos c8] at H
     have c8b0 : decide (a1 < 1) = true := decide_eq_true c8
     clear c8
     have H' := Aside0.mk H
     clear H
     go_wp2
     repeat (go_quiet (fail); try go_wp2)
     go_meet
     case rel => exact ⟨_, (true), (by first | rfl | (simp; done) | (simp [*]; done)), H', ⟨by first | omega | exact Nat.le_refl _⟩, ⟨by repeat (first | (with_reducible first | exact HB.out | apply below_alloc | apply pw_below_drewN | apply below_drew1) | exact HB.out)⟩⟩
    ·
     rw [if_neg c8] at H
     have c8b0 : decide (a1 < 1) = false := decide_eq_false c8
     clear c8
     have H' := Aside0.mk H
     clear H
     go_wp2
     repeat (go_quiet (fail); try go_wp2)
     go_meet
     case rel => exact ⟨_, (decide (a1 > 16)), (by first | rfl | (simp; done) | (simp [*]; done)), H', ⟨by first | omega | exact Nat.le_refl _⟩, ⟨by repeat (first | (with_reducible first | exact HB.out | apply below_alloc | apply pw_below_drewN | apply below_drew1) | exact HB.out)⟩⟩
  case rest =>
   clear HC5
   (try clear p2); (try clear c4); (try clear c7); (try clear c7b0); (try clear c7b0z0); (try clear c7b1); (try clear c7b1z0); (try clear c8); (try clear c8b0); (try clear c8b0z0)
   obtain ⟨kq, x24_4, rfl, HA, HJ4, HB⟩ := hcut
   cases kq with
   | zero => exact absurd HA.out (by simp [madrigallaw12_LevinTwice.j0])
   | succ kj4 =>
    have H := HA.out
    clear HA
    simp only [madrigallaw12_LevinTwice.j0] at H
    by_cases c9 : x24_4 = true
    ·
     subst c9
     have H1 : (some true) = some r := by rw [if_pos rfl] at H; exact H
     clear H
     have H := H1
     clear H1
     obtain rfl := Option.some.inj H
     go_wp2
     repeat (go_quiet (fail); try go_wp2)
     go_ret
     exact ⟨by first | rfl | (simp [errW_none, errW_some] <;> rfl) | (simp [*, errW_none, errW_some] <;> rfl), by repeat (first | (with_reducible first | exact HB.out | apply below_alloc | apply pw_below_drewN | apply below_drew1) | exact HB.out)⟩
    ·
     replace c9 := Bool.eq_false_iff.mpr c9
     subst c9
     have H1 : (madrigallaw12_LevinTwice.l0 kj4 l0 a1 ([] : List Int) 0) = some r := by rw [if_neg (show ¬ (false = true) by decide)] at H; exact H
     clear H
     have H := H1
     clear H1
     have H' := Aside0.mk H
     clear H
     go_wp2
     repeat (go_quiet (fail); try go_wp2)
     go_loopg [5, 6] kj4 (fun kq v5 v6 w' => ∃ (x5_2 : List Int) (x6_2 : Int), v6 = .int .i64 x6_2 ∧ Aside0 (madrigallaw12_LevinTwice.l0 kq l0 a1 x5_2 x6_2 = some r) ∧ Aside0 (kq ≤ kj4) ∧ Aside0 (Kd.R (Kd.int .i64) 2 w' w.heap.size (fun _ => True) v5 x5_2) ∧ Aside0 (Below w.heap.size w w'))
     case atStart => exact ⟨(([] : List Int)), (0), (by first | rfl | (simp; done) | (simp [*]; done)), H', ⟨Nat.le_refl _⟩, ⟨by first | exact Kd.R_nil _ _ _ _ _ | exact Kd.N_nil _ _ _ _ _ | exact Kd.V_nil _ _ _ _ _ | exact Kd.Q_nil _ _ _ _ _ | exact Kd.S_nil _ _ _ _ _⟩, ⟨by repeat (first | (with_reducible first | exact HB.out | apply below_alloc | apply pw_below_drewN | apply below_drew1) | exact HB.out)⟩⟩
     case round =>
      clear H'
      (try clear p2); (try clear c4); (try clear c7); (try clear c7b0); (try clear c7b0z0); (try clear c7b1); (try clear c7b1z0); (try clear c8); (try clear c8b0); (try clear c8b0z0); (try clear c9); (try clear p2)
      obtain ⟨x5_2, x6_2, rfl, HA, HK2, HO_5, HB⟩ := hrel
      cases gk with
      | zero => exact absurd HA.out (by simp [madrigallaw12_LevinTwice.l0])
      | succ k2 =>
       have H := HA.out
       clear HA
       simp only [madrigallaw12_LevinTwice.l0] at H
       by_cases c10 : x6_2 < (l0.length : Int)
       ·
        rw [if_pos c10] at H
        have c10b0 : decide (x6_2 < (l0.length : Int)) = true := decide_eq_true c10
        clear c10
        by_cases c11 : 0 ≤ x6_2
        ·
         rw [if_pos c11] at H
         have c11b0 : decide (0 ≤ x6_2) = true := decide_eq_true c11
         clear c11
         by_cases c12 : (rd l0 x6_2) < (-16383)
         ·
          rw [if_pos c12] at H
          have c12b0 : decide ((rd l0 x6_2) < (-16383)) = true := decide_eq_true c12
          clear c12
          obtain rfl := Option.some.inj H
          have p772 : 0 ≤ (x6_2 : Int) := of_decide_eq_true (by first | (with_reducible assumption) | assumption)
          have q772 : x6_2 < (l0.length : Int) := of_decide_eq_true (by first | (with_reducible assumption) | assumption)
          obtain ⟨ad772, e772, hx772_0⟩ := Kd.at_int HR0.out x6_2 p772 q772
          cases e772
          replace hx772_0 := (HB.out.cell (World.block_lt_of_cell? w _ hx772_0)).trans hx772_0
          replace p772 := eq_true p772
          replace q772 := eq_true q772
          go_wp2
          repeat (go_quiet (fail); try go_wp2)
          go_ret
          exact ⟨by first | rfl | (simp [errW_none, errW_some] <;> rfl) | (simp [*, errW_none, errW_some] <;> rfl), by repeat (first | (with_reducible first | exact HB.out | apply below_alloc | apply pw_below_drewN | apply below_drew1) | exact HB.out)⟩
         ·
          rw [if_neg c12] at H
          have c12b0 : decide ((rd l0 x6_2) < (-16383)) = false := decide_eq_false c12
          clear c12
          by_cases c13 : (rd l0 x6_2) > 16383
          ·
           rw [if_pos c13] at H
           have c13b0 : decide (16383 < (rd l0 x6_2)) = true := decide_eq_true c13
           clear c13
           obtain rfl := Option.some.inj H
           have p772 : 0 ≤ (x6_2 : Int) := of_decide_eq_true (by first | (with_reducible assumption) | assumption)
           have q772 : x6_2 < (l0.length : Int) := of_decide_eq_true (by first | (with_reducible assumption) | assumption)
           obtain ⟨ad772, e772, hx772_0⟩ := Kd.at_int HR0.out x6_2 p772 q772
           cases e772
           replace hx772_0 := (HB.out.cell (World.block_lt_of_cell? w _ hx772_0)).trans hx772_0
           replace p772 := eq_true p772
           replace q772 := eq_true q772
           have p773 : 0 ≤ (x6_2 : Int) := of_decide_eq_true (by first | (with_reducible assumption) | assumption)
           have q773 : x6_2 < (l0.length : Int) := of_decide_eq_true (by first | (with_reducible assumption) | assumption)
           obtain ⟨ad773, e773, hx773_0⟩ := Kd.at_int HR0.out x6_2 p773 q773
           obtain rfl : ad772 = ad773 := (by injection e773)
           replace hx773_0 := (HB.out.cell (World.block_lt_of_cell? w _ hx773_0)).trans hx773_0
           replace p773 := eq_true p773
           replace q773 := eq_true q773
           go_wp2
           repeat (go_quiet (fail); try go_wp2)
           go_ret
           exact ⟨by first | rfl | (simp [errW_none, errW_some] <;> rfl) | (simp [*, errW_none, errW_some] <;> rfl), by repeat (first | (with_reducible first | exact HB.out | apply below_alloc | apply pw_below_drewN | apply below_drew1) | exact HB.out)⟩
          ·
           rw [if_neg c13] at H
           have c13b0 : decide (16383 < (rd l0 x6_2)) = false := decide_eq_false c13
           clear c13
           by_cases c14 : x5_2.length < 17592186044416
           ·
            rw [if_pos c14] at H
            have LMc14 := Aside0.mk c14
            clear c14
            obtain ⟨y775, hy775⟩ : ∃ y_ : List Int, y_ = (x5_2 ++ [wrap64 (2 * (rd l0 x6_2))]) := ⟨_, rfl⟩
            replace H : (madrigallaw12_LevinTwice.l0 k2 l0 a1 y775 (wrap64 (x6_2 + 1))) = some r := by first | (rw [hy775]; with_reducible exact H) | (have H2_ := (Option.bind_some _ _).symm.trans H; rw [hy775]; with_reducible exact H2_) | (have H2_ := (Option.bind_some _ _).symm.trans H; with_reducible exact H2_) | with_reducible exact H | (rw [hy775]; exact H) | exact H
            have Ny775 := Aside0.mk hy775
            clear hy775
            have H' := Aside0.mk H
            clear H
            have p772 : 0 ≤ (x6_2 : Int) := of_decide_eq_true (by first | (with_reducible assumption) | assumption)
            have q772 : x6_2 < (l0.length : Int) := of_decide_eq_true (by first | (with_reducible assumption) | assumption)
            obtain ⟨ad772, e772, hx772_0⟩ := Kd.at_int HR0.out x6_2 p772 q772
            cases e772
            replace hx772_0 := (HB.out.cell (World.block_lt_of_cell? w _ hx772_0)).trans hx772_0
            replace p772 := eq_true p772
            replace q772 := eq_true q772
            have p773 : 0 ≤ (x6_2 : Int) := of_decide_eq_true (by first | (with_reducible assumption) | assumption)
            have q773 : x6_2 < (l0.length : Int) := of_decide_eq_true (by first | (with_reducible assumption) | assumption)
            obtain ⟨ad773, e773, hx773_0⟩ := Kd.at_int HR0.out x6_2 p773 q773
            obtain rfl : ad772 = ad773 := (by injection e773)
            replace hx773_0 := (HB.out.cell (World.block_lt_of_cell? w _ hx773_0)).trans hx773_0
            replace p773 := eq_true p773
            replace q773 := eq_true q773
            have p774 : 0 ≤ (x6_2 : Int) := of_decide_eq_true (by first | (with_reducible assumption) | assumption)
            have q774 : x6_2 < (l0.length : Int) := of_decide_eq_true (by first | (with_reducible assumption) | assumption)
            obtain ⟨ad774, e774, hx774_0⟩ := Kd.at_int HR0.out x6_2 p774 q774
            obtain rfl : ad772 = ad774 := (by injection e774)
            replace hx774_0 := (HB.out.cell (World.block_lt_of_cell? w _ hx774_0)).trans hx774_0
            replace p774 := eq_true p774
            replace q774 := eq_true q774
            go_wp2_with (first | ((with_reducible refine gate_builtin (b := .append) (xs := #[.tmp 43, .tmp 49]) rfl ?_); (try (refine gate_guard (by rfl) ?_; dsimp only)); at_builtin; refine Kd.R_append (Kd.int .i64) (w0 := w) w.heap.size rfl (.tmp 43) (.tmp 49) 23 2 (.int .i64 0) 8 rfl Try.underlying23 info2 rfl (by decide) (by omega) u5 x5_2 (wrap64 (2 * (rd l0 x6_2))) [.int .i64 (wrap64 (2 * (rd l0 x6_2)))] (fun _ => True) (fun _ => False) rfl rfl ?aP (fun _ hk => hk.elim) ?aF ?aO ?aB ?aS ?aL ?_; (case aP => exact rfl); (case aB => exact (by repeat (first | (with_reducible first | exact HB.out | apply below_alloc | apply pw_below_drewN | apply below_drew1) | exact HB.out))); (case aF => exact (fun _ _ => trivial)); (case aO => exact (by (with_reducible repeat (first | apply Kd.R_alloc | apply Kd.R_drewN | apply Kd.R_drew)); exact HO_5.out)); (case aS => exact (below_size (by repeat (first | (with_reducible first | exact HB.out | apply below_alloc | apply pw_below_drewN | apply below_drew1) | exact HB.out)))); (case aL => have := LMc14.out; omega); intro v776 w15 ho hb hg hat; rw [← Ny775.out] at ho; have n0_ := Aside0.mk (hb); have n1_ := Aside0.mk (ho); clear HB; clear HO_5; have HB := n0_; have HO777 := n1_; clear n0_ n1_; clear ho hb hg hat))
            repeat (go_quiet (first | ((with_reducible refine gate_builtin (b := .append) (xs := #[.tmp 43, .tmp 49]) rfl ?_); (try (refine gate_guard (by rfl) ?_; dsimp only)); at_builtin; refine Kd.R_append (Kd.int .i64) (w0 := w) w.heap.size rfl (.tmp 43) (.tmp 49) 23 2 (.int .i64 0) 8 rfl Try.underlying23 info2 rfl (by decide) (by omega) u5 x5_2 (wrap64 (2 * (rd l0 x6_2))) [.int .i64 (wrap64 (2 * (rd l0 x6_2)))] (fun _ => True) (fun _ => False) rfl rfl ?aP (fun _ hk => hk.elim) ?aF ?aO ?aB ?aS ?aL ?_; (case aP => exact rfl); (case aB => exact (by repeat (first | (with_reducible first | exact HB.out | apply below_alloc | apply pw_below_drewN | apply below_drew1) | exact HB.out))); (case aF => exact (fun _ _ => trivial)); (case aO => exact (by (with_reducible repeat (first | apply Kd.R_alloc | apply Kd.R_drewN | apply Kd.R_drew)); exact HO_5.out)); (case aS => exact (below_size (by repeat (first | (with_reducible first | exact HB.out | apply below_alloc | apply pw_below_drewN | apply below_drew1) | exact HB.out)))); (case aL => have := LMc14.out; omega); intro v776 w15 ho hb hg hat; rw [← Ny775.out] at ho; have n0_ := Aside0.mk (hb); have n1_ := Aside0.mk (ho); clear HB; clear HO_5; have HB := n0_; have HO777 := n1_; clear n0_ n1_; clear ho hb hg hat)); try go_wp2_with (first | ((with_reducible refine gate_builtin (b := .append) (xs := #[.tmp 43, .tmp 49]) rfl ?_); (try (refine gate_guard (by rfl) ?_; dsimp only)); at_builtin; refine Kd.R_append (Kd.int .i64) (w0 := w) w.heap.size rfl (.tmp 43) (.tmp 49) 23 2 (.int .i64 0) 8 rfl Try.underlying23 info2 rfl (by decide) (by omega) u5 x5_2 (wrap64 (2 * (rd l0 x6_2))) [.int .i64 (wrap64 (2 * (rd l0 x6_2)))] (fun _ => True) (fun _ => False) rfl rfl ?aP (fun _ hk => hk.elim) ?aF ?aO ?aB ?aS ?aL ?_; (case aP => exact rfl); (case aB => exact (by repeat (first | (with_reducible first | exact HB.out | apply below_alloc | apply pw_below_drewN | apply below_drew1) | exact HB.out))); (case aF => exact (fun _ _ => trivial)); (case aO => exact (by (with_reducible repeat (first | apply Kd.R_alloc | apply Kd.R_drewN | apply Kd.R_drew)); exact HO_5.out)); (case aS => exact (below_size (by repeat (first | (with_reducible first | exact HB.out | apply below_alloc | apply pw_below_drewN | apply below_drew1) | exact HB.out)))); (case aL => have := LMc14.out; omega); intro v776 w15 ho hb hg hat; rw [← Ny775.out] at ho; have n0_ := Aside0.mk (hb); have n1_ := Aside0.mk (ho); clear HB; clear HO_5; have HB := n0_; have HO777 := n1_; clear n0_ n1_; clear ho hb hg hat)))
            go_roundg k2
            case measure => have := HJ4.out; have := HK2.out; omega
            case rel => exact ⟨(y775), (wrap64 (x6_2 + 1)), (by first | rfl | (simp; done) | (simp [*]; done)), H', ⟨by have := HJ4.out; have := HK2.out; omega⟩, ⟨by (with_reducible repeat (first | apply Kd.R_alloc | apply Kd.R_drewN | apply Kd.R_drew)); exact HO777.out⟩, ⟨by repeat (first | (with_reducible first | exact HB.out | apply below_alloc | apply pw_below_drewN | apply below_drew1) | exact HB.out)⟩⟩
           ·
            rw [if_neg c14] at H
            exact absurd H (by simp)
        ·
         rw [if_neg c11] at H
         exact absurd H (by simp)
       ·
        rw [if_neg c10] at H
        have c10b0 : decide (x6_2 < (l0.length : Int)) = false := decide_eq_false c10
        clear c10
        replace H := Option.bind_eq_some_iff.mp H
        obtain ⟨⟨t778, t779⟩, A160, H⟩ := H
        replace H : ((levin_Auto.f k2 x5_2 a1).bind fun bt782 => (if t779 = 0 then (if bt782.2 = 0 then (madrigallaw12_LevinTwice.j2 k2 t778 bt782.1 ((bt782.1.length : Int) != (t778.length : Int))) else (madrigallaw12_LevinTwice.j2 k2 t778 bt782.1 true)) else (madrigallaw12_LevinTwice.j2 k2 t778 bt782.1 true))) = some r := H
        have A16 := Aside0.mk A160
        clear A160
        replace H := Option.bind_eq_some_iff.mp H
        obtain ⟨⟨t782, t783⟩, A170, H⟩ := H
        replace H : (if t779 = 0 then (if t783 = 0 then (madrigallaw12_LevinTwice.j2 k2 t778 t782 ((t782.length : Int) != (t778.length : Int))) else (madrigallaw12_LevinTwice.j2 k2 t778 t782 true)) else (madrigallaw12_LevinTwice.j2 k2 t778 t782 true)) = some r := H
        have A17 := Aside0.mk A170
        clear A170
        have HC18 := Aside0.mk H
        clear H
        go_upto_region 14 with (first | (go_at_call 11; (with_reducible refine (levin_Auto.calls k2 _ _ l0 a1 t778 t779 _ ?side1 ?side2 A16.out).mono ?_); (case side1 => repeat (first | exact (Kd.C_below HR0.out HB.out) | (with_reducible refine Kd.C_alloc ?_ _) | (with_reducible refine Kd.C_drewN ?_ _) | (with_reducible refine Kd.C_drew ?_))); (case side2 => exact HC0.out); rintro e w19 ⟨v780, rfl, ho0, hb⟩; have n0_ := Aside0.mk (Kd.R_elder' (by (with_reducible repeat (first | apply Kd.R_alloc | apply Kd.R_drewN | apply Kd.R_drew)); exact HO_5.out) (Kd.R_base ho0) hb); have n1_ := Aside0.mk (Kd.R_lower (Kd.R_new' ho0 (Kd.R_lt (by (with_reducible repeat (first | apply Kd.R_alloc | apply Kd.R_drewN | apply Kd.R_drew)); exact HO_5.out))) (below_size (by repeat (first | (with_reducible first | exact HB.out | apply below_alloc | apply pw_below_drewN | apply below_drew1) | exact HB.out)))); have n2_ := Aside0.mk (below_step (by repeat (first | (with_reducible first | exact HB.out | apply below_alloc | apply pw_below_drewN | apply below_drew1) | exact HB.out)) hb); clear HO_5; clear HB; have HO_5 := n0_; have HO781 := n1_; have HB := n2_; clear n0_ n1_ n2_; (try clear hb); (try clear hb2); (try clear hk); (try clear hi); (try clear ho0); obtain ⟨Ao20, co20, eo20⟩ := Kd.R_slice HO_5.out; subst eo20) | (go_at_call 11; (with_reducible refine (levin_Auto.calls k2 _ _ x5_2 a1 t782 t783 _ ?side1 ?side2 A17.out).mono ?_); (case side1 => repeat (first | exact (Kd.R_reads' HO_5.out).2.2 | (with_reducible refine Kd.C_alloc ?_ _) | (with_reducible refine Kd.C_drewN ?_ _) | (with_reducible refine Kd.C_drew ?_))); (case side2 => exact (Kd.R_reads' HO_5.out).2.1); rintro e w21 ⟨v784, rfl, ho0, hb⟩; have n0_ := Aside0.mk (Kd.R_elder' (by (with_reducible repeat (first | apply Kd.R_alloc | apply Kd.R_drewN | apply Kd.R_drew)); exact HO_5.out) (Kd.R_base ho0) hb); have n1_ := Aside0.mk (Kd.R_elder' (by (with_reducible repeat (first | apply Kd.R_alloc | apply Kd.R_drewN | apply Kd.R_drew)); exact HO781.out) (Kd.R_base ho0) hb); have n2_ := Aside0.mk (Kd.R_lower (Kd.R_new' (Kd.R_new' ho0 (Kd.R_lt (by (with_reducible repeat (first | apply Kd.R_alloc | apply Kd.R_drewN | apply Kd.R_drew)); exact HO_5.out))) (Kd.R_lt (by (with_reducible repeat (first | apply Kd.R_alloc | apply Kd.R_drewN | apply Kd.R_drew)); exact HO781.out))) (below_size (by repeat (first | (with_reducible first | exact HB.out | apply below_alloc | apply pw_below_drewN | apply below_drew1) | exact HB.out)))); have n3_ := Aside0.mk (below_step (by repeat (first | (with_reducible first | exact HB.out | apply below_alloc | apply pw_below_drewN | apply below_drew1) | exact HB.out)) hb); clear HO_5; clear HO781; clear HB; have HO_5 := n0_; have HO781 := n1_; have HO785 := n2_; have HB := n3_; clear n0_ n1_ n2_ n3_; (try clear hb); (try clear hb2); (try clear hk); (try clear hi); (try clear ho0)))
        repeat (go_quiet (first | (go_at_call 11; (with_reducible refine (levin_Auto.calls k2 _ _ l0 a1 t778 t779 _ ?side1 ?side2 A16.out).mono ?_); (case side1 => repeat (first | exact (Kd.C_below HR0.out HB.out) | (with_reducible refine Kd.C_alloc ?_ _) | (with_reducible refine Kd.C_drewN ?_ _) | (with_reducible refine Kd.C_drew ?_))); (case side2 => exact HC0.out); rintro e w19 ⟨v780, rfl, ho0, hb⟩; have n0_ := Aside0.mk (Kd.R_elder' (by (with_reducible repeat (first | apply Kd.R_alloc | apply Kd.R_drewN | apply Kd.R_drew)); exact HO_5.out) (Kd.R_base ho0) hb); have n1_ := Aside0.mk (Kd.R_lower (Kd.R_new' ho0 (Kd.R_lt (by (with_reducible repeat (first | apply Kd.R_alloc | apply Kd.R_drewN | apply Kd.R_drew)); exact HO_5.out))) (below_size (by repeat (first | (with_reducible first | exact HB.out | apply below_alloc | apply pw_below_drewN | apply below_drew1) | exact HB.out)))); have n2_ := Aside0.mk (below_step (by repeat (first | (with_reducible first | exact HB.out | apply below_alloc | apply pw_below_drewN | apply below_drew1) | exact HB.out)) hb); clear HO_5; clear HB; have HO_5 := n0_; have HO781 := n1_; have HB := n2_; clear n0_ n1_ n2_; (try clear hb); (try clear hb2); (try clear hk); (try clear hi); (try clear ho0); obtain ⟨Ao20, co20, eo20⟩ := Kd.R_slice HO_5.out; subst eo20) | (go_at_call 11; (with_reducible refine (levin_Auto.calls k2 _ _ x5_2 a1 t782 t783 _ ?side1 ?side2 A17.out).mono ?_); (case side1 => repeat (first | exact (Kd.R_reads' HO_5.out).2.2 | (with_reducible refine Kd.C_alloc ?_ _) | (with_reducible refine Kd.C_drewN ?_ _) | (with_reducible refine Kd.C_drew ?_))); (case side2 => exact (Kd.R_reads' HO_5.out).2.1); rintro e w21 ⟨v784, rfl, ho0, hb⟩; have n0_ := Aside0.mk (Kd.R_elder' (by (with_reducible repeat (first | apply Kd.R_alloc | apply Kd.R_drewN | apply Kd.R_drew)); exact HO_5.out) (Kd.R_base ho0) hb); have n1_ := Aside0.mk (Kd.R_elder' (by (with_reducible repeat (first | apply Kd.R_alloc | apply Kd.R_drewN | apply Kd.R_drew)); exact HO781.out) (Kd.R_base ho0) hb); have n2_ := Aside0.mk (Kd.R_lower (Kd.R_new' (Kd.R_new' ho0 (Kd.R_lt (by (with_reducible repeat (first | apply Kd.R_alloc | apply Kd.R_drewN | apply Kd.R_drew)); exact HO_5.out))) (Kd.R_lt (by (with_reducible repeat (first | apply Kd.R_alloc | apply Kd.R_drewN | apply Kd.R_drew)); exact HO781.out))) (below_size (by repeat (first | (with_reducible first | exact HB.out | apply below_alloc | apply pw_below_drewN | apply below_drew1) | exact HB.out)))); have n3_ := Aside0.mk (below_step (by repeat (first | (with_reducible first | exact HB.out | apply below_alloc | apply pw_below_drewN | apply below_drew1) | exact HB.out)) hb); clear HO_5; clear HO781; clear HB; have HO_5 := n0_; have HO781 := n1_; have HO785 := n2_; have HB := n3_; clear n0_ n1_ n2_ n3_; (try clear hb); (try clear hb2); (try clear hk); (try clear hi); (try clear ho0))); go_upto_region 14 with (first | (go_at_call 11; (with_reducible refine (levin_Auto.calls k2 _ _ l0 a1 t778 t779 _ ?side1 ?side2 A16.out).mono ?_); (case side1 => repeat (first | exact (Kd.C_below HR0.out HB.out) | (with_reducible refine Kd.C_alloc ?_ _) | (with_reducible refine Kd.C_drewN ?_ _) | (with_reducible refine Kd.C_drew ?_))); (case side2 => exact HC0.out); rintro e w19 ⟨v780, rfl, ho0, hb⟩; have n0_ := Aside0.mk (Kd.R_elder' (by (with_reducible repeat (first | apply Kd.R_alloc | apply Kd.R_drewN | apply Kd.R_drew)); exact HO_5.out) (Kd.R_base ho0) hb); have n1_ := Aside0.mk (Kd.R_lower (Kd.R_new' ho0 (Kd.R_lt (by (with_reducible repeat (first | apply Kd.R_alloc | apply Kd.R_drewN | apply Kd.R_drew)); exact HO_5.out))) (below_size (by repeat (first | (with_reducible first | exact HB.out | apply below_alloc | apply pw_below_drewN | apply below_drew1) | exact HB.out)))); have n2_ := Aside0.mk (below_step (by repeat (first | (with_reducible first | exact HB.out | apply below_alloc | apply pw_below_drewN | apply below_drew1) | exact HB.out)) hb); clear HO_5; clear HB; have HO_5 := n0_; have HO781 := n1_; have HB := n2_; clear n0_ n1_ n2_; (try clear hb); (try clear hb2); (try clear hk); (try clear hi); (try clear ho0); obtain ⟨Ao20, co20, eo20⟩ := Kd.R_slice HO_5.out; subst eo20) | (go_at_call 11; (with_reducible refine (levin_Auto.calls k2 _ _ x5_2 a1 t782 t783 _ ?side1 ?side2 A17.out).mono ?_); (case side1 => repeat (first | exact (Kd.R_reads' HO_5.out).2.2 | (with_reducible refine Kd.C_alloc ?_ _) | (with_reducible refine Kd.C_drewN ?_ _) | (with_reducible refine Kd.C_drew ?_))); (case side2 => exact (Kd.R_reads' HO_5.out).2.1); rintro e w21 ⟨v784, rfl, ho0, hb⟩; have n0_ := Aside0.mk (Kd.R_elder' (by (with_reducible repeat (first | apply Kd.R_alloc | apply Kd.R_drewN | apply Kd.R_drew)); exact HO_5.out) (Kd.R_base ho0) hb); have n1_ := Aside0.mk (Kd.R_elder' (by (with_reducible repeat (first | apply Kd.R_alloc | apply Kd.R_drewN | apply Kd.R_drew)); exact HO781.out) (Kd.R_base ho0) hb); have n2_ := Aside0.mk (Kd.R_lower (Kd.R_new' (Kd.R_new' ho0 (Kd.R_lt (by (with_reducible repeat (first | apply Kd.R_alloc | apply Kd.R_drewN | apply Kd.R_drew)); exact HO_5.out))) (Kd.R_lt (by (with_reducible repeat (first | apply Kd.R_alloc | apply Kd.R_drewN | apply Kd.R_drew)); exact HO781.out))) (below_size (by repeat (first | (with_reducible first | exact HB.out | apply below_alloc | apply pw_below_drewN | apply below_drew1) | exact HB.out)))); have n3_ := Aside0.mk (below_step (by repeat (first | (with_reducible first | exact HB.out | apply below_alloc | apply pw_below_drewN | apply below_drew1) | exact HB.out)) hb); clear HO_5; clear HO781; clear HB; have HO_5 := n0_; have HO781 := n1_; have HO785 := n2_; have HB := n3_; clear n0_ n1_ n2_ n3_; (try clear hb); (try clear hb2); (try clear hk); (try clear hi); (try clear ho0))))
        (try simp only [Act.put, List.setIfInBounds_toArray, List.set_cons_zero, List.set_cons_succ])
        go_cut [75] (fun v75 wc => ∃ (kq : Nat) (x75_17 : Bool), v75 = .bool x75_17 ∧ Aside0 (madrigallaw12_LevinTwice.j2 kq t778 t782 x75_17 = some r) ∧ Aside0 (kq ≤ k2) ∧ Aside0 (Kd.R (Kd.int .i64) 2 wc w.heap.size (fun k_ => some k_ ≠ (v784 : Value).ownBlock) v780 t778) ∧ Aside0 (Kd.R (Kd.int .i64) 2 wc w.heap.size (fun k_ => some k_ ≠ (v780 : Value).ownBlock) v784 t782) ∧ Aside0 (Below w.heap.size w wc))
        case first =>
         have H := HC18.out
         clear HC18
         by_cases c22 : t779 = 0
         ·
          rw [if_pos c22] at H
          have c22b0 : (t779 == 0) = true := beq_iff_eq.mpr c22
          have c22b1 : (t779 != 0) = false := bne_eq_false_iff_eq.mpr c22
          clear c22
          (first | rw [c22b0] | (simp only [i64_w, i32_w]; rw [c22b0]) | skip)
          by_cases c23 : t783 = 0
          ·
           rw [if_pos c23] at H
           have c23b0 : (t783 == 0) = true := beq_iff_eq.mpr c23
           have c23b1 : (t783 != 0) = false := bne_eq_false_iff_eq.mpr c23
           clear c23
           have H' := Aside0.mk H
           clear H
           obtain ⟨Ao24, co24, eo24⟩ := Kd.R_slice HO785.out
           subst eo24
           obtain ⟨Ao25, co25, eo25⟩ := Kd.R_slice HO781.out
           subst eo25
           go_wp2
           repeat (go_quiet (fail); try go_wp2)
           go_meet
           case rel => exact ⟨_, (((t782.length : Int) != (t778.length : Int))), (by first | rfl | (simp; done) | (simp [*]; done)), H', ⟨by have := HJ4.out; have := HK2.out; first | omega | exact Nat.le_refl _⟩, ⟨by (with_reducible repeat (first | apply Kd.R_alloc | apply Kd.R_drewN | apply Kd.R_drew)); exact Kd.R_mono HO781.out (fun _ hk => hk.2)⟩, ⟨by (with_reducible repeat (first | apply Kd.R_alloc | apply Kd.R_drewN | apply Kd.R_drew)); exact Kd.R_mono HO785.out (fun _ hk => hk.2)⟩, ⟨by repeat (first | (with_reducible first | exact HB.out | apply below_alloc | apply pw_below_drewN | apply below_drew1) | exact HB.out)⟩⟩
          ·
           rw [if_neg c23] at H
           have c23b0 : (t783 == 0) = false := beq_eq_false_iff_ne.mpr c23
           have c23b1 : (t783 != 0) = true := bne_iff_ne.mpr c23
           have H' := Aside0.mk H
           clear H
           go_wp2
           repeat (go_quiet (fail); try go_wp2)
           go_meet
           case rel => exact ⟨_, (true), (by first | rfl | (simp; done) | (simp [*]; done)), H', ⟨by have := HJ4.out; have := HK2.out; first | omega | exact Nat.le_refl _⟩, ⟨by (with_reducible repeat (first | apply Kd.R_alloc | apply Kd.R_drewN | apply Kd.R_drew)); exact Kd.R_mono HO781.out (fun _ hk => hk.2)⟩, ⟨by (with_reducible repeat (first | apply Kd.R_alloc | apply Kd.R_drewN | apply Kd.R_drew)); exact Kd.R_mono HO785.out (fun _ hk => hk.2)⟩, ⟨by repeat (first | (with_reducible first | exact HB.out | apply below_alloc | apply pw_below_drewN | apply below_drew1) | exact HB.out)⟩⟩
         ·
          rw [if_neg c22] at H
          have c22b0 : (t779 == 0) = false := beq_eq_false_iff_ne.mpr c22
          have c22b1 : (t779 != 0) = true := bne_iff_ne.mpr c22
          (first | rw [c22b0] | (simp only [i64_w, i32_w]; rw [c22b0]) | skip)
          have H' := Aside0.mk H
          clear H
          go_wp2
          repeat (go_quiet (fail); try go_wp2)
          go_meet
          case rel => exact ⟨_, (true), (by first | rfl | (simp; done) | (simp [*]; done)), H', ⟨by have := HJ4.out; have := HK2.out; first | omega | exact Nat.le_refl _⟩, ⟨by (with_reducible repeat (first | apply Kd.R_alloc | apply Kd.R_drewN | apply Kd.R_drew)); exact Kd.R_mono HO781.out (fun _ hk => hk.2)⟩, ⟨by (with_reducible repeat (first | apply Kd.R_alloc | apply Kd.R_drewN | apply Kd.R_drew)); exact Kd.R_mono HO785.out (fun _ hk => hk.2)⟩, ⟨by repeat (first | (with_reducible first | exact HB.out | apply below_alloc | apply pw_below_drewN | apply below_drew1) | exact HB.out)⟩⟩
        case rest =>
         clear HC18
         (try clear c1); (try clear c2); (try clear p2); (try clear c4); (try clear p6); (try clear c7); (try clear c7b0); (try clear c7b0z0); (try clear c7b1); (try clear c7b1z0); (try clear p7); (try clear q7); (try clear hx7); (try clear c8); (try clear c8b0); (try clear c8b0z0); (try clear c9); (try clear c10); (try clear c10b0); (try clear c10b0z0); (try clear c11); (try clear c11b0); (try clear c11b0z0); (try clear c12); (try clear c12b0); (try clear c12b0z0); (try clear c13); (try clear c13b0); (try clear c13b0z0); (try clear c14); (try clear c22); (try clear c22b0); (try clear c22b0z0); (try clear c22b1); (try clear c22b1z0); (try clear c23); (try clear c23b0); (try clear c23b0z0); (try clear c23b1); (try clear c23b1z0); (try clear hx772_0); (try clear hx773_0); (try clear hx774_0); (try clear p2); (try clear p772); (try clear p773); (try clear p774); (try clear q772); (try clear q773); (try clear q774)
         obtain ⟨kq, x75_17, rfl, HA, HJ17, HO_7, HO_9, HB⟩ := hcut
         cases kq with
         | zero => exact absurd HA.out (by simp [madrigallaw12_LevinTwice.j2])
         | succ kj17 =>
          have H := HA.out
          clear HA
          simp only [madrigallaw12_LevinTwice.j2] at H
          by_cases c26 : x75_17 = true
          ·
           subst c26
           have H1 : (some false) = some r := by rw [if_pos rfl] at H; exact H
           clear H
           have H := H1
           clear H1
           exact absurd ((Option.some.inj H).trans HRT.out) (by simp)
          ·
           replace c26 := Bool.eq_false_iff.mpr c26
           subst c26
           have H1 : (madrigallaw12_LevinTwice.l1 kj17 t778 t782 0) = some r := by rw [if_neg (show ¬ (false = true) by decide)] at H; exact H
           clear H
           have H := H1
           clear H1
           have H' := Aside0.mk H
           clear H
           go_wp2
           repeat (go_quiet (fail); try go_wp2)
           go_loopg [11] kj17 (fun kq v11 w' => ∃ (x11_4 : Int), v11 = .int .i64 x11_4 ∧ Aside0 (madrigallaw12_LevinTwice.l1 kq t778 t782 x11_4 = some r) ∧ Aside0 (kq ≤ kj17) ∧ Aside0 (Kd.R (Kd.int .i64) 2 w' w.heap.size (fun k_ => some k_ ≠ (v784 : Value).ownBlock) v780 t778) ∧ Aside0 (Kd.R (Kd.int .i64) 2 w' w.heap.size (fun k_ => some k_ ≠ (v780 : Value).ownBlock) v784 t782) ∧ Aside0 (Below w.heap.size w w'))
           case atStart => exact ⟨(0), (by first | rfl | (simp; done) | (simp [*]; done)), H', ⟨Nat.le_refl _⟩, ⟨by (with_reducible repeat (first | apply Kd.R_alloc | apply Kd.R_drewN | apply Kd.R_drew)); exact HO_7.out⟩, ⟨by (with_reducible repeat (first | apply Kd.R_alloc | apply Kd.R_drewN | apply Kd.R_drew)); exact HO_9.out⟩, ⟨by repeat (first | (with_reducible first | exact HB.out | apply below_alloc | apply pw_below_drewN | apply below_drew1) | exact HB.out)⟩⟩
           case round =>
            clear H'
            (try clear c1); (try clear c2); (try clear p2); (try clear c4); (try clear p6); (try clear c7); (try clear c7b0); (try clear c7b0z0); (try clear c7b1); (try clear c7b1z0); (try clear p7); (try clear q7); (try clear hx7); (try clear c8); (try clear c8b0); (try clear c8b0z0); (try clear c9); (try clear c10); (try clear c10b0); (try clear c10b0z0); (try clear c11); (try clear c11b0); (try clear c11b0z0); (try clear c12); (try clear c12b0); (try clear c12b0z0); (try clear c13); (try clear c13b0); (try clear c13b0z0); (try clear c14); (try clear c22); (try clear c22b0); (try clear c22b0z0); (try clear c22b1); (try clear c22b1z0); (try clear c23); (try clear c23b0); (try clear c23b0z0); (try clear c23b1); (try clear c23b1z0); (try clear c26); (try clear hx772_0); (try clear hx773_0); (try clear hx774_0); (try clear p2); (try clear p6); (try clear p7); (try clear p772); (try clear p773); (try clear p774); (try clear q7); (try clear q772); (try clear q773); (try clear q774)
            obtain ⟨x11_4, rfl, HA, HK4, HO_7, HO_9, HB⟩ := hrel
            cases gk with
            | zero => exact absurd HA.out (by simp [madrigallaw12_LevinTwice.l1])
            | succ k4 =>
             have H := HA.out
             clear HA
             simp only [madrigallaw12_LevinTwice.l1] at H
             by_cases c27 : x11_4 < (t778.length : Int)
             ·
              rw [if_pos c27] at H
              have c27b0 : decide (x11_4 < (t778.length : Int)) = true := decide_eq_true c27
              clear c27
              by_cases c28 : 0 ≤ x11_4
              ·
               rw [if_pos c28] at H
               have c28b0 : decide (0 ≤ x11_4) = true := decide_eq_true c28
               clear c28
               by_cases c29 : x11_4 < (t782.length : Int)
               ·
                rw [if_pos c29] at H
                have c29b0 : decide (x11_4 < (t782.length : Int)) = true := decide_eq_true c29
                clear c29
                by_cases c30 : (rd t782 x11_4) = (wrap64 (4 * (rd t778 x11_4)))
                ·
                 rw [if_pos c30] at H
                 have c30b0 : ((rd t782 x11_4) == (wrap64 (4 * (rd t778 x11_4)))) = true := beq_iff_eq.mpr c30
                 have c30b1 : ((rd t782 x11_4) != (wrap64 (4 * (rd t778 x11_4)))) = false := bne_eq_false_iff_eq.mpr c30
                 clear c30
                 have H' := Aside0.mk H
                 clear H
                 obtain ⟨Ao31, co31, eo31⟩ := Kd.R_slice HO_7.out
                 subst eo31
                 obtain ⟨Ao32, co32, eo32⟩ := Kd.R_slice HO_9.out
                 subst eo32
                 have p786 : 0 ≤ (x11_4 : Int) := of_decide_eq_true (by first | (with_reducible assumption) | assumption)
                 have q786 : x11_4 < (t782.length : Int) := of_decide_eq_true (by first | (with_reducible assumption) | assumption)
                 obtain ⟨ad786, e786, hx786_0⟩ := Kd.at_int (Kd.R_reads' HO_9.out).2.2 x11_4 p786 q786
                 cases e786
                 replace p786 := eq_true p786
                 replace q786 := eq_true q786
                 have p787 : 0 ≤ (x11_4 : Int) := of_decide_eq_true (by first | (with_reducible assumption) | assumption)
                 have q787 : x11_4 < (t778.length : Int) := of_decide_eq_true (by first | (with_reducible assumption) | assumption)
                 obtain ⟨ad787, e787, hx787_0⟩ := Kd.at_int (Kd.R_reads' HO_7.out).2.2 x11_4 p787 q787
                 cases e787
                 replace p787 := eq_true p787
                 replace q787 := eq_true q787
                 go_wp2
                 repeat (go_quiet (fail); try go_wp2)
                 go_roundg k4
                 case measure => have := HJ4.out; have := HK2.out; have := HJ17.out; have := HK4.out; omega
                 case rel => exact ⟨(wrap64 (x11_4 + 1)), (by first | rfl | (simp; done) | (simp [*]; done)), H', ⟨by have := HJ4.out; have := HK2.out; have := HJ17.out; have := HK4.out; omega⟩, ⟨by (with_reducible repeat (first | apply Kd.R_alloc | apply Kd.R_drewN | apply Kd.R_drew)); exact HO_7.out⟩, ⟨by (with_reducible repeat (first | apply Kd.R_alloc | apply Kd.R_drewN | apply Kd.R_drew)); exact HO_9.out⟩, ⟨by repeat (first | (with_reducible first | exact HB.out | apply below_alloc | apply pw_below_drewN | apply below_drew1) | exact HB.out)⟩⟩
                ·
                 rw [if_neg c30] at H
                 have c30b0 : ((rd t782 x11_4) == (wrap64 (4 * (rd t778 x11_4)))) = false := beq_eq_false_iff_ne.mpr c30
                 have c30b1 : ((rd t782 x11_4) != (wrap64 (4 * (rd t778 x11_4)))) = true := bne_iff_ne.mpr c30
                 exact absurd ((Option.some.inj H).trans HRT.out) (by simp)
               ·
                rw [if_neg c29] at H
                exact absurd H (by simp)
              ·
               rw [if_neg c28] at H
               exact absurd H (by simp)
             ·
              rw [if_neg c27] at H
              have c27b0 : decide (x11_4 < (t778.length : Int)) = false := decide_eq_false c27
              clear c27
              obtain rfl := Option.some.inj H
              obtain ⟨Ao33, co33, eo33⟩ := Kd.R_slice HO_7.out
              subst eo33
              go_wp2
              repeat (go_quiet (fail); try go_wp2)
              go_ret
              exact ⟨by first | rfl | (simp [errW_none, errW_some] <;> rfl) | (simp [*, errW_none, errW_some] <;> rfl), by repeat (first | (with_reducible first | exact HB.out | apply below_alloc | apply pw_below_drewN | apply below_drew1) | exact HB.out)⟩
 ·
  replace c4 := Bool.eq_false_iff.mpr c4
  subst c4
  have H1 : (some false) = some r := by rw [if_neg (show ¬ (false = true) by decide)] at H; exact H
  clear H
  have H := H1
  clear H1
  exact absurd ((Option.some.inj H).trans HRT.out) (by simp)

/-- THE ONE PURE STATEMENT of madrigallaw12_LevinTwice: yours. -/
def madrigallaw12_LevinTwice.Pure : Prop := ∀ (l0 : List Int) (a1 : Int), l0.length ≤ maxLen → l0.length * 8 ≤ 140737488351232 → (∀ x ∈ l0, (Lit.int .i64 x).wf = true) → (Lit.int .i64 a1).wf = true → ∃ k, madrigallaw12_LevinTwice.f k l0 a1 = some true
theorem madrigallaw12_LevinTwice.walk (P : madrigallaw12_LevinTwice.Pure) (a0 : Option Addr) (len0 cap0 : Nat) (z0 : List Int) (a1 : Int) (w : World) (w0 : (a0 = none ∧ len0 = 0 ∧ cap0 = 0 ∧ z0 = []) ∨ ∃ x, a0 = some x ∧ len0 ≤ cap0 ∧ cap0 ≤ maxLen ∧ z0.length = cap0 ∧ (∀ i, i < z0.length → w.cell? (x.add i) = some (.int .i64 (z0.getD i 0))) ∧ ∀ n ∈ z0, (Lit.int .i64 n).wf = true) (y0 : len0 * 8 ≤ 140737488351232) (w1 : (Lit.int .i64 a1).wf = true) :
  Calls Try.prog 9 #[.slice a0 len0 cap0, .int .i64 a1] w fun e w' => e = .returned (.bool true) ∧ Below w.heap.size w w' := by
 obtain ⟨l0, rfl, hr0, hm0, hw0, hc0⟩ := ReadsInt.ofRowC w0
 obtain ⟨k, h⟩ := P l0 a1 hm0 y0 hw0 w1
 refine (madrigallaw12_LevinTwice.calls k _ _ l0 a1 true w (Kd.C_of_reads (d := (0 : Int)) (h1 := fun _ => rfl) hr0) hc0 rfl h).mono ?_
 rintro e w' ⟨rfl, hd⟩
 exact ⟨rfl, hd⟩

end Go.Proofs.Ytgbdkefglmjdoaa.MA
