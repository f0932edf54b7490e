/- Functions of the program as plain Lean functions, and that the code comes to their answers. No condition. -/
import Derived.Test.YtgbdkefglmjdoaaMAx0
import Derived.Test.YtgbdkefglmjdoaaMAx13
import Derived.Test.YtgbdkefglmjdoaaMAx15
namespace Go.Proofs.Ytgbdkefglmjdoaa.MA
open Go.RowKit Go.Proofs.YtgbdkefglmjdoaaW.PrintWords Go.Proofs.YtgbdkefglmjdoaaW.PrintLast Go.Proofs.YtgbdkefglmjdoaaW.PrintMore
attribute [local go_sem] max2_int min2_int max_two min_two max_three min_three max_four min_four
set_option linter.unusedVariables false
set_option linter.unusedSimpArgs false

/-! ### madrigalref6_Rest: function 20 -/
mutual
def madrigalref6_Rest.l0 : Nat → List Int → List Int → List Int → Int → Option (List Int)
 | 0, _, _, _, _ => none
 | k + 1, x0, x1, x5, x6 => if x6 < (x0.length : Int) then (if 0 ≤ x6 then (madrigalref6_Rest.l1 k x0 x1 x5 x6 (rd x0 x6) 0) else (none)) else (some x5)
def madrigalref6_Rest.l1 : Nat → List Int → List Int → List Int → Int → Int → Int → Option (List Int)
 | 0, _, _, _, _, _, _ => none
 | k + 1, x0, x1, x5, x6, x7, x8 => if x8 < (x1.length : Int) then (if x8 < x6 then (if 0 ≤ x8 then (if 0 ≤ (wrap64 ((wrap64 (x6 - 1)) - x8)) then (if (wrap64 ((wrap64 (x6 - 1)) - x8)) < (x0.length : Int) then ((madrigalref1_Mul.f k (rd x1 x8) (rd x0 (wrap64 ((wrap64 (x6 - 1)) - x8))) 12).bind fun t543 => (madrigalref6_Rest.l1 k x0 x1 x5 x6 (wrap64 (x7 - t543)) (wrap64 (x8 + 1)))) else (none)) else (none)) else (none)) else (if x5.length < 17592186044416 then (madrigalref6_Rest.l0 k x0 x1 (x5 ++ [x7]) (wrap64 (x6 + 1))) else (none))) else (if x5.length < 17592186044416 then (madrigalref6_Rest.l0 k x0 x1 (x5 ++ [x7]) (wrap64 (x6 + 1))) else (none))
end
def madrigalref6_Rest.f (k : Nat) (l0 : List Int) (l1 : List Int) : Option (List Int) := (madrigalref6_clamped.f k l0 (-32768) 32767).bind fun t534 => ((madrigalref6_clamped.f k l1 (-131072) 131072).bind fun t537 => (madrigalref6_Rest.l0 k t534 t537 ([] : List Int) 0))
set_option maxHeartbeats 8000000 in
set_option maxRecDepth 100000 in
theorem madrigalref6_Rest.calls (k : Nat) (A0 : Option Addr) (c0 : Nat) (l0 : List Int) (A1 : Option Addr) (c1 : Nat) (l1 : List Int) (r : List Int) (w : World) (hr0 : Kd.C (Kd.int .i64) w A0 l0.length l0) (hc0 : l0.length ≤ c0) (hr1 : Kd.C (Kd.int .i64) w A1 l1.length l1) (hc1 : l1.length ≤ c1) (h : madrigalref6_Rest.f k l0 l1 = some r) :
  Calls Try.prog 20 #[.slice A0 l0.length c0, .slice A1 l1.length c1] w fun e w' => ∃ v0_ : Value, e = .returned (v0_) ∧ Kd.R (Kd.int .i64) 2 w' w.heap.size (fun _ => True) v0_ r ∧ Below w.heap.size w w' := by
 have HR0 := Aside0.mk hr0; have HC0 := Aside0.mk hc0; clear hr0 hc0; have HR1 := Aside0.mk hr1; have HC1 := Aside0.mk hc1; clear hr1 hc1
 have HB := Aside0.mk (Below.refl w.heap.size w)
 have H : ((madrigalref6_clamped.f k l0 (-32768) 32767).bind fun t534 => ((madrigalref6_clamped.f k l1 (-131072) 131072).bind fun t537 => (madrigalref6_Rest.l0 k t534 t537 ([] : List Int) 0))) = some r := h
 clear h; replace H := Option.bind_eq_some_iff.mp H; obtain ⟨t534, A30, H⟩ := H
 replace H : ((madrigalref6_clamped.f k l1 (-131072) 131072).bind fun t537 => (madrigalref6_Rest.l0 k t534 t537 ([] : List Int) 0)) = some r := H
 have A3 := Aside0.mk A30; clear A30; replace H := Option.bind_eq_some_iff.mp H; obtain ⟨t537, A40, H⟩ := H
 replace H : (madrigalref6_Rest.l0 k t534 t537 ([] : List Int) 0) = some r := H
 have A4 := Aside0.mk A40; clear A40; have H' := Aside0.mk H; clear H
 go_enter Try.func20, Try.ntmps20
 go_wp2_with (first | (go_at_call 31; (with_reducible refine (madrigalref6_clamped.calls k _ _ l0 (-32768) 32767 t534 _ ?side1 ?side2 A3.out).mono ?_); (case side1 => repeat (first | exact HR0.out | (with_reducible refine Kd.C_alloc ?_ _) | (with_reducible refine Kd.C_drewN ?_ _) | (with_reducible refine Kd.C_drew ?_))); (case side2 => exact HC0.out); rintro e w5 ⟨v535, rfl, ho0, hb⟩; have n0_ := Aside0.mk (Kd.R_lower ho0 (below_size (by repeat (with_reducible first | exact HB.out | apply below_alloc | apply pw_below_drewN | apply below_drew1)))); have n1_ := Aside0.mk (below_step (by repeat (with_reducible first | exact HB.out | apply below_alloc | apply pw_below_drewN | apply below_drew1)) hb); clear HB; have HO536 := n0_; have HB := n1_; clear n0_ n1_; (try clear hb); (try clear hb2); (try clear hk); (try clear hi); (try clear ho0)) | (go_at_call 31; (with_reducible refine (madrigalref6_clamped.calls k _ _ l1 (-131072) 131072 t537 _ ?side1 ?side2 A4.out).mono ?_); (case side1 => repeat (first | exact (Kd.C_below HR1.out HB.out) | (with_reducible refine Kd.C_alloc ?_ _) | (with_reducible refine Kd.C_drewN ?_ _) | (with_reducible refine Kd.C_drew ?_))); (case side2 => exact HC1.out); rintro e w6 ⟨v538, rfl, ho0, hb⟩; have n0_ := Aside0.mk (Kd.R_elder' (by (with_reducible repeat first | apply Kd.R_alloc | apply Kd.R_drewN | apply Kd.R_drew); exact HO536.out) (Kd.R_base ho0) hb); have n1_ := Aside0.mk (Kd.R_lower (Kd.R_new' ho0 (Kd.R_lt (by (with_reducible repeat first | apply Kd.R_alloc | apply Kd.R_drewN | apply Kd.R_drew); exact HO536.out))) (below_size (by repeat (with_reducible first | exact HB.out | apply below_alloc | apply pw_below_drewN | apply below_drew1)))); have n2_ := Aside0.mk (below_step (by repeat (with_reducible first | exact HB.out | apply below_alloc | apply pw_below_drewN | apply below_drew1)) hb); clear HO536; clear HB; have HO536 := n0_; have HO539 := n1_; have HB := n2_; clear n0_ n1_ n2_; (try clear hb); (try clear hb2); (try clear hk); (try clear hi); (try clear ho0)))
 repeat (go_quiet (first | (go_at_call 31; (with_reducible refine (madrigalref6_clamped.calls k _ _ l0 (-32768) 32767 t534 _ ?side1 ?side2 A3.out).mono ?_); (case side1 => repeat (first | exact HR0.out | (with_reducible refine Kd.C_alloc ?_ _) | (with_reducible refine Kd.C_drewN ?_ _) | (with_reducible refine Kd.C_drew ?_))); (case side2 => exact HC0.out); rintro e w5 ⟨v535, rfl, ho0, hb⟩; have n0_ := Aside0.mk (Kd.R_lower ho0 (below_size (by repeat (with_reducible first | exact HB.out | apply below_alloc | apply pw_below_drewN | apply below_drew1)))); have n1_ := Aside0.mk (below_step (by repeat (with_reducible first | exact HB.out | apply below_alloc | apply pw_below_drewN | apply below_drew1)) hb); clear HB; have HO536 := n0_; have HB := n1_; clear n0_ n1_; (try clear hb); (try clear hb2); (try clear hk); (try clear hi); (try clear ho0)) | (go_at_call 31; (with_reducible refine (madrigalref6_clamped.calls k _ _ l1 (-131072) 131072 t537 _ ?side1 ?side2 A4.out).mono ?_); (case side1 => repeat (first | exact (Kd.C_below HR1.out HB.out) | (with_reducible refine Kd.C_alloc ?_ _) | (with_reducible refine Kd.C_drewN ?_ _) | (with_reducible refine Kd.C_drew ?_))); (case side2 => exact HC1.out); rintro e w6 ⟨v538, rfl, ho0, hb⟩; have n0_ := Aside0.mk (Kd.R_elder' (by (with_reducible repeat first | apply Kd.R_alloc | apply Kd.R_drewN | apply Kd.R_drew); exact HO536.out) (Kd.R_base ho0) hb); have n1_ := Aside0.mk (Kd.R_lower (Kd.R_new' ho0 (Kd.R_lt (by (with_reducible repeat first | apply Kd.R_alloc | apply Kd.R_drewN | apply Kd.R_drew); exact HO536.out))) (below_size (by repeat (with_reducible first | exact HB.out | apply below_alloc | apply pw_below_drewN | apply below_drew1)))); have n2_ := Aside0.mk (below_step (by repeat (with_reducible first | exact HB.out | apply below_alloc | apply pw_below_drewN | apply below_drew1)) hb); clear HO536; clear HB; have HO536 := n0_; have HO539 := n1_; have HB := n2_; clear n0_ n1_ n2_; (try clear hb); (try clear hb2); (try clear hk); (try clear hi); (try clear ho0))); try go_wp2_with (first | (go_at_call 31; (with_reducible refine (madrigalref6_clamped.calls k _ _ l0 (-32768) 32767 t534 _ ?side1 ?side2 A3.out).mono ?_); (case side1 => repeat (first | exact HR0.out | (with_reducible refine Kd.C_alloc ?_ _) | (with_reducible refine Kd.C_drewN ?_ _) | (with_reducible refine Kd.C_drew ?_))); (case side2 => exact HC0.out); rintro e w5 ⟨v535, rfl, ho0, hb⟩; have n0_ := Aside0.mk (Kd.R_lower ho0 (below_size (by repeat (with_reducible first | exact HB.out | apply below_alloc | apply pw_below_drewN | apply below_drew1)))); have n1_ := Aside0.mk (below_step (by repeat (with_reducible first | exact HB.out | apply below_alloc | apply pw_below_drewN | apply below_drew1)) hb); clear HB; have HO536 := n0_; have HB := n1_; clear n0_ n1_; (try clear hb); (try clear hb2); (try clear hk); (try clear hi); (try clear ho0)) | (go_at_call 31; (with_reducible refine (madrigalref6_clamped.calls k _ _ l1 (-131072) 131072 t537 _ ?side1 ?side2 A4.out).mono ?_); (case side1 => repeat (first | exact (Kd.C_below HR1.out HB.out) | (with_reducible refine Kd.C_alloc ?_ _) | (with_reducible refine Kd.C_drewN ?_ _) | (with_reducible refine Kd.C_drew ?_))); (case side2 => exact HC1.out); rintro e w6 ⟨v538, rfl, ho0, hb⟩; have n0_ := Aside0.mk (Kd.R_elder' (by (with_reducible repeat first | apply Kd.R_alloc | apply Kd.R_drewN | apply Kd.R_drew); exact HO536.out) (Kd.R_base ho0) hb); have n1_ := Aside0.mk (Kd.R_lower (Kd.R_new' ho0 (Kd.R_lt (by (with_reducible repeat first | apply Kd.R_alloc | apply Kd.R_drewN | apply Kd.R_drew); exact HO536.out))) (below_size (by repeat (with_reducible first | exact HB.out | apply below_alloc | apply pw_below_drewN | apply below_drew1)))); have n2_ := Aside0.mk (below_step (by repeat (with_reducible first | exact HB.out | apply below_alloc | apply pw_below_drewN | apply below_drew1)) hb); clear HO536; clear HB; have HO536 := n0_; have HO539 := n1_; have HB := n2_; clear n0_ n1_ n2_; (try clear hb); (try clear hb2); (try clear hk); (try clear hi); (try clear ho0))))
 go_loopg [5, 6] k (fun kq v5 v6 w' => ∃ (x5_1 : List Int) (x6_1 : Int), v6 = .int .i64 x6_1 ∧ Aside0 (madrigalref6_Rest.l0 kq t534 t537 x5_1 x6_1 = some r) ∧ Aside0 (kq ≤ k) ∧ Aside0 (Kd.R (Kd.int .i64) 2 w' w.heap.size (fun k_ => some k_ ≠ (v538 : Value).ownBlock ∧ some k_ ≠ (v5 : Value).ownBlock) v535 t534) ∧ Aside0 (Kd.R (Kd.int .i64) 2 w' w.heap.size (fun k_ => some k_ ≠ (v535 : Value).ownBlock ∧ some k_ ≠ (v5 : Value).ownBlock) v538 t537) ∧ Aside0 (Kd.R (Kd.int .i64) 2 w' w.heap.size (fun k_ => some k_ ≠ (v535 : Value).ownBlock ∧ some k_ ≠ (v538 : Value).ownBlock) v5 x5_1) ∧ Aside0 (Below w.heap.size w w'))
 case atStart => exact ⟨(([] : List Int)), (0), (by first | rfl | (simp; done) | (simp [*]; done)), H', ⟨Nat.le_refl _⟩, ⟨by (with_reducible repeat first | apply Kd.R_alloc | apply Kd.R_drewN | apply Kd.R_drew); exact Kd.R_mono HO536.out (fun _ hk => ⟨hk.2, (by simp [Value.ownBlock])⟩)⟩, ⟨by (with_reducible repeat first | apply Kd.R_alloc | apply Kd.R_drewN | apply Kd.R_drew); exact Kd.R_mono HO539.out (fun _ hk => ⟨hk.2, (by simp [Value.ownBlock])⟩)⟩, ⟨by first | exact Kd.R_nil _ _ _ _ _ | exact Kd.N_nil _ _ _ _ _ | exact Kd.V_nil _ _ _ _ _ | exact Kd.Q_nil _ _ _ _ _ | exact Kd.S_nil _ _ _ _ _⟩, ⟨by repeat (with_reducible first | exact HB.out | apply below_alloc | apply pw_below_drewN | apply below_drew1)⟩⟩
 case round =>
  clear H'
  (try clear c1); (try clear c2); (try clear p2)
  obtain ⟨x5_1, x6_1, rfl, HA, HK1, HO_0, HO_1, HO_5, HB⟩ := hrel
  cases gk with
  | zero => exact absurd HA.out (by simp [madrigalref6_Rest.l0])
  | succ k1 =>
   have H := HA.out; clear HA
   simp only [madrigalref6_Rest.l0] at H
   by_cases c7 : x6_1 < (t534.length : Int)
   ·
    rw [if_pos c7] at H; have c7b0 : decide (x6_1 < (t534.length : Int)) = true := decide_eq_true c7; clear c7
    by_cases c8 : 0 ≤ x6_1; rotate_left
    · rw [if_neg c8] at H; exact absurd H (by simp)
    rw [if_pos c8] at H; have c8b0 : decide (0 ≤ x6_1) = true := decide_eq_true c8; clear c8; have H' := Aside0.mk H; clear H
    obtain ⟨Ao9, co9, eo9⟩ := Kd.R_slice HO_0.out
    subst eo9; have p540 : 0 ≤ (x6_1 : Int) := of_decide_eq_true (by first | (with_reducible assumption) | assumption); have q540 : x6_1 < (t534.length : Int) := of_decide_eq_true (by first | (with_reducible assumption) | assumption)
    obtain ⟨ad540, e540, hx540_0⟩ := Kd.at_int (Kd.R_reads' HO_0.out).2.2 x6_1 p540 q540
    cases e540; replace p540 := eq_true p540; replace q540 := eq_true q540
    go_wp2
    repeat (go_quiet (fail); try go_wp2)
    go_loopg [7, 8] k1 (fun kq v7 v8 w' => ∃ (x7_2 : Int) (x8_2 : Int), v7 = .int .i64 x7_2 ∧ v8 = .int .i64 x8_2 ∧ Aside0 (madrigalref6_Rest.l1 kq t534 t537 x5_1 x6_1 x7_2 x8_2 = some r) ∧ Aside0 (kq ≤ k1) ∧ Aside0 (Kd.R (Kd.int .i64) 2 w' w.heap.size (fun k_ => some k_ ≠ (v538 : Value).ownBlock ∧ some k_ ≠ (u5 : Value).ownBlock) (.slice (some ad540) t534.length co9) t534) ∧ Aside0 (Kd.R (Kd.int .i64) 2 w' w.heap.size (fun k_ => some k_ ≠ ((.slice (some ad540) t534.length co9) : Value).ownBlock ∧ some k_ ≠ (u5 : Value).ownBlock) v538 t537) ∧ Aside0 (Kd.R (Kd.int .i64) 2 w' w.heap.size (fun k_ => some k_ ≠ ((.slice (some ad540) t534.length co9) : Value).ownBlock ∧ some k_ ≠ (v538 : Value).ownBlock) u5 x5_1) ∧ Aside0 (Below w.heap.size w w'))
    case atStart => exact ⟨(rd t534 x6_1), (0), (by first | rfl | (simp; done) | (simp [*]; done)), (by first | rfl | (simp; done) | (simp [*]; done)), H', ⟨Nat.le_refl _⟩, ⟨by (with_reducible repeat first | apply Kd.R_alloc | apply Kd.R_drewN | apply Kd.R_drew); exact HO_0.out⟩, ⟨by (with_reducible repeat first | apply Kd.R_alloc | apply Kd.R_drewN | apply Kd.R_drew); exact HO_1.out⟩, ⟨by (with_reducible repeat first | apply Kd.R_alloc | apply Kd.R_drewN | apply Kd.R_drew); exact HO_5.out⟩, ⟨by repeat (with_reducible first | exact HB.out | apply below_alloc | apply pw_below_drewN | apply below_drew1)⟩⟩
    case round =>
     clear H'
     (try clear c1); (try clear c2); (try clear p2); (try clear p5); (try clear q5); (try clear hx5); (try clear c7); (try clear c7b0); (try clear c7b0z0); (try clear c8); (try clear c8b0); (try clear c8b0z0); (try clear hx540_0); (try clear p2); (try clear p540); (try clear q540)
     obtain ⟨x7_2, x8_2, rfl, rfl, HA, HK2, HO_0, HO_1, HO_5, HB⟩ := hrel
     cases gk with
     | zero => exact absurd HA.out (by simp [madrigalref6_Rest.l1])
     | succ k2 =>
      have H := HA.out; clear HA
      simp only [madrigalref6_Rest.l1] at H
      by_cases c10 : x8_2 < (t537.length : Int)
      ·
       rw [if_pos c10] at H; have c10b0 : decide (x8_2 < (t537.length : Int)) = true := decide_eq_true c10; clear c10
       by_cases c11 : x8_2 < x6_1
       ·
        rw [if_pos c11] at H; have c11b0 : decide (x8_2 < x6_1) = true := decide_eq_true c11; clear c11
        by_cases c12 : 0 ≤ x8_2; rotate_left
        · rw [if_neg c12] at H; exact absurd H (by simp)
        rw [if_pos c12] at H; have c12b0 : decide (0 ≤ x8_2) = true := decide_eq_true c12; clear c12
        obtain ⟨ji13, hji13⟩ : ∃ j_ : Int, (wrap64 ((wrap64 (x6_1 - 1)) - x8_2)) = j_ := ⟨_, rfl⟩
        replace H : (if 0 ≤ (ji13) then (if (ji13) < (t534.length : Int) then ((madrigalref1_Mul.f k2 (rd t537 x8_2) (rd t534 (ji13)) 12).bind fun t543 => (madrigalref6_Rest.l1 k2 t534 t537 x5_1 x6_1 (wrap64 (x7_2 - t543)) (wrap64 (x8_2 + 1)))) else (none)) else (none)) = some r := by first | (rw [hji13] at H; exact H) | (simp only [hji13] at H ⊢; exact H)
        have hji13w : (IntKind.i64.wrap ((wrap64 (x6_1 - 1)) - x8_2)) = ji13 := (i64_w _).trans hji13
        by_cases c14 : 0 ≤ (ji13); rotate_left
        · rw [if_neg c14] at H; exact absurd H (by simp)
        rw [if_pos c14] at H; have c14b0 : decide (0 ≤ (ji13)) = true := decide_eq_true c14; clear c14
        by_cases c15 : (ji13) < (t534.length : Int); rotate_left
        · rw [if_neg c15] at H; exact absurd H (by simp)
        rw [if_pos c15] at H; have c15b0 : decide ((ji13) < (t534.length : Int)) = true := decide_eq_true c15; clear c15; replace H := Option.bind_eq_some_iff.mp H; obtain ⟨t543, A160, H⟩ := H
        replace H : (madrigalref6_Rest.l1 k2 t534 t537 x5_1 x6_1 (wrap64 (x7_2 - t543)) (wrap64 (x8_2 + 1))) = some r := H
        have A16 := Aside0.mk A160; clear A160; have H' := Aside0.mk H; clear H
        obtain ⟨Ao17, co17, eo17⟩ := Kd.R_slice HO_1.out
        subst eo17; have p541 : 0 ≤ (x8_2 : Int) := of_decide_eq_true (by first | (with_reducible assumption) | assumption); have q541 : x8_2 < (t537.length : Int) := of_decide_eq_true (by first | (with_reducible assumption) | assumption)
        obtain ⟨ad541, e541, hx541_0⟩ := Kd.at_int (Kd.R_reads' HO_1.out).2.2 x8_2 p541 q541
        cases e541; replace p541 := eq_true p541; replace q541 := eq_true q541; have p542 : 0 ≤ ((ji13) : Int) := of_decide_eq_true (by first | (with_reducible assumption) | assumption); have q542 : (ji13) < (t534.length : Int) := of_decide_eq_true (by first | (with_reducible assumption) | assumption)
        obtain ⟨ad542, e542, hx542_0⟩ := Kd.at_int (Kd.R_reads' HO_0.out).2.2 (ji13) p542 q542
        obtain rfl : ad540 = ad542 := (by injection e542)
        replace p542 := eq_true p542; replace q542 := eq_true q542
        go_wp2_with (first | (go_at_call 34; (with_reducible refine (madrigalref1_Mul.calls k2 (rd t537 x8_2) (rd t534 (ji13)) 12 t543 _ A16.out).mono ?_); rintro e w' ⟨rfl, ⟨nd, rfl⟩⟩; (try first | exact ⟨rfl, _, World.drewN_drewN _ _ _⟩ | exact ⟨rfl, _, Eq.trans (World.drewN_drewN _ _ _) (congrArg (World.drewN _) (Nat.add_assoc _ _ _))⟩)))
        repeat (go_quiet (first | (go_at_call 34; (with_reducible refine (madrigalref1_Mul.calls k2 (rd t537 x8_2) (rd t534 (ji13)) 12 t543 _ A16.out).mono ?_); rintro e w' ⟨rfl, ⟨nd, rfl⟩⟩; (try first | exact ⟨rfl, _, World.drewN_drewN _ _ _⟩ | exact ⟨rfl, _, Eq.trans (World.drewN_drewN _ _ _) (congrArg (World.drewN _) (Nat.add_assoc _ _ _))⟩))); try go_wp2_with (first | (go_at_call 34; (with_reducible refine (madrigalref1_Mul.calls k2 (rd t537 x8_2) (rd t534 (ji13)) 12 t543 _ A16.out).mono ?_); rintro e w' ⟨rfl, ⟨nd, rfl⟩⟩; (try first | exact ⟨rfl, _, World.drewN_drewN _ _ _⟩ | exact ⟨rfl, _, Eq.trans (World.drewN_drewN _ _ _) (congrArg (World.drewN _) (Nat.add_assoc _ _ _))⟩))))
        go_roundg k2
        case measure => have := HK1.out; have := HK2.out; omega
        case rel => exact ⟨(wrap64 (x7_2 - t543)), (wrap64 (x8_2 + 1)), (by first | rfl | (simp; done) | (simp [*]; done)), (by first | rfl | (simp; done) | (simp [*]; done)), H', ⟨by have := HK1.out; have := HK2.out; omega⟩, ⟨by (with_reducible repeat first | apply Kd.R_alloc | apply Kd.R_drewN | apply Kd.R_drew); exact HO_0.out⟩, ⟨by (with_reducible repeat first | apply Kd.R_alloc | apply Kd.R_drewN | apply Kd.R_drew); exact HO_1.out⟩, ⟨by (with_reducible repeat first | apply Kd.R_alloc | apply Kd.R_drewN | apply Kd.R_drew); exact HO_5.out⟩, ⟨by repeat (with_reducible first | exact HB.out | apply below_alloc | apply pw_below_drewN | apply below_drew1)⟩⟩
       ·
        rw [if_neg c11] at H; have c11b0 : decide (x8_2 < x6_1) = false := decide_eq_false c11; clear c11
        by_cases c18 : x5_1.length < 17592186044416; rotate_left
        · rw [if_neg c18] at H; exact absurd H (by simp)
        rw [if_pos c18] at H; have LMc18 := Aside0.mk c18; clear c18
        obtain ⟨y544, hy544⟩ : ∃ y_ : List Int, y_ = (x5_1 ++ [x7_2]) := ⟨_, rfl⟩
        replace H : (madrigalref6_Rest.l0 k2 t534 t537 y544 (wrap64 (x6_1 + 1))) = some r := by first | (rw [hy544]; with_reducible exact H) | (have H2_ := (Option.bind_some _ _).symm.trans H; rw [hy544]; with_reducible exact H2_) | (have H2_ := (Option.bind_some _ _).symm.trans H; with_reducible exact H2_) | with_reducible exact H | (rw [hy544]; exact H) | exact H
        have Ny544 := Aside0.mk hy544; clear hy544; have H' := Aside0.mk H; clear H
        obtain ⟨Ao19, co19, eo19⟩ := Kd.R_slice HO_1.out
        subst eo19
        go_wp2_with (first | ((with_reducible refine gate_builtin (b := .append) (xs := #[.tmp 48, .tmp 50]) rfl ?_); at_builtin; refine Kd.R_append (Kd.int .i64) (w0 := w) w.heap.size rfl (.tmp 48) (.tmp 50) 23 2 (.int .i64 0) 8 rfl Try.underlying23 info2 rfl (by decide) (by omega) u5 x5_1 x7_2 [.int .i64 x7_2] (fun k_ => some k_ ≠ (.slice (some ad540) t534.length co9 : Value).ownBlock ∧ some k_ ≠ (.slice Ao19 t537.length co19 : Value).ownBlock) (fun _ => False) rfl rfl ?aP (fun _ hk => hk.elim) ?aF ?aO ?aB ?aS ?aL ?_; (case aP => exact rfl); (case aB => exact (by repeat (with_reducible first | exact HB.out | apply below_alloc | apply pw_below_drewN | apply below_drew1))); (case aF => exact (fun k_ hk => ⟨Kd.fresh' (Kd.R_lt (by (with_reducible repeat first | apply Kd.R_alloc | apply Kd.R_drewN | apply Kd.R_drew); exact HO_0.out)) k_ hk, Kd.fresh' (Kd.R_lt (by (with_reducible repeat first | apply Kd.R_alloc | apply Kd.R_drewN | apply Kd.R_drew); exact HO_1.out)) k_ hk⟩)); (case aO => exact (by (with_reducible repeat first | apply Kd.R_alloc | apply Kd.R_drewN | apply Kd.R_drew); exact HO_5.out)); (case aS => exact (below_size (by repeat (with_reducible first | exact HB.out | apply below_alloc | apply pw_below_drewN | apply below_drew1)))); (case aL => have := LMc18.out; omega); intro v545 w20 ho hb hg hat; rw [← Ny544.out] at ho; have n0_ := Aside0.mk (Kd.R_after (ok := (fun k_ => some k_ ≠ (.slice Ao19 t537.length co19 : Value).ownBlock)) (by (with_reducible repeat first | apply Kd.R_alloc | apply Kd.R_drewN | apply Kd.R_drew); exact HO_0.out) hg hat); have n1_ := Aside0.mk (Kd.R_after (ok := (fun k_ => some k_ ≠ (.slice (some ad540) t534.length co9 : Value).ownBlock)) (by (with_reducible repeat first | apply Kd.R_alloc | apply Kd.R_drewN | apply Kd.R_drew); exact HO_1.out) hg hat); have n2_ := Aside0.mk (hb); have n3_ := Aside0.mk (ho); clear HO_0; clear HO_1; clear HB; clear HO_5; have HO_0 := n0_; have HO_1 := n1_; have HB := n2_; have HO546 := n3_; clear n0_ n1_ n2_ n3_; clear ho hb hg hat))
        repeat (go_quiet (first | ((with_reducible refine gate_builtin (b := .append) (xs := #[.tmp 48, .tmp 50]) rfl ?_); at_builtin; refine Kd.R_append (Kd.int .i64) (w0 := w) w.heap.size rfl (.tmp 48) (.tmp 50) 23 2 (.int .i64 0) 8 rfl Try.underlying23 info2 rfl (by decide) (by omega) u5 x5_1 x7_2 [.int .i64 x7_2] (fun k_ => some k_ ≠ (.slice (some ad540) t534.length co9 : Value).ownBlock ∧ some k_ ≠ (.slice Ao19 t537.length co19 : Value).ownBlock) (fun _ => False) rfl rfl ?aP (fun _ hk => hk.elim) ?aF ?aO ?aB ?aS ?aL ?_; (case aP => exact rfl); (case aB => exact (by repeat (with_reducible first | exact HB.out | apply below_alloc | apply pw_below_drewN | apply below_drew1))); (case aF => exact (fun k_ hk => ⟨Kd.fresh' (Kd.R_lt (by (with_reducible repeat first | apply Kd.R_alloc | apply Kd.R_drewN | apply Kd.R_drew); exact HO_0.out)) k_ hk, Kd.fresh' (Kd.R_lt (by (with_reducible repeat first | apply Kd.R_alloc | apply Kd.R_drewN | apply Kd.R_drew); exact HO_1.out)) k_ hk⟩)); (case aO => exact (by (with_reducible repeat first | apply Kd.R_alloc | apply Kd.R_drewN | apply Kd.R_drew); exact HO_5.out)); (case aS => exact (below_size (by repeat (with_reducible first | exact HB.out | apply below_alloc | apply pw_below_drewN | apply below_drew1)))); (case aL => have := LMc18.out; omega); intro v545 w20 ho hb hg hat; rw [← Ny544.out] at ho; have n0_ := Aside0.mk (Kd.R_after (ok := (fun k_ => some k_ ≠ (.slice Ao19 t537.length co19 : Value).ownBlock)) (by (with_reducible repeat first | apply Kd.R_alloc | apply Kd.R_drewN | apply Kd.R_drew); exact HO_0.out) hg hat); have n1_ := Aside0.mk (Kd.R_after (ok := (fun k_ => some k_ ≠ (.slice (some ad540) t534.length co9 : Value).ownBlock)) (by (with_reducible repeat first | apply Kd.R_alloc | apply Kd.R_drewN | apply Kd.R_drew); exact HO_1.out) hg hat); have n2_ := Aside0.mk (hb); have n3_ := Aside0.mk (ho); clear HO_0; clear HO_1; clear HB; clear HO_5; have HO_0 := n0_; have HO_1 := n1_; have HB := n2_; have HO546 := n3_; clear n0_ n1_ n2_ n3_; clear ho hb hg hat)); try go_wp2_with (first | ((with_reducible refine gate_builtin (b := .append) (xs := #[.tmp 48, .tmp 50]) rfl ?_); at_builtin; refine Kd.R_append (Kd.int .i64) (w0 := w) w.heap.size rfl (.tmp 48) (.tmp 50) 23 2 (.int .i64 0) 8 rfl Try.underlying23 info2 rfl (by decide) (by omega) u5 x5_1 x7_2 [.int .i64 x7_2] (fun k_ => some k_ ≠ (.slice (some ad540) t534.length co9 : Value).ownBlock ∧ some k_ ≠ (.slice Ao19 t537.length co19 : Value).ownBlock) (fun _ => False) rfl rfl ?aP (fun _ hk => hk.elim) ?aF ?aO ?aB ?aS ?aL ?_; (case aP => exact rfl); (case aB => exact (by repeat (with_reducible first | exact HB.out | apply below_alloc | apply pw_below_drewN | apply below_drew1))); (case aF => exact (fun k_ hk => ⟨Kd.fresh' (Kd.R_lt (by (with_reducible repeat first | apply Kd.R_alloc | apply Kd.R_drewN | apply Kd.R_drew); exact HO_0.out)) k_ hk, Kd.fresh' (Kd.R_lt (by (with_reducible repeat first | apply Kd.R_alloc | apply Kd.R_drewN | apply Kd.R_drew); exact HO_1.out)) k_ hk⟩)); (case aO => exact (by (with_reducible repeat first | apply Kd.R_alloc | apply Kd.R_drewN | apply Kd.R_drew); exact HO_5.out)); (case aS => exact (below_size (by repeat (with_reducible first | exact HB.out | apply below_alloc | apply pw_below_drewN | apply below_drew1)))); (case aL => have := LMc18.out; omega); intro v545 w20 ho hb hg hat; rw [← Ny544.out] at ho; have n0_ := Aside0.mk (Kd.R_after (ok := (fun k_ => some k_ ≠ (.slice Ao19 t537.length co19 : Value).ownBlock)) (by (with_reducible repeat first | apply Kd.R_alloc | apply Kd.R_drewN | apply Kd.R_drew); exact HO_0.out) hg hat); have n1_ := Aside0.mk (Kd.R_after (ok := (fun k_ => some k_ ≠ (.slice (some ad540) t534.length co9 : Value).ownBlock)) (by (with_reducible repeat first | apply Kd.R_alloc | apply Kd.R_drewN | apply Kd.R_drew); exact HO_1.out) hg hat); have n2_ := Aside0.mk (hb); have n3_ := Aside0.mk (ho); clear HO_0; clear HO_1; clear HB; clear HO_5; have HO_0 := n0_; have HO_1 := n1_; have HB := n2_; have HO546 := n3_; clear n0_ n1_ n2_ n3_; clear ho hb hg hat)))
        go_roundg k2
        case measure => have := HK1.out; have := HK2.out; omega
        case rel => exact ⟨(y544), (wrap64 (x6_1 + 1)), (by first | rfl | (simp; done) | (simp [*]; done)), H', ⟨by have := HK1.out; have := HK2.out; omega⟩, ⟨by (with_reducible repeat first | apply Kd.R_alloc | apply Kd.R_drewN | apply Kd.R_drew); exact HO_0.out⟩, ⟨by (with_reducible repeat first | apply Kd.R_alloc | apply Kd.R_drewN | apply Kd.R_drew); exact HO_1.out⟩, ⟨by (with_reducible repeat first | apply Kd.R_alloc | apply Kd.R_drewN | apply Kd.R_drew); exact HO546.out⟩, ⟨by repeat (with_reducible first | exact HB.out | apply below_alloc | apply pw_below_drewN | apply below_drew1)⟩⟩
      ·
       rw [if_neg c10] at H; have c10b0 : decide (x8_2 < (t537.length : Int)) = false := decide_eq_false c10; clear c10
       by_cases c21 : x5_1.length < 17592186044416; rotate_left
       · rw [if_neg c21] at H; exact absurd H (by simp)
       rw [if_pos c21] at H; have LMc21 := Aside0.mk c21; clear c21
       obtain ⟨y547, hy547⟩ : ∃ y_ : List Int, y_ = (x5_1 ++ [x7_2]) := ⟨_, rfl⟩
       replace H : (madrigalref6_Rest.l0 k2 t534 t537 y547 (wrap64 (x6_1 + 1))) = some r := by first | (rw [hy547]; with_reducible exact H) | (have H2_ := (Option.bind_some _ _).symm.trans H; rw [hy547]; with_reducible exact H2_) | (have H2_ := (Option.bind_some _ _).symm.trans H; with_reducible exact H2_) | with_reducible exact H | (rw [hy547]; exact H) | exact H
       have Ny547 := Aside0.mk hy547; clear hy547; have H' := Aside0.mk H; clear H
       obtain ⟨Ao22, co22, eo22⟩ := Kd.R_slice HO_1.out
       subst eo22
       go_wp2_with (first | ((with_reducible refine gate_builtin (b := .append) (xs := #[.tmp 48, .tmp 50]) rfl ?_); at_builtin; refine Kd.R_append (Kd.int .i64) (w0 := w) w.heap.size rfl (.tmp 48) (.tmp 50) 23 2 (.int .i64 0) 8 rfl Try.underlying23 info2 rfl (by decide) (by omega) u5 x5_1 x7_2 [.int .i64 x7_2] (fun k_ => some k_ ≠ (.slice (some ad540) t534.length co9 : Value).ownBlock ∧ some k_ ≠ (.slice Ao22 t537.length co22 : Value).ownBlock) (fun _ => False) rfl rfl ?aP (fun _ hk => hk.elim) ?aF ?aO ?aB ?aS ?aL ?_; (case aP => exact rfl); (case aB => exact (by repeat (with_reducible first | exact HB.out | apply below_alloc | apply pw_below_drewN | apply below_drew1))); (case aF => exact (fun k_ hk => ⟨Kd.fresh' (Kd.R_lt (by (with_reducible repeat first | apply Kd.R_alloc | apply Kd.R_drewN | apply Kd.R_drew); exact HO_0.out)) k_ hk, Kd.fresh' (Kd.R_lt (by (with_reducible repeat first | apply Kd.R_alloc | apply Kd.R_drewN | apply Kd.R_drew); exact HO_1.out)) k_ hk⟩)); (case aO => exact (by (with_reducible repeat first | apply Kd.R_alloc | apply Kd.R_drewN | apply Kd.R_drew); exact HO_5.out)); (case aS => exact (below_size (by repeat (with_reducible first | exact HB.out | apply below_alloc | apply pw_below_drewN | apply below_drew1)))); (case aL => have := LMc21.out; omega); intro v548 w23 ho hb hg hat; rw [← Ny547.out] at ho; have n0_ := Aside0.mk (Kd.R_after (ok := (fun k_ => some k_ ≠ (.slice Ao22 t537.length co22 : Value).ownBlock)) (by (with_reducible repeat first | apply Kd.R_alloc | apply Kd.R_drewN | apply Kd.R_drew); exact HO_0.out) hg hat); have n1_ := Aside0.mk (Kd.R_after (ok := (fun k_ => some k_ ≠ (.slice (some ad540) t534.length co9 : Value).ownBlock)) (by (with_reducible repeat first | apply Kd.R_alloc | apply Kd.R_drewN | apply Kd.R_drew); exact HO_1.out) hg hat); have n2_ := Aside0.mk (hb); have n3_ := Aside0.mk (ho); clear HO_0; clear HO_1; clear HB; clear HO_5; have HO_0 := n0_; have HO_1 := n1_; have HB := n2_; have HO549 := n3_; clear n0_ n1_ n2_ n3_; clear ho hb hg hat))
       repeat (go_quiet (first | ((with_reducible refine gate_builtin (b := .append) (xs := #[.tmp 48, .tmp 50]) rfl ?_); at_builtin; refine Kd.R_append (Kd.int .i64) (w0 := w) w.heap.size rfl (.tmp 48) (.tmp 50) 23 2 (.int .i64 0) 8 rfl Try.underlying23 info2 rfl (by decide) (by omega) u5 x5_1 x7_2 [.int .i64 x7_2] (fun k_ => some k_ ≠ (.slice (some ad540) t534.length co9 : Value).ownBlock ∧ some k_ ≠ (.slice Ao22 t537.length co22 : Value).ownBlock) (fun _ => False) rfl rfl ?aP (fun _ hk => hk.elim) ?aF ?aO ?aB ?aS ?aL ?_; (case aP => exact rfl); (case aB => exact (by repeat (with_reducible first | exact HB.out | apply below_alloc | apply pw_below_drewN | apply below_drew1))); (case aF => exact (fun k_ hk => ⟨Kd.fresh' (Kd.R_lt (by (with_reducible repeat first | apply Kd.R_alloc | apply Kd.R_drewN | apply Kd.R_drew); exact HO_0.out)) k_ hk, Kd.fresh' (Kd.R_lt (by (with_reducible repeat first | apply Kd.R_alloc | apply Kd.R_drewN | apply Kd.R_drew); exact HO_1.out)) k_ hk⟩)); (case aO => exact (by (with_reducible repeat first | apply Kd.R_alloc | apply Kd.R_drewN | apply Kd.R_drew); exact HO_5.out)); (case aS => exact (below_size (by repeat (with_reducible first | exact HB.out | apply below_alloc | apply pw_below_drewN | apply below_drew1)))); (case aL => have := LMc21.out; omega); intro v548 w23 ho hb hg hat; rw [← Ny547.out] at ho; have n0_ := Aside0.mk (Kd.R_after (ok := (fun k_ => some k_ ≠ (.slice Ao22 t537.length co22 : Value).ownBlock)) (by (with_reducible repeat first | apply Kd.R_alloc | apply Kd.R_drewN | apply Kd.R_drew); exact HO_0.out) hg hat); have n1_ := Aside0.mk (Kd.R_after (ok := (fun k_ => some k_ ≠ (.slice (some ad540) t534.length co9 : Value).ownBlock)) (by (with_reducible repeat first | apply Kd.R_alloc | apply Kd.R_drewN | apply Kd.R_drew); exact HO_1.out) hg hat); have n2_ := Aside0.mk (hb); have n3_ := Aside0.mk (ho); clear HO_0; clear HO_1; clear HB; clear HO_5; have HO_0 := n0_; have HO_1 := n1_; have HB := n2_; have HO549 := n3_; clear n0_ n1_ n2_ n3_; clear ho hb hg hat)); try go_wp2_with (first | ((with_reducible refine gate_builtin (b := .append) (xs := #[.tmp 48, .tmp 50]) rfl ?_); at_builtin; refine Kd.R_append (Kd.int .i64) (w0 := w) w.heap.size rfl (.tmp 48) (.tmp 50) 23 2 (.int .i64 0) 8 rfl Try.underlying23 info2 rfl (by decide) (by omega) u5 x5_1 x7_2 [.int .i64 x7_2] (fun k_ => some k_ ≠ (.slice (some ad540) t534.length co9 : Value).ownBlock ∧ some k_ ≠ (.slice Ao22 t537.length co22 : Value).ownBlock) (fun _ => False) rfl rfl ?aP (fun _ hk => hk.elim) ?aF ?aO ?aB ?aS ?aL ?_; (case aP => exact rfl); (case aB => exact (by repeat (with_reducible first | exact HB.out | apply below_alloc | apply pw_below_drewN | apply below_drew1))); (case aF => exact (fun k_ hk => ⟨Kd.fresh' (Kd.R_lt (by (with_reducible repeat first | apply Kd.R_alloc | apply Kd.R_drewN | apply Kd.R_drew); exact HO_0.out)) k_ hk, Kd.fresh' (Kd.R_lt (by (with_reducible repeat first | apply Kd.R_alloc | apply Kd.R_drewN | apply Kd.R_drew); exact HO_1.out)) k_ hk⟩)); (case aO => exact (by (with_reducible repeat first | apply Kd.R_alloc | apply Kd.R_drewN | apply Kd.R_drew); exact HO_5.out)); (case aS => exact (below_size (by repeat (with_reducible first | exact HB.out | apply below_alloc | apply pw_below_drewN | apply below_drew1)))); (case aL => have := LMc21.out; omega); intro v548 w23 ho hb hg hat; rw [← Ny547.out] at ho; have n0_ := Aside0.mk (Kd.R_after (ok := (fun k_ => some k_ ≠ (.slice Ao22 t537.length co22 : Value).ownBlock)) (by (with_reducible repeat first | apply Kd.R_alloc | apply Kd.R_drewN | apply Kd.R_drew); exact HO_0.out) hg hat); have n1_ := Aside0.mk (Kd.R_after (ok := (fun k_ => some k_ ≠ (.slice (some ad540) t534.length co9 : Value).ownBlock)) (by (with_reducible repeat first | apply Kd.R_alloc | apply Kd.R_drewN | apply Kd.R_drew); exact HO_1.out) hg hat); have n2_ := Aside0.mk (hb); have n3_ := Aside0.mk (ho); clear HO_0; clear HO_1; clear HB; clear HO_5; have HO_0 := n0_; have HO_1 := n1_; have HB := n2_; have HO549 := n3_; clear n0_ n1_ n2_ n3_; clear ho hb hg hat)))
       go_roundg k2
       case measure => have := HK1.out; have := HK2.out; omega
       case rel => exact ⟨(y547), (wrap64 (x6_1 + 1)), (by first | rfl | (simp; done) | (simp [*]; done)), H', ⟨by have := HK1.out; have := HK2.out; omega⟩, ⟨by (with_reducible repeat first | apply Kd.R_alloc | apply Kd.R_drewN | apply Kd.R_drew); exact HO_0.out⟩, ⟨by (with_reducible repeat first | apply Kd.R_alloc | apply Kd.R_drewN | apply Kd.R_drew); exact HO_1.out⟩, ⟨by (with_reducible repeat first | apply Kd.R_alloc | apply Kd.R_drewN | apply Kd.R_drew); exact HO549.out⟩, ⟨by repeat (with_reducible first | exact HB.out | apply below_alloc | apply pw_below_drewN | apply below_drew1)⟩⟩
   ·
    rw [if_neg c7] at H; have c7b0 : decide (x6_1 < (t534.length : Int)) = false := decide_eq_false c7; clear c7
    obtain rfl := Option.some.inj H
    obtain ⟨Ao24, co24, eo24⟩ := Kd.R_slice HO_0.out
    subst eo24
    go_wp2
    repeat (go_quiet (fail); try go_wp2)
    go_ret
    exact ⟨_, by first | rfl | (simp [errW_none, errW_some] <;> rfl) | (simp [*, errW_none, errW_some] <;> rfl), by (with_reducible repeat first | apply Kd.R_alloc | apply Kd.R_drewN | apply Kd.R_drew); exact Kd.R_mono HO_5.out (fun _ hk => trivial), by repeat (with_reducible first | exact HB.out | apply below_alloc | apply pw_below_drewN | apply below_drew1)⟩

/-! ### madrigalref6_Power: function 21 -/
def madrigalref6_Power.l0 : Nat → List Int → Int → Int → Option (Int)
 | 0, _, _, _ => none
 | k + 1, x0, x3, x4 => if x4 < (x0.length : Int) then (if x4 < 960 then (if 0 ≤ x4 then ((madrigalref1_Clamp.f k (rd x0 x4) (-1048576) 1048576).bind fun t551 => (madrigalref6_Power.l0 k x0 (wrap64 (x3 + (wrap64 (t551 * t551)))) (wrap64 (x4 + 1)))) else (none)) else (some x3)) else (some x3)
def madrigalref6_Power.f (k : Nat) (l0 : List Int) : Option (Int) := madrigalref6_Power.l0 k l0 0 0
set_option maxHeartbeats 8000000 in
set_option maxRecDepth 100000 in
theorem madrigalref6_Power.calls (k : Nat) (A0 : Option Addr) (c0 : Nat) (l0 : List Int) (r : Int) (w : World) (hr0 : Kd.C (Kd.int .i64) w A0 l0.length l0) (hc0 : l0.length ≤ c0) (h : madrigalref6_Power.f k l0 = some r) :
  Calls Try.prog 21 #[.slice A0 l0.length c0] w fun e w' => e = .returned (.int .i64 r) ∧ Drawn0 w w' := by
 have HR0 := Aside0.mk hr0; have HC0 := Aside0.mk hc0; clear hr0 hc0
 have H : (madrigalref6_Power.l0 k l0 0 0) = some r := h
 clear h; have H' := Aside0.mk H; clear H
 go_enter Try.func21, Try.ntmps21
 go_wp2
 go_loopg [3, 4] k (fun kq v3 v4 w' => ∃ (x3_1 : Int) (x4_1 : Int), v3 = .int .i64 x3_1 ∧ v4 = .int .i64 x4_1 ∧ Aside0 (madrigalref6_Power.l0 kq l0 x3_1 x4_1 = some r) ∧ Aside0 (kq ≤ k) ∧ Drawn0 w w')
 case atStart => exact ⟨(0), (0), (by first | rfl | (simp; done) | (simp [*]; done)), (by first | rfl | (simp; done) | (simp [*]; done)), H', ⟨Nat.le_refl _⟩, by repeat (first | exact Drawn0.refl _ | apply Drawn0.step)⟩
 case round =>
  clear H'
  obtain ⟨x3_1, x4_1, rfl, rfl, HA, HK1, ⟨m1, rfl⟩⟩ := hrel
  cases gk with
  | zero => exact absurd HA.out (by simp [madrigalref6_Power.l0])
  | succ k1 =>
   have H := HA.out; clear HA
   simp only [madrigalref6_Power.l0] at H
   by_cases c2 : x4_1 < (l0.length : Int)
   ·
    rw [if_pos c2] at H; have c2b0 : decide (x4_1 < (l0.length : Int)) = true := decide_eq_true c2; clear c2
    by_cases c3 : x4_1 < 960
    ·
     rw [if_pos c3] at H; have c3b0 : decide (x4_1 < 960) = true := decide_eq_true c3; clear c3
     by_cases c4 : 0 ≤ x4_1; rotate_left
     · rw [if_neg c4] at H; exact absurd H (by simp)
     rw [if_pos c4] at H; have c4b0 : decide (0 ≤ x4_1) = true := decide_eq_true c4; clear c4; replace H := Option.bind_eq_some_iff.mp H; obtain ⟨t551, A50, H⟩ := H
     replace H : (madrigalref6_Power.l0 k1 l0 (wrap64 (x3_1 + (wrap64 (t551 * t551)))) (wrap64 (x4_1 + 1))) = some r := H
     have A5 := Aside0.mk A50; clear A50; have H' := Aside0.mk H; clear H; have p550 : 0 ≤ (x4_1 : Int) := of_decide_eq_true (by first | (with_reducible assumption) | assumption); have q550 : x4_1 < (l0.length : Int) := of_decide_eq_true (by first | (with_reducible assumption) | assumption)
     obtain ⟨ad550, e550, hx550_0⟩ := Kd.at_int HR0.out x4_1 p550 q550
     cases e550; replace p550 := eq_true p550; replace q550 := eq_true q550
     go_wp2_with (first | ((with_reducible refine gate_callee (f := 32) rfl ?_); refine goesL_ (some 20) rfl rfl Try.func32 (by kernel_rfl) rfl #[.int .i64 (rd l0 x4_1), .int .i64 (-1048576), .int .i64 1048576] rfl (by (try simp only [List.map_toArray, List.map_cons, List.map_nil]); first | done | rfl | (simp only [List.length_drop, List.length_take]; rfl)) ?_; (with_reducible refine (madrigalref1_Clamp.calls k1 (rd l0 x4_1) (-1048576) 1048576 t551 _ A5.out).mono ?_); rintro e w' ⟨rfl, ⟨nd, rfl⟩⟩; refine ⟨_, rfl, ?_⟩))
     go_roundg k1
     case measure => have := HK1.out; omega
     case rel => exact ⟨(wrap64 (x3_1 + (wrap64 (t551 * t551)))), (wrap64 (x4_1 + 1)), (by first | rfl | (simp; done) | (simp [*]; done)), (by first | rfl | (simp; done) | (simp [*]; done)), H', ⟨by have := HK1.out; omega⟩, by repeat (first | exact Drawn0.refl _ | apply Drawn0.step)⟩
    ·
     rw [if_neg c3] at H; have c3b0 : decide (x4_1 < 960) = false := decide_eq_false c3; clear c3
     obtain rfl := Option.some.inj H
     go_wp2
     go_ret
     exact ⟨by first | rfl | (simp; done) | (simp [*]; done), by repeat (first | exact Drawn0.refl _ | apply Drawn0.step)⟩
   ·
    rw [if_neg c2] at H; have c2b0 : decide (x4_1 < (l0.length : Int)) = false := decide_eq_false c2; clear c2
    obtain rfl := Option.some.inj H
    go_wp2
    go_ret
    exact ⟨by first | rfl | (simp; done) | (simp [*]; done), by repeat (first | exact Drawn0.refl _ | apply Drawn0.step)⟩

end Go.Proofs.Ytgbdkefglmjdoaa.MA
