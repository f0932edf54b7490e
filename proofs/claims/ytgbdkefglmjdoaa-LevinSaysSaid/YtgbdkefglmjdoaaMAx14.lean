/- Functions of the program as plain Lean functions, and that the code comes to their answers; in a Law text: that the law holds for every input, out of its Pure statement. No condition beyond those that stand in each statement. Written by a program of this session. -/
import Derived.Test.YtgbdkefglmjdoaaMAx0
import Derived.Test.YtgbdkefglmjdoaaMAx13
namespace Go.Proofs.Ytgbdkefglmjdoaa.MA
open Go.RowKit Go.Proofs.YtgbdkefglmjdoaaW.PrintWords Go.Proofs.YtgbdkefglmjdoaaW.PrintLast Go.Proofs.YtgbdkefglmjdoaaW.PrintMore
attribute [local go_sem] max2_int min2_int max_two min_two max_three min_three max_four min_four   -- for this text's walks alone
set_option linter.unusedVariables false
set_option linter.unusedSimpArgs false

/-! ### madrigalref6_Stable: function 48 -/
mutual
def madrigalref6_Stable.l0 : Nat → List Int → Int → Option (Bool)
 | 0, _, _ => none
 | k + 1, x3, x4 => if x4 < (x3.length : Int) then (if 0 ≤ x4 then (madrigalref6_Stable.l0 k (x3.set (x4 : Int).toNat (wrap64 ((rd x3 x4) * 4096))) (wrap64 (x4 + 1))) else (none)) else (madrigalref6_Stable.l1 k x3 (wrap64 ((x3.length : Int) - 1)))
def madrigalref6_Stable.l1 : Nat → List Int → Int → Option (Bool)
 | 0, _, _ => none
 | k + 1, x3, x5 => if x5 ≥ 0 then (if 0 ≤ x5 then (if x5 < (x3.length : Int) then (if (rd x3 x5) > 16760438 then (madrigalref6_Stable.j2 k x3 x5 (rd x3 x5) true) else (madrigalref6_Stable.j2 k x3 x5 (rd x3 x5) (decide ((rd x3 x5) < (-16760438))))) else (none)) else (none)) else (some true)
def madrigalref6_Stable.j2 : Nat → List Int → Int → Int → Bool → Option (Bool)
 | 0, _, _, _, _ => none
 | k + 1, x3, x5, x6, x46 => if x46 = true then (some false) else ((madrigalref1_Mul.f k x6 x6 24).bind fun t461 => ((some (([] : List Int) : List Int)).bind fun y462 => (if y462.length + x3.length < 17592186044416 then (madrigalref6_Stable.l2 k x3 x5 x6 (wrap64 (16777216 - t461)) (y462 ++ x3) 0) else (none))))
def madrigalref6_Stable.l2 : Nat → List Int → Int → Int → Int → List Int → Int → Option (Bool)
 | 0, _, _, _, _, _, _ => none
 | k + 1, x3, x5, x6, x7, x8, x9 => if x9 < x5 then (if 0 ≤ x9 then (if x9 < (x8.length : Int) then (if 0 ≤ (wrap64 ((wrap64 (x5 - 1)) - x9)) then (if (wrap64 ((wrap64 (x5 - 1)) - x9)) < (x8.length : Int) then ((madrigalref1_Mul.f k x6 (rd x8 (wrap64 ((wrap64 (x5 - 1)) - x9))) 24).bind fun t470 => ((madrigalref1_Div.f k (wrap64 ((rd x8 x9) + t470)) x7 24).bind fun t471 => ((madrigalref1_Clamp.f k t471 (-2147483648) 2147483648).bind fun t472 => (if x9 < (x3.length : Int) then (madrigalref6_Stable.l2 k (x3.set (x9 : Int).toNat t472) x5 x6 x7 x8 (wrap64 (x9 + 1))) else (none))))) else (none)) else (none)) else (none)) else (none)) else (madrigalref6_Stable.l1 k x3 (wrap64 (x5 - 1)))
end
def madrigalref6_Stable.f (k : Nat) (l0 : List Int) : Option (Bool) := if (l0.length : Int) > 32 then (some false) else ((madrigalref6_clamped.f k l0 (-131072) 131072).bind fun t455 => (madrigalref6_Stable.l0 k t455 0))
set_option maxHeartbeats 8000000 in
set_option maxRecDepth 100000 in
theorem madrigalref6_Stable.calls (k : Nat) (A0 : Option Addr) (c0 : Nat) (l0 : List Int) (r : Bool) (w : World) (hr0 : Kd.C (Kd.int .i64) w A0 l0.length l0) (hc0 : l0.length ≤ c0) (h : madrigalref6_Stable.f k l0 = some r) :
  Calls Try.prog 48 #[.slice A0 l0.length c0] w fun e w' => e = .returned (.bool r) ∧ Below w.heap.size w w' := by
 have HR0 := Aside0.mk hr0; have HC0 := Aside0.mk hc0; clear hr0 hc0
 have HB := Aside0.mk (Below.refl w.heap.size w)
 have H : (if (l0.length : Int) > 32 then (some false) else ((madrigalref6_clamped.f k l0 (-131072) 131072).bind fun t455 => (madrigalref6_Stable.l0 k t455 0))) = some r := h
 clear h
 by_cases c2 : (l0.length : Int) > 32
 ·
  rw [if_pos c2] at H
  have c2b0 : decide (32 < (l0.length : Int)) = true := decide_eq_true c2
  have c2b1 : decide (32 < l0.length) = true := decide_eq_true (by omega); clear c2
  obtain rfl := Option.some.inj H
  go_enter Try.func48, Try.ntmps48
  go_wp2
  repeat (go_quiet (fail); try go_wp2)
  go_ret
  exact ⟨by first | rfl | (simp [errW_none, errW_some] <;> rfl) | (simp [*, errW_none, errW_some] <;> rfl), by repeat (with_reducible first | exact HB.out | apply below_alloc | apply pw_below_drewN | apply below_drew1)⟩
 ·
  rw [if_neg c2] at H
  have c2b0 : decide (32 < (l0.length : Int)) = false := decide_eq_false c2
  have c2b1 : decide (32 < l0.length) = false := decide_eq_false (by omega); clear c2; replace H := Option.bind_eq_some_iff.mp H; obtain ⟨t455, A30, H⟩ := H
  replace H : (madrigalref6_Stable.l0 k t455 0) = some r := H
  have A3 := Aside0.mk A30; clear A30
  have H' := Aside0.mk H
  clear H
  go_enter Try.func48, Try.ntmps48
  go_wp2_with (first | (go_at_call 31; (with_reducible refine (madrigalref6_clamped.calls k _ _ l0 (-131072) 131072 t455 _ ?side1 ?side2 A3.out).mono ?_); (case side1 => repeat (first | exact HR0.out | (with_reducible refine Kd.C_alloc ?_ _) | (with_reducible refine Kd.C_drewN ?_ _) | (with_reducible refine Kd.C_drew ?_))); (case side2 => exact HC0.out); rintro e w4 ⟨v456, rfl, ho0, hb⟩; have n0_ := Aside0.mk (Kd.R_lower ho0 (below_size (by repeat (with_reducible first | exact HB.out | apply below_alloc | apply pw_below_drewN | apply below_drew1)))); have n1_ := Aside0.mk (below_step (by repeat (with_reducible first | exact HB.out | apply below_alloc | apply pw_below_drewN | apply below_drew1)) hb); clear HB; have HO457 := n0_; have HB := n1_; clear n0_ n1_; (try clear hb); (try clear hb2); (try clear hk); (try clear hi); (try clear ho0)))
  repeat (go_quiet (first | (go_at_call 31; (with_reducible refine (madrigalref6_clamped.calls k _ _ l0 (-131072) 131072 t455 _ ?side1 ?side2 A3.out).mono ?_); (case side1 => repeat (first | exact HR0.out | (with_reducible refine Kd.C_alloc ?_ _) | (with_reducible refine Kd.C_drewN ?_ _) | (with_reducible refine Kd.C_drew ?_))); (case side2 => exact HC0.out); rintro e w4 ⟨v456, rfl, ho0, hb⟩; have n0_ := Aside0.mk (Kd.R_lower ho0 (below_size (by repeat (with_reducible first | exact HB.out | apply below_alloc | apply pw_below_drewN | apply below_drew1)))); have n1_ := Aside0.mk (below_step (by repeat (with_reducible first | exact HB.out | apply below_alloc | apply pw_below_drewN | apply below_drew1)) hb); clear HB; have HO457 := n0_; have HB := n1_; clear n0_ n1_; (try clear hb); (try clear hb2); (try clear hk); (try clear hi); (try clear ho0))); try go_wp2_with (first | (go_at_call 31; (with_reducible refine (madrigalref6_clamped.calls k _ _ l0 (-131072) 131072 t455 _ ?side1 ?side2 A3.out).mono ?_); (case side1 => repeat (first | exact HR0.out | (with_reducible refine Kd.C_alloc ?_ _) | (with_reducible refine Kd.C_drewN ?_ _) | (with_reducible refine Kd.C_drew ?_))); (case side2 => exact HC0.out); rintro e w4 ⟨v456, rfl, ho0, hb⟩; have n0_ := Aside0.mk (Kd.R_lower ho0 (below_size (by repeat (with_reducible first | exact HB.out | apply below_alloc | apply pw_below_drewN | apply below_drew1)))); have n1_ := Aside0.mk (below_step (by repeat (with_reducible first | exact HB.out | apply below_alloc | apply pw_below_drewN | apply below_drew1)) hb); clear HB; have HO457 := n0_; have HB := n1_; clear n0_ n1_; (try clear hb); (try clear hb2); (try clear hk); (try clear hi); (try clear ho0))))
  go_loopg [4] k (fun kq v4 w' => ∃ (x3_1 : List Int) (x4_1 : Int), v4 = .int .i64 x4_1 ∧ Aside0 (madrigalref6_Stable.l0 kq x3_1 x4_1 = some r) ∧ Aside0 (kq ≤ k) ∧ Aside0 (Kd.R (Kd.int .i64) 2 w' w.heap.size (fun _ => True) v456 x3_1) ∧ Aside0 (Below w.heap.size w w'))
  case atStart => exact ⟨(t455), (0), (by first | rfl | (simp; done) | (simp [*]; done)), H', ⟨Nat.le_refl _⟩, ⟨by (with_reducible repeat first | apply Kd.R_alloc | apply Kd.R_drewN | apply Kd.R_drew); exact HO457.out⟩, ⟨by repeat (with_reducible first | exact HB.out | apply below_alloc | apply pw_below_drewN | apply below_drew1)⟩⟩
  case round =>
   clear H'
   (try clear c2); (try clear c2b0); (try clear c2b0z0); (try clear c2b1); (try clear c2b1z0); (try clear p2); (try clear c4)
   obtain ⟨x3_1, x4_1, rfl, HA, HK1, HO_3, HB⟩ := hrel
   cases gk with
   | zero => exact absurd HA.out (by simp [madrigalref6_Stable.l0])
   | succ k1 =>
    have H := HA.out; clear HA
    simp only [madrigalref6_Stable.l0] at H
    by_cases c5 : x4_1 < (x3_1.length : Int)
    ·
     rw [if_pos c5] at H
     have c5b0 : decide (x4_1 < (x3_1.length : Int)) = true := decide_eq_true c5
     clear c5
     by_cases c6 : 0 ≤ x4_1
     ·
      rw [if_pos c6] at H; have c6b0 : decide (0 ≤ x4_1) = true := decide_eq_true c6; clear c6
      obtain ⟨y459, hy459⟩ : ∃ y_ : List Int, y_ = (x3_1.set (x4_1 : Int).toNat (wrap64 ((rd x3_1 x4_1) * 4096))) := ⟨_, rfl⟩
      replace H : (madrigalref6_Stable.l0 k1 y459 (wrap64 (x4_1 + 1))) = some r := by first | (rw [hy459]; with_reducible exact H) | (have H2_ := (Option.bind_some _ _).symm.trans H; rw [hy459]; with_reducible exact H2_) | (have H2_ := (Option.bind_some _ _).symm.trans H; with_reducible exact H2_) | with_reducible exact H | (rw [hy459]; exact H) | exact H
      have Ny459 := Aside0.mk hy459; clear hy459
      have H' := Aside0.mk H
      clear H
      obtain ⟨Ao8, co8, eo8⟩ := Kd.R_slice HO_3.out
      subst eo8; have p458 : 0 ≤ (x4_1 : Int) := of_decide_eq_true (by first | (with_reducible assumption) | assumption); have q458 : x4_1 < (x3_1.length : Int) := of_decide_eq_true (by first | (with_reducible assumption) | assumption)
      obtain ⟨ad458, e458, hx458_0⟩ := Kd.at_int (Kd.R_reads' HO_3.out).2.2 x4_1 p458 q458
      cases e458; replace p458 := eq_true p458; replace q458 := eq_true q458; have p7 : 0 ≤ (x4_1 : Int) := of_decide_eq_true (by first | (with_reducible assumption) | assumption); have q7 : (x4_1 : Int) < ((x3_1.length : Int) : Int) := of_decide_eq_true (by first | (with_reducible assumption) | assumption)
      obtain ⟨go7, co7, eo7, gb7, gl7, cl7, HG7⟩ := Kd.R_form HO_3.out (by omega)
      (first | cases eo7 | (injection eo7 with ea_ en_ ec_; (first | subst ea_ | (injection ea_ with ea_; subst ea_)); subst ec_; clear en_))
      have GB7 := Aside0.mk gb7; have GG7 := Aside0.mk HG7; clear gb7 gl7 HG7
      (first | simp only [add_plain] at hx458_0 | skip)
      obtain ⟨hx7_0, hf7_0⟩ := Kd.R_celln 0 HO_3.out (x4_1 : Int) p7 q7
      replace p7 := eq_true p7; replace q7 := eq_true q7
      have HP9 := Kd.R_putg HO_3.out (x4_1 : Int) (wrap64 ((rd x3_1 x4_1) * 4096))
      go_wp2_with (first | ((with_reducible refine gate_store (t := 2) (p := 29) rfl ?_); (try (rw [drewN_self wr]; generalize hq_ : World.drewN wr _ = wr; have n0_ := Aside0.mk (Kd.R_at hq_ HO_3.out); have n1_ := Aside0.mk (below_at hq_ HB.out); clear hq_ HO_3 HB; have HO_3 := n0_; have HB := n1_; clear n0_ n1_; (try (have HP9 := Kd.R_putg HO_3.out (x4_1 : Int) (wrap64 ((rd x3_1 x4_1) * 4096)))))); refine store_event (t := 2) (p := 29) (v := ?vo_w10) (w1 := (wr.setCell ⟨go7, (x4_1 : Int).toNat, none⟩ (.int .i64 (wrap64 ((rd x3_1 x4_1) * 4096))))) ?hg ?ho ?hn ?hr ?_; (case ho => rfl); (case hg => rfl); (case hn => rfl); (case hr => first | (go_simp; done) | (go_simp; rfl)); intro w10 hw; have hg : wr.grownBy w10 (some go7) := (by rw [hw]; exact HP9.2); have hp_ : Kd.R (Kd.int .i64) 2 w10 w.heap.size (fun _ => True) (.slice (some ⟨go7, 0, none⟩) x3_1.length co8) y459 := (by rw [hw, Ny459.out]; exact HP9.1); clear HP9; have n0_ := Aside0.mk (hp_); have n1_ := Aside0.mk ((by rw [hw]; exact below_set (HB.out) GB7.out : Below w.heap.size w w10)); clear HO_3; clear HB; have HO_3 := n0_; have HB := n1_; clear n0_ n1_; clear hg hw hp_))
      repeat (go_quiet (first | ((with_reducible refine gate_store (t := 2) (p := 29) rfl ?_); (try (rw [drewN_self wr]; generalize hq_ : World.drewN wr _ = wr; have n0_ := Aside0.mk (Kd.R_at hq_ HO_3.out); have n1_ := Aside0.mk (below_at hq_ HB.out); clear hq_ HO_3 HB; have HO_3 := n0_; have HB := n1_; clear n0_ n1_; (try (have HP9 := Kd.R_putg HO_3.out (x4_1 : Int) (wrap64 ((rd x3_1 x4_1) * 4096)))))); refine store_event (t := 2) (p := 29) (v := ?vo_w10) (w1 := (wr.setCell ⟨go7, (x4_1 : Int).toNat, none⟩ (.int .i64 (wrap64 ((rd x3_1 x4_1) * 4096))))) ?hg ?ho ?hn ?hr ?_; (case ho => rfl); (case hg => rfl); (case hn => rfl); (case hr => first | (go_simp; done) | (go_simp; rfl)); intro w10 hw; have hg : wr.grownBy w10 (some go7) := (by rw [hw]; exact HP9.2); have hp_ : Kd.R (Kd.int .i64) 2 w10 w.heap.size (fun _ => True) (.slice (some ⟨go7, 0, none⟩) x3_1.length co8) y459 := (by rw [hw, Ny459.out]; exact HP9.1); clear HP9; have n0_ := Aside0.mk (hp_); have n1_ := Aside0.mk ((by rw [hw]; exact below_set (HB.out) GB7.out : Below w.heap.size w w10)); clear HO_3; clear HB; have HO_3 := n0_; have HB := n1_; clear n0_ n1_; clear hg hw hp_)); try go_wp2_with (first | ((with_reducible refine gate_store (t := 2) (p := 29) rfl ?_); (try (rw [drewN_self wr]; generalize hq_ : World.drewN wr _ = wr; have n0_ := Aside0.mk (Kd.R_at hq_ HO_3.out); have n1_ := Aside0.mk (below_at hq_ HB.out); clear hq_ HO_3 HB; have HO_3 := n0_; have HB := n1_; clear n0_ n1_; (try (have HP9 := Kd.R_putg HO_3.out (x4_1 : Int) (wrap64 ((rd x3_1 x4_1) * 4096)))))); refine store_event (t := 2) (p := 29) (v := ?vo_w10) (w1 := (wr.setCell ⟨go7, (x4_1 : Int).toNat, none⟩ (.int .i64 (wrap64 ((rd x3_1 x4_1) * 4096))))) ?hg ?ho ?hn ?hr ?_; (case ho => rfl); (case hg => rfl); (case hn => rfl); (case hr => first | (go_simp; done) | (go_simp; rfl)); intro w10 hw; have hg : wr.grownBy w10 (some go7) := (by rw [hw]; exact HP9.2); have hp_ : Kd.R (Kd.int .i64) 2 w10 w.heap.size (fun _ => True) (.slice (some ⟨go7, 0, none⟩) x3_1.length co8) y459 := (by rw [hw, Ny459.out]; exact HP9.1); clear HP9; have n0_ := Aside0.mk (hp_); have n1_ := Aside0.mk ((by rw [hw]; exact below_set (HB.out) GB7.out : Below w.heap.size w w10)); clear HO_3; clear HB; have HO_3 := n0_; have HB := n1_; clear n0_ n1_; clear hg hw hp_)))
      go_roundg k1
      case measure => have := HK1.out; omega
      case rel => exact ⟨(y459), (wrap64 (x4_1 + 1)), (by first | rfl | (simp; done) | (simp [*]; done)), H', ⟨by have := HK1.out; omega⟩, ⟨by (with_reducible repeat first | apply Kd.R_alloc | apply Kd.R_drewN | apply Kd.R_drew); exact HO_3.out⟩, ⟨by repeat (with_reducible first | exact HB.out | apply below_alloc | apply pw_below_drewN | apply below_drew1)⟩⟩
     ·
      rw [if_neg c6] at H; exact absurd H (by simp)
    ·
     rw [if_neg c5] at H
     have c5b0 : decide (x4_1 < (x3_1.length : Int)) = false := decide_eq_false c5
     clear c5
     have H' := Aside0.mk H
     clear H
     obtain ⟨Ao11, co11, eo11⟩ := Kd.R_slice HO_3.out
     subst eo11
     go_wp2
     repeat (go_quiet (fail); try go_wp2)
     go_loopg [5] k1 (fun kq v5 w' => ∃ (x3_2 : List Int) (x5_2 : Int), v5 = .int .i64 x5_2 ∧ Aside0 (madrigalref6_Stable.l1 kq x3_2 x5_2 = some r) ∧ Aside0 (kq ≤ k1) ∧ Aside0 (Kd.R (Kd.int .i64) 2 w' w.heap.size (fun _ => True) (.slice Ao11 x3_1.length co11) x3_2) ∧ Aside0 (Below w.heap.size w w'))
     case atStart => exact ⟨(x3_1), (wrap64 ((x3_1.length : Int) - 1)), (by first | rfl | (simp; done) | (simp [*]; done)), H', ⟨Nat.le_refl _⟩, ⟨by (with_reducible repeat first | apply Kd.R_alloc | apply Kd.R_drewN | apply Kd.R_drew); exact HO_3.out⟩, ⟨by repeat (with_reducible first | exact HB.out | apply below_alloc | apply pw_below_drewN | apply below_drew1)⟩⟩
     case round =>
      clear H'
      (try clear c2); (try clear c2b0); (try clear c2b0z0); (try clear c2b1); (try clear c2b1z0); (try clear p2); (try clear c4); (try clear p4); (try clear q4); (try clear hx4); (try clear c5); (try clear c5b0); (try clear c5b0z0); (try clear c6); (try clear c6b0); (try clear c6b0z0); (try clear p6); (try clear p7); (try clear q7); (try clear hx7); (try clear hf7); (try clear hx458_0); (try clear hx7_0); (try clear p2); (try clear p458); (try clear p7); (try clear q458); (try clear q7)
      obtain ⟨x3_2, x5_2, rfl, HA, HK2, HO_3, HB⟩ := hrel
      have hl3_2 := (Kd.R_reads' HO_3.out).1
      rw [hl3_2] at HO_3; (try simp only [hl3_2])
      cases gk with
      | zero => exact absurd HA.out (by simp [madrigalref6_Stable.l1])
      | succ k2 =>
       have H := HA.out; clear HA
       simp only [madrigalref6_Stable.l1] at H
       by_cases c12 : x5_2 ≥ 0
       ·
        rw [if_pos c12] at H; have c12b0 : decide (0 ≤ x5_2) = true := decide_eq_true c12; clear c12
        by_cases c13 : 0 ≤ x5_2
        ·
         rw [if_pos c13] at H; have c13b0 : decide (0 ≤ x5_2) = true := decide_eq_true c13; clear c13
         by_cases c14 : x5_2 < (x3_2.length : Int)
         ·
          rw [if_pos c14] at H
          have c14b0 : decide (x5_2 < (x3_2.length : Int)) = true := decide_eq_true c14
          (try (have c14b0z0 := c14b0; rw [hl3_2] at c14b0z0))
          clear c14; have HC15 := Aside0.mk H; clear H; have p460 : 0 ≤ (x5_2 : Int) := of_decide_eq_true (by first | (with_reducible assumption) | assumption); have q460 : x5_2 < (x3_2.length : Int) := of_decide_eq_true (by first | (with_reducible assumption) | assumption)
          obtain ⟨ad460, e460, hx460_0⟩ := Kd.at_int (Kd.R_reads' HO_3.out).2.2 x5_2 p460 q460
          cases e460; replace p460 := eq_true p460; replace q460 := eq_true q460
          go_upto_region 12 with (fail)
          repeat (go_quiet (fail); go_upto_region 12 with (fail))
          go_cut [46] (fun v46 wc => ∃ (kq : Nat) (x46_14 : Bool), v46 = .bool x46_14 ∧ Aside0 (madrigalref6_Stable.j2 kq x3_2 x5_2 (rd x3_2 x5_2) x46_14 = some r) ∧ Aside0 (kq ≤ k2) ∧ Aside0 (Kd.R (Kd.int .i64) 2 wc w.heap.size (fun _ => True) (.slice (some ad460) x3_2.length co11) x3_2) ∧ Aside0 (Below w.heap.size w wc))
          case first =>
           have H := HC15.out; clear HC15
           by_cases c16 : (rd x3_2 x5_2) > 16760438
           ·
            rw [if_pos c16] at H; have c16b0 : decide (16760438 < (rd x3_2 x5_2)) = true := decide_eq_true c16; clear c16
            (first | rw [c16b0] | (simp only [i64_w, i32_w]; rw [c16b0]) | skip)
            have H' := Aside0.mk H
            clear H
            go_wp2
            repeat (go_quiet (fail); try go_wp2)
            go_meet
            case rel => exact ⟨_, (true), (by first | rfl | (simp; done) | (simp [*]; done)), H', ⟨by have := HK1.out; have := HK2.out; first | omega | exact Nat.le_refl _⟩, ⟨by (try simp only [hl3_2]); (with_reducible repeat first | apply Kd.R_alloc | apply Kd.R_drewN | apply Kd.R_drew); exact HO_3.out⟩, ⟨by repeat (with_reducible first | exact HB.out | apply below_alloc | apply pw_below_drewN | apply below_drew1)⟩⟩
           ·
            rw [if_neg c16] at H; have c16b0 : decide (16760438 < (rd x3_2 x5_2)) = false := decide_eq_false c16; clear c16
            (first | rw [c16b0] | (simp only [i64_w, i32_w]; rw [c16b0]) | skip)
            have H' := Aside0.mk H
            clear H
            go_wp2
            repeat (go_quiet (fail); try go_wp2)
            go_meet
            case rel => exact ⟨_, (decide ((rd x3_2 x5_2) < (-16760438))), (by first | rfl | (simp; done) | (simp [*]; done)), H', ⟨by have := HK1.out; have := HK2.out; first | omega | exact Nat.le_refl _⟩, ⟨by (try simp only [hl3_2]); (with_reducible repeat first | apply Kd.R_alloc | apply Kd.R_drewN | apply Kd.R_drew); exact HO_3.out⟩, ⟨by repeat (with_reducible first | exact HB.out | apply below_alloc | apply pw_below_drewN | apply below_drew1)⟩⟩
          case rest =>
           clear HC15; (try clear c1); (try clear c2); (try clear c2b0); (try clear c2b0z0); (try clear c2b1); (try clear c2b1z0); (try clear p2); (try clear c4); (try clear p4); (try clear q4); (try clear hx4); (try clear c5); (try clear c5b0); (try clear c5b0z0); (try clear c6); (try clear c6b0); (try clear c6b0z0); (try clear p6); (try clear p7); (try clear q7); (try clear hx7); (try clear hf7); (try clear c12); (try clear c12b0); (try clear c12b0z0); (try clear c13); (try clear c13b0); (try clear c13b0z0); (try clear c14); (try clear c14b0); (try clear c14b0z0); (try clear c16); (try clear c16b0); (try clear c16b0z0); (try clear hx458_0); (try clear hx460_0); (try clear hx7_0); (try clear p2); (try clear p4); (try clear p458); (try clear p460); (try clear p6); (try clear p7); (try clear q4); (try clear q458); (try clear q460); (try clear q7)
           obtain ⟨kq, x46_14, rfl, HA, HJ14, HO_3, HB⟩ := hcut
           cases kq with
           | zero => exact absurd HA.out (by simp [madrigalref6_Stable.j2])
           | succ kj14 =>
            have H := HA.out; clear HA
            simp only [madrigalref6_Stable.j2] at H
            by_cases c17 : x46_14 = true
            ·
             subst c17
             have H1 : (some false) = some r := by rw [if_pos rfl] at H; exact H
             clear H; have H := H1; clear H1
             obtain rfl := Option.some.inj H
             go_wp2
             repeat (go_quiet (fail); try go_wp2)
             go_ret
             exact ⟨by first | rfl | (simp [errW_none, errW_some] <;> rfl) | (simp [*, errW_none, errW_some] <;> rfl), by repeat (with_reducible first | exact HB.out | apply below_alloc | apply pw_below_drewN | apply below_drew1)⟩
            ·
             replace c17 := Bool.eq_false_iff.mpr c17
             subst c17
             have H1 : ((madrigalref1_Mul.f kj14 (rd x3_2 x5_2) (rd x3_2 x5_2) 24).bind fun t461 => ((some (([] : List Int) : List Int)).bind fun y462 => (if y462.length + x3_2.length < 17592186044416 then (madrigalref6_Stable.l2 kj14 x3_2 x5_2 (rd x3_2 x5_2) (wrap64 (16777216 - t461)) (y462 ++ x3_2) 0) else (none)))) = some r := by rw [if_neg (show ¬ (false = true) by decide)] at H; exact H
             clear H; have H := H1; clear H1; replace H := Option.bind_eq_some_iff.mp H; obtain ⟨t461, A180, H⟩ := H
             replace H : ((some (([] : List Int) : List Int)).bind fun y462 => (if y462.length + x3_2.length < 17592186044416 then (madrigalref6_Stable.l2 kj14 x3_2 x5_2 (rd x3_2 x5_2) (wrap64 (16777216 - t461)) (y462 ++ x3_2) 0) else (none))) = some r := H
             have A18 := Aside0.mk A180; clear A180
             obtain ⟨y462, hy462⟩ : ∃ y_ : List Int, y_ = (([] : List Int)) := ⟨_, rfl⟩
             replace H : (if y462.length + x3_2.length < 17592186044416 then (madrigalref6_Stable.l2 kj14 x3_2 x5_2 (rd x3_2 x5_2) (wrap64 (16777216 - t461)) (y462 ++ x3_2) 0) else (none)) = some r := by first | (rw [hy462]; with_reducible exact H) | (have H2_ := (Option.bind_some _ _).symm.trans H; rw [hy462]; with_reducible exact H2_) | (have H2_ := (Option.bind_some _ _).symm.trans H; with_reducible exact H2_) | with_reducible exact H | (rw [hy462]; exact H) | exact H
             have Ny462 := Aside0.mk hy462; clear hy462
             by_cases c19 : y462.length + x3_2.length < 17592186044416
             ·
              rw [if_pos c19] at H; have LMc19 := Aside0.mk c19; clear c19
              obtain ⟨y465, hy465⟩ : ∃ y_ : List Int, y_ = (y462 ++ x3_2) := ⟨_, rfl⟩
              replace H : (madrigalref6_Stable.l2 kj14 x3_2 x5_2 (rd x3_2 x5_2) (wrap64 (16777216 - t461)) y465 0) = some r := by first | (rw [hy465]; with_reducible exact H) | (have H2_ := (Option.bind_some _ _).symm.trans H; rw [hy465]; with_reducible exact H2_) | (have H2_ := (Option.bind_some _ _).symm.trans H; with_reducible exact H2_) | with_reducible exact H | (rw [hy465]; exact H) | exact H
              have Ny465 := Aside0.mk hy465; clear hy465
              have H' := Aside0.mk H
              clear H
              go_wp2_with (first | (go_at_call 34; (with_reducible refine (madrigalref1_Mul.calls kj14 (rd x3_2 x5_2) (rd x3_2 x5_2) 24 t461 _ A18.out).mono ?_); rintro e w' ⟨rfl, ⟨nd, rfl⟩⟩; (try first | exact ⟨rfl, _, World.drewN_drewN _ _ _⟩ | exact ⟨rfl, _, Eq.trans (World.drewN_drewN _ _ _) (congrArg (World.drewN _) (Nat.add_assoc _ _ _))⟩)) | ((with_reducible refine gate_dst (N := 51) rfl ?_); refine Kd.R_lit (Kd.int .i64) _ 2 ?hg (N := 51) ?hd (xs := ([] : List Int)) (inner := []) (ok := fun _ => True) (okp := fun _ => True) ?hr ?hp (fun _ hk => hk) trivial (Below.refl _ _) (Nat.le_refl _) (by simp) ?_; (case hd => rfl); (case hg => rfl); (case hr => first | (go_simp; done) | (go_simp; rfl)); (case hp => exact (Reps.none _ _)); intro v463 w20 ho21 hb hg_ hnew_; clear hg_ hnew_; (first | rw [← Ny462.out] at ho21 | (simp only [Int.reduceToNat] at ho21; rw [← Ny462.out] at ho21)); have n0_ := Aside0.mk (Kd.R_elder' (by (with_reducible repeat first | apply Kd.R_alloc | apply Kd.R_drewN | apply Kd.R_drew); exact HO_3.out) (Kd.R_base ho21) hb); have n1_ := Aside0.mk (Kd.R_lower (Kd.R_new' ho21 (Kd.R_lt (by (with_reducible repeat first | apply Kd.R_alloc | apply Kd.R_drewN | apply Kd.R_drew); exact HO_3.out))) (below_size (by repeat (with_reducible first | exact HB.out | apply below_alloc | apply pw_below_drewN | apply below_drew1)))); have n2_ := Aside0.mk (below_step (by repeat (with_reducible first | exact HB.out | apply below_alloc | apply pw_below_drewN | apply below_drew1)) hb); clear HO_3; clear HB; have HO_3 := n0_; have HO464 := n1_; have HB := n2_; clear n0_ n1_ n2_; clear hb ho21) | ((with_reducible refine gate_builtin (b := .append) (xs := #[.tmp 51, .tmp 52]) rfl ?_); at_builtin; refine Kd.R_append_rows (Kd.int .i64) (w0 := w) w.heap.size rfl (.tmp 51) (.tmp 52) 23 2 (.int .i64 0) 8 rfl Try.underlying23 info2 rfl (by decide) (by omega) v463 y462 x3_2 _ _ _ (fun k_ => some k_ ≠ (.slice (some ad460) x3_2.length co11 : Value).ownBlock) (fun _ => False) rfl rfl ?aO ?aR (fun _ _ h => h) (fun _ h => h.elim) ?aF ?aB ?aS ?aL ?_; (case aR => repeat (first | exact (Kd.R_reads' HO_3.out).2.2 | (with_reducible refine Kd.C_alloc ?_ _) | (with_reducible refine Kd.C_drewN ?_ _) | (with_reducible refine Kd.C_drew ?_))); (case aB => exact (by repeat (with_reducible first | exact HB.out | apply below_alloc | apply pw_below_drewN | apply below_drew1))); (case aF => exact (fun k_ hk => Kd.fresh' (Kd.R_lt (by (with_reducible repeat first | apply Kd.R_alloc | apply Kd.R_drewN | apply Kd.R_drew); exact HO_3.out)) k_ hk)); (case aO => exact (by (with_reducible repeat first | apply Kd.R_alloc | apply Kd.R_drewN | apply Kd.R_drew); exact Kd.R_mono HO464.out (fun _ hk => hk.2))); (case aS => exact (below_size (by repeat (with_reducible first | exact HB.out | apply below_alloc | apply pw_below_drewN | apply below_drew1)))); (case aL => have := LMc19.out; omega); intro v466 w22 ho hb hg hat; rw [← Ny465.out] at ho; have n0_ := Aside0.mk (Kd.R_after (ok := (fun _ => True)) (by (with_reducible repeat first | apply Kd.R_alloc | apply Kd.R_drewN | apply Kd.R_drew); exact HO_3.out) hg hat); have n1_ := Aside0.mk (hb); have n2_ := Aside0.mk (ho); clear HO_3; clear HB; clear HO464; have HO_3 := n0_; have HB := n1_; have HO467 := n2_; clear n0_ n1_ n2_; clear ho hb hg hat))
              repeat (go_quiet (first | (go_at_call 34; (with_reducible refine (madrigalref1_Mul.calls kj14 (rd x3_2 x5_2) (rd x3_2 x5_2) 24 t461 _ A18.out).mono ?_); rintro e w' ⟨rfl, ⟨nd, rfl⟩⟩; (try first | exact ⟨rfl, _, World.drewN_drewN _ _ _⟩ | exact ⟨rfl, _, Eq.trans (World.drewN_drewN _ _ _) (congrArg (World.drewN _) (Nat.add_assoc _ _ _))⟩)) | ((with_reducible refine gate_dst (N := 51) rfl ?_); refine Kd.R_lit (Kd.int .i64) _ 2 ?hg (N := 51) ?hd (xs := ([] : List Int)) (inner := []) (ok := fun _ => True) (okp := fun _ => True) ?hr ?hp (fun _ hk => hk) trivial (Below.refl _ _) (Nat.le_refl _) (by simp) ?_; (case hd => rfl); (case hg => rfl); (case hr => first | (go_simp; done) | (go_simp; rfl)); (case hp => exact (Reps.none _ _)); intro v463 w20 ho21 hb hg_ hnew_; clear hg_ hnew_; (first | rw [← Ny462.out] at ho21 | (simp only [Int.reduceToNat] at ho21; rw [← Ny462.out] at ho21)); have n0_ := Aside0.mk (Kd.R_elder' (by (with_reducible repeat first | apply Kd.R_alloc | apply Kd.R_drewN | apply Kd.R_drew); exact HO_3.out) (Kd.R_base ho21) hb); have n1_ := Aside0.mk (Kd.R_lower (Kd.R_new' ho21 (Kd.R_lt (by (with_reducible repeat first | apply Kd.R_alloc | apply Kd.R_drewN | apply Kd.R_drew); exact HO_3.out))) (below_size (by repeat (with_reducible first | exact HB.out | apply below_alloc | apply pw_below_drewN | apply below_drew1)))); have n2_ := Aside0.mk (below_step (by repeat (with_reducible first | exact HB.out | apply below_alloc | apply pw_below_drewN | apply below_drew1)) hb); clear HO_3; clear HB; have HO_3 := n0_; have HO464 := n1_; have HB := n2_; clear n0_ n1_ n2_; clear hb ho21) | ((with_reducible refine gate_builtin (b := .append) (xs := #[.tmp 51, .tmp 52]) rfl ?_); at_builtin; refine Kd.R_append_rows (Kd.int .i64) (w0 := w) w.heap.size rfl (.tmp 51) (.tmp 52) 23 2 (.int .i64 0) 8 rfl Try.underlying23 info2 rfl (by decide) (by omega) v463 y462 x3_2 _ _ _ (fun k_ => some k_ ≠ (.slice (some ad460) x3_2.length co11 : Value).ownBlock) (fun _ => False) rfl rfl ?aO ?aR (fun _ _ h => h) (fun _ h => h.elim) ?aF ?aB ?aS ?aL ?_; (case aR => repeat (first | exact (Kd.R_reads' HO_3.out).2.2 | (with_reducible refine Kd.C_alloc ?_ _) | (with_reducible refine Kd.C_drewN ?_ _) | (with_reducible refine Kd.C_drew ?_))); (case aB => exact (by repeat (with_reducible first | exact HB.out | apply below_alloc | apply pw_below_drewN | apply below_drew1))); (case aF => exact (fun k_ hk => Kd.fresh' (Kd.R_lt (by (with_reducible repeat first | apply Kd.R_alloc | apply Kd.R_drewN | apply Kd.R_drew); exact HO_3.out)) k_ hk)); (case aO => exact (by (with_reducible repeat first | apply Kd.R_alloc | apply Kd.R_drewN | apply Kd.R_drew); exact Kd.R_mono HO464.out (fun _ hk => hk.2))); (case aS => exact (below_size (by repeat (with_reducible first | exact HB.out | apply below_alloc | apply pw_below_drewN | apply below_drew1)))); (case aL => have := LMc19.out; omega); intro v466 w22 ho hb hg hat; rw [← Ny465.out] at ho; have n0_ := Aside0.mk (Kd.R_after (ok := (fun _ => True)) (by (with_reducible repeat first | apply Kd.R_alloc | apply Kd.R_drewN | apply Kd.R_drew); exact HO_3.out) hg hat); have n1_ := Aside0.mk (hb); have n2_ := Aside0.mk (ho); clear HO_3; clear HB; clear HO464; have HO_3 := n0_; have HB := n1_; have HO467 := n2_; clear n0_ n1_ n2_; clear ho hb hg hat)); try go_wp2_with (first | (go_at_call 34; (with_reducible refine (madrigalref1_Mul.calls kj14 (rd x3_2 x5_2) (rd x3_2 x5_2) 24 t461 _ A18.out).mono ?_); rintro e w' ⟨rfl, ⟨nd, rfl⟩⟩; (try first | exact ⟨rfl, _, World.drewN_drewN _ _ _⟩ | exact ⟨rfl, _, Eq.trans (World.drewN_drewN _ _ _) (congrArg (World.drewN _) (Nat.add_assoc _ _ _))⟩)) | ((with_reducible refine gate_dst (N := 51) rfl ?_); refine Kd.R_lit (Kd.int .i64) _ 2 ?hg (N := 51) ?hd (xs := ([] : List Int)) (inner := []) (ok := fun _ => True) (okp := fun _ => True) ?hr ?hp (fun _ hk => hk) trivial (Below.refl _ _) (Nat.le_refl _) (by simp) ?_; (case hd => rfl); (case hg => rfl); (case hr => first | (go_simp; done) | (go_simp; rfl)); (case hp => exact (Reps.none _ _)); intro v463 w20 ho21 hb hg_ hnew_; clear hg_ hnew_; (first | rw [← Ny462.out] at ho21 | (simp only [Int.reduceToNat] at ho21; rw [← Ny462.out] at ho21)); have n0_ := Aside0.mk (Kd.R_elder' (by (with_reducible repeat first | apply Kd.R_alloc | apply Kd.R_drewN | apply Kd.R_drew); exact HO_3.out) (Kd.R_base ho21) hb); have n1_ := Aside0.mk (Kd.R_lower (Kd.R_new' ho21 (Kd.R_lt (by (with_reducible repeat first | apply Kd.R_alloc | apply Kd.R_drewN | apply Kd.R_drew); exact HO_3.out))) (below_size (by repeat (with_reducible first | exact HB.out | apply below_alloc | apply pw_below_drewN | apply below_drew1)))); have n2_ := Aside0.mk (below_step (by repeat (with_reducible first | exact HB.out | apply below_alloc | apply pw_below_drewN | apply below_drew1)) hb); clear HO_3; clear HB; have HO_3 := n0_; have HO464 := n1_; have HB := n2_; clear n0_ n1_ n2_; clear hb ho21) | ((with_reducible refine gate_builtin (b := .append) (xs := #[.tmp 51, .tmp 52]) rfl ?_); at_builtin; refine Kd.R_append_rows (Kd.int .i64) (w0 := w) w.heap.size rfl (.tmp 51) (.tmp 52) 23 2 (.int .i64 0) 8 rfl Try.underlying23 info2 rfl (by decide) (by omega) v463 y462 x3_2 _ _ _ (fun k_ => some k_ ≠ (.slice (some ad460) x3_2.length co11 : Value).ownBlock) (fun _ => False) rfl rfl ?aO ?aR (fun _ _ h => h) (fun _ h => h.elim) ?aF ?aB ?aS ?aL ?_; (case aR => repeat (first | exact (Kd.R_reads' HO_3.out).2.2 | (with_reducible refine Kd.C_alloc ?_ _) | (with_reducible refine Kd.C_drewN ?_ _) | (with_reducible refine Kd.C_drew ?_))); (case aB => exact (by repeat (with_reducible first | exact HB.out | apply below_alloc | apply pw_below_drewN | apply below_drew1))); (case aF => exact (fun k_ hk => Kd.fresh' (Kd.R_lt (by (with_reducible repeat first | apply Kd.R_alloc | apply Kd.R_drewN | apply Kd.R_drew); exact HO_3.out)) k_ hk)); (case aO => exact (by (with_reducible repeat first | apply Kd.R_alloc | apply Kd.R_drewN | apply Kd.R_drew); exact Kd.R_mono HO464.out (fun _ hk => hk.2))); (case aS => exact (below_size (by repeat (with_reducible first | exact HB.out | apply below_alloc | apply pw_below_drewN | apply below_drew1)))); (case aL => have := LMc19.out; omega); intro v466 w22 ho hb hg hat; rw [← Ny465.out] at ho; have n0_ := Aside0.mk (Kd.R_after (ok := (fun _ => True)) (by (with_reducible repeat first | apply Kd.R_alloc | apply Kd.R_drewN | apply Kd.R_drew); exact HO_3.out) hg hat); have n1_ := Aside0.mk (hb); have n2_ := Aside0.mk (ho); clear HO_3; clear HB; clear HO464; have HO_3 := n0_; have HB := n1_; have HO467 := n2_; clear n0_ n1_ n2_; clear ho hb hg hat)))
              go_loopg [9] kj14 (fun kq v9 w' => ∃ (x3_4 : List Int) (x9_4 : Int), v9 = .int .i64 x9_4 ∧ Aside0 (madrigalref6_Stable.l2 kq x3_4 x5_2 (rd x3_2 x5_2) (wrap64 (16777216 - t461)) y465 x9_4 = some r) ∧ Aside0 (kq ≤ kj14) ∧ Aside0 (Kd.R (Kd.int .i64) 2 w' w.heap.size (fun k_ => some k_ ≠ (v466 : Value).ownBlock) (.slice (some ad460) x3_2.length co11) x3_4) ∧ Aside0 (Kd.R (Kd.int .i64) 2 w' w.heap.size (fun k_ => some k_ ≠ ((.slice (some ad460) x3_2.length co11) : Value).ownBlock) v466 y465) ∧ Aside0 (Below w.heap.size w w'))
              case atStart => exact ⟨(x3_2), (0), (by first | rfl | (simp; done) | (simp [*]; done)), H', ⟨Nat.le_refl _⟩, ⟨by (try simp only [hl3_2]); (with_reducible repeat first | apply Kd.R_alloc | apply Kd.R_drewN | apply Kd.R_drew); exact Kd.R_mono HO_3.out (fun _ hk => hk.2)⟩, ⟨by (try simp only [hl3_2]); (with_reducible repeat first | apply Kd.R_alloc | apply Kd.R_drewN | apply Kd.R_drew); exact HO467.out⟩, ⟨by repeat (with_reducible first | exact HB.out | apply below_alloc | apply pw_below_drewN | apply below_drew1)⟩⟩
              case round =>
               clear H'
               (try clear c1); (try clear c2); (try clear c2b0); (try clear c2b0z0); (try clear c2b1); (try clear c2b1z0); (try clear p2); (try clear c4); (try clear p4); (try clear q4); (try clear hx4); (try clear c5); (try clear c5b0); (try clear c5b0z0); (try clear c6); (try clear c6b0); (try clear c6b0z0); (try clear p6); (try clear p7); (try clear q7); (try clear hx7); (try clear hf7); (try clear c12); (try clear c12b0); (try clear c12b0z0); (try clear c13); (try clear c13b0); (try clear c13b0z0); (try clear c14); (try clear c14b0); (try clear c14b0z0); (try clear c16); (try clear c16b0); (try clear c16b0z0); (try clear c17); (try clear c19); (try clear hx458_0); (try clear hx460_0); (try clear hx7_0); (try clear p2); (try clear p4); (try clear p458); (try clear p460); (try clear p6); (try clear p7); (try clear q4); (try clear q458); (try clear q460); (try clear q7)
               obtain ⟨x3_4, x9_4, rfl, HA, HK4, HO_3, HO_8, HB⟩ := hrel
               have hl3_4 := (Kd.R_reads' HO_3.out).1
               rw [hl3_4] at HO_3; (try simp only [hl3_4]); (try simp only [hl3_4] at HO_8)
               cases gk with
               | zero => exact absurd HA.out (by simp [madrigalref6_Stable.l2])
               | succ k4 =>
                have H := HA.out; clear HA
                simp only [madrigalref6_Stable.l2] at H
                by_cases c23 : x9_4 < x5_2
                ·
                 rw [if_pos c23] at H; have c23b0 : decide (x9_4 < x5_2) = true := decide_eq_true c23; clear c23
                 by_cases c24 : 0 ≤ x9_4
                 ·
                  rw [if_pos c24] at H; have c24b0 : decide (0 ≤ x9_4) = true := decide_eq_true c24; clear c24
                  by_cases c25 : x9_4 < (y465.length : Int)
                  ·
                   rw [if_pos c25] at H
                   have c25b0 : decide (x9_4 < (y465.length : Int)) = true := decide_eq_true c25
                   (try (have c25b0z0 := c25b0; rw [hl3_2] at c25b0z0))
                   (try (have c25b0z1 := c25b0; rw [hl3_4] at c25b0z1))
                   clear c25
                   obtain ⟨ji26, hji26⟩ : ∃ j_ : Int, (wrap64 ((wrap64 (x5_2 - 1)) - x9_4)) = j_ := ⟨_, rfl⟩
                   replace H : (if 0 ≤ (ji26) then (if (ji26) < (y465.length : Int) then ((madrigalref1_Mul.f k4 (rd x3_2 x5_2) (rd y465 (ji26)) 24).bind fun t470 => ((madrigalref1_Div.f k4 (wrap64 ((rd y465 x9_4) + t470)) (wrap64 (16777216 - t461)) 24).bind fun t471 => ((madrigalref1_Clamp.f k4 t471 (-2147483648) 2147483648).bind fun t472 => (if x9_4 < (x3_4.length : Int) then (madrigalref6_Stable.l2 k4 (x3_4.set (x9_4 : Int).toNat t472) x5_2 (rd x3_2 x5_2) (wrap64 (16777216 - t461)) y465 (wrap64 (x9_4 + 1))) else (none))))) else (none)) else (none)) = some r := by first | (rw [hji26] at H; exact H) | (simp only [hji26] at H ⊢; exact H)
                   have hji26w : (IntKind.i64.wrap ((wrap64 (x5_2 - 1)) - x9_4)) = ji26 := (i64_w _).trans hji26
                   by_cases c27 : 0 ≤ (ji26)
                   ·
                    rw [if_pos c27] at H; have c27b0 : decide (0 ≤ (ji26)) = true := decide_eq_true c27; clear c27
                    by_cases c28 : (ji26) < (y465.length : Int)
                    ·
                     rw [if_pos c28] at H
                     have c28b0 : decide ((ji26) < (y465.length : Int)) = true := decide_eq_true c28
                     (try (have c28b0z0 := c28b0; rw [hl3_2] at c28b0z0))
                     (try (have c28b0z1 := c28b0; rw [hl3_4] at c28b0z1))
                     clear c28; replace H := Option.bind_eq_some_iff.mp H; obtain ⟨t470, A290, H⟩ := H
                     replace H : ((madrigalref1_Div.f k4 (wrap64 ((rd y465 x9_4) + t470)) (wrap64 (16777216 - t461)) 24).bind fun t471 => ((madrigalref1_Clamp.f k4 t471 (-2147483648) 2147483648).bind fun t472 => (if x9_4 < (x3_4.length : Int) then (madrigalref6_Stable.l2 k4 (x3_4.set (x9_4 : Int).toNat t472) x5_2 (rd x3_2 x5_2) (wrap64 (16777216 - t461)) y465 (wrap64 (x9_4 + 1))) else (none)))) = some r := H
                     have A29 := Aside0.mk A290; clear A290; replace H := Option.bind_eq_some_iff.mp H; obtain ⟨t471, A300, H⟩ := H
                     replace H : ((madrigalref1_Clamp.f k4 t471 (-2147483648) 2147483648).bind fun t472 => (if x9_4 < (x3_4.length : Int) then (madrigalref6_Stable.l2 k4 (x3_4.set (x9_4 : Int).toNat t472) x5_2 (rd x3_2 x5_2) (wrap64 (16777216 - t461)) y465 (wrap64 (x9_4 + 1))) else (none))) = some r := H
                     have A30 := Aside0.mk A300; clear A300; replace H := Option.bind_eq_some_iff.mp H; obtain ⟨t472, A310, H⟩ := H
                     replace H : (if x9_4 < (x3_4.length : Int) then (madrigalref6_Stable.l2 k4 (x3_4.set (x9_4 : Int).toNat t472) x5_2 (rd x3_2 x5_2) (wrap64 (16777216 - t461)) y465 (wrap64 (x9_4 + 1))) else (none)) = some r := H
                     have A31 := Aside0.mk A310; clear A310
                     by_cases c32 : x9_4 < (x3_4.length : Int)
                     ·
                      rw [if_pos c32] at H
                      have c32b0 : decide (x9_4 < (x3_4.length : Int)) = true := decide_eq_true c32
                      (try (have c32b0z0 := c32b0; rw [hl3_2] at c32b0z0))
                      (try (have c32b0z1 := c32b0; rw [hl3_4] at c32b0z1))
                      clear c32
                      obtain ⟨y473, hy473⟩ : ∃ y_ : List Int, y_ = (x3_4.set (x9_4 : Int).toNat t472) := ⟨_, rfl⟩
                      replace H : (madrigalref6_Stable.l2 k4 y473 x5_2 (rd x3_2 x5_2) (wrap64 (16777216 - t461)) y465 (wrap64 (x9_4 + 1))) = some r := by first | (rw [hy473]; with_reducible exact H) | (have H2_ := (Option.bind_some _ _).symm.trans H; rw [hy473]; with_reducible exact H2_) | (have H2_ := (Option.bind_some _ _).symm.trans H; with_reducible exact H2_) | with_reducible exact H | (rw [hy473]; exact H) | exact H
                      have Ny473 := Aside0.mk hy473; clear hy473
                      have H' := Aside0.mk H
                      clear H
                      obtain ⟨Ao34, co34, eo34⟩ := Kd.R_slice HO_8.out
                      subst eo34; have p468 : 0 ≤ (x9_4 : Int) := of_decide_eq_true (by first | (with_reducible assumption) | assumption); have q468 : x9_4 < (y465.length : Int) := of_decide_eq_true (by first | (with_reducible assumption) | assumption)
                      obtain ⟨ad468, e468, hx468_0⟩ := Kd.at_int (Kd.R_reads' HO_8.out).2.2 x9_4 p468 q468
                      cases e468; replace p468 := eq_true p468; replace q468 := eq_true q468; have p469 : 0 ≤ ((ji26) : Int) := of_decide_eq_true (by first | (with_reducible assumption) | assumption); have q469 : (ji26) < (y465.length : Int) := of_decide_eq_true (by first | (with_reducible assumption) | assumption)
                      obtain ⟨ad469, e469, hx469_0⟩ := Kd.at_int (Kd.R_reads' HO_8.out).2.2 (ji26) p469 q469
                      obtain rfl : ad468 = ad469 := (by injection e469)
                      replace p469 := eq_true p469; replace q469 := eq_true q469
                      have p33 : 0 ≤ (x9_4 : Int) := of_decide_eq_true (by first | (with_reducible assumption) | assumption); have q33 : (x9_4 : Int) < ((x3_4.length : Int) : Int) := of_decide_eq_true (by first | (with_reducible assumption) | assumption); obtain ⟨go33, co33, eo33, gb33, gl33, cl33, HG33⟩ := Kd.R_form HO_3.out (by omega); (first | cases eo33 | (injection eo33 with ea_ en_ ec_; (first | subst ea_ | (injection ea_ with ea_; subst ea_)); subst ec_; clear en_)); have GB33 := Aside0.mk gb33; have GG33 := Aside0.mk HG33; clear gb33 gl33 HG33; (first | simp only [add_plain] at hx460_0 | skip); obtain ⟨hx33_0, hf33_0⟩ := Kd.R_celln 0 HO_3.out (x9_4 : Int) p33 q33; replace p33 := eq_true p33; replace q33 := eq_true q33
                      go_wp2_with (first | (go_at_call 34; (with_reducible refine (madrigalref1_Mul.calls k4 (rd x3_2 x5_2) (rd y465 (ji26)) 24 t470 _ A29.out).mono ?_); rintro e w' ⟨rfl, ⟨nd, rfl⟩⟩; (try first | exact ⟨rfl, _, World.drewN_drewN _ _ _⟩ | exact ⟨rfl, _, Eq.trans (World.drewN_drewN _ _ _) (congrArg (World.drewN _) (Nat.add_assoc _ _ _))⟩)) | (go_at_call 35; (with_reducible refine (madrigalref1_Div.calls k4 (wrap64 ((rd y465 x9_4) + t470)) (wrap64 (16777216 - t461)) 24 t471 _ A30.out).mono ?_); rintro e w' ⟨rfl, ⟨nd, rfl⟩⟩; (try first | exact ⟨rfl, _, World.drewN_drewN _ _ _⟩ | exact ⟨rfl, _, Eq.trans (World.drewN_drewN _ _ _) (congrArg (World.drewN _) (Nat.add_assoc _ _ _))⟩)) | (go_at_call 32; (with_reducible refine (madrigalref1_Clamp.calls k4 t471 (-2147483648) 2147483648 t472 _ A31.out).mono ?_); rintro e w' ⟨rfl, ⟨nd, rfl⟩⟩; (try first | exact ⟨rfl, _, World.drewN_drewN _ _ _⟩ | exact ⟨rfl, _, Eq.trans (World.drewN_drewN _ _ _) (congrArg (World.drewN _) (Nat.add_assoc _ _ _))⟩); obtain ⟨hy35_, hz35_⟩ := Kd.R_celln 0 HO_3.out (x9_4 : Int) (of_decide_eq_true (by first | (with_reducible assumption) | assumption)) (of_decide_eq_true (by first | (with_reducible assumption) | assumption)); have HP35 := Kd.R_putg HO_3.out (x9_4 : Int) t472) | ((with_reducible refine gate_store (t := 2) (p := 79) rfl ?_); (try (rw [drewN_self wr]; generalize hq_ : World.drewN wr _ = wr; have n0_ := Aside0.mk (Kd.R_at hq_ HO_3.out); have n1_ := Aside0.mk (Kd.R_at hq_ HO_8.out); have n2_ := Aside0.mk (below_at hq_ HB.out); clear hq_ HO_3 HO_8 HB; have HO_3 := n0_; have HO_8 := n1_; have HB := n2_; clear n0_ n1_ n2_; (try (obtain ⟨hy35_, hz35_⟩ := Kd.R_celln 0 HO_3.out (x9_4 : Int) (of_decide_eq_true (by first | (with_reducible assumption) | assumption)) (of_decide_eq_true (by first | (with_reducible assumption) | assumption)))); (try (have HP35 := Kd.R_putg HO_3.out (x9_4 : Int) t472)))); refine store_event (t := 2) (p := 79) (v := ?vo_w36) (w1 := (wr.setCell ⟨go33, (x9_4 : Int).toNat, none⟩ (.int .i64 t472))) ?hg ?ho ?hn ?hr ?_; (case ho => rfl); (case hg => rfl); (case hn => rfl); (case hr => first | (go_simp; done) | (go_simp; rfl)); intro w36 hw; have hg : wr.grownBy w36 (some go33) := (by rw [hw]; exact HP35.2); have hp_ : Kd.R (Kd.int .i64) 2 w36 w.heap.size (fun k_ => some k_ ≠ (.slice (some ad468) y465.length co34 : Value).ownBlock) (.slice (some ⟨go33, 0, none⟩) x3_4.length co11) y473 := (by rw [hw, Ny473.out]; exact HP35.1); clear HP35; have n0_ := Aside0.mk (hp_); have n1_ := Aside0.mk (Kd.R_after (v := (.slice (some ⟨go33, 0, none⟩) x3_4.length co11)) (v1 := (.slice (some ⟨go33, 0, none⟩) x3_4.length co11)) (ok := (fun _ => True)) (by (with_reducible repeat first | apply Kd.R_alloc | apply Kd.R_drewN | apply Kd.R_drew); exact Kd.R_mono HO_8.out (fun _ hk => ⟨trivial, hk⟩)) hg (.inl rfl)); have n2_ := Aside0.mk ((by rw [hw]; exact below_set (HB.out) GB33.out : Below w.heap.size w w36)); clear HO_3; clear HO_8; clear HB; have HO_3 := n0_; have HO_8 := n1_; have HB := n2_; clear n0_ n1_ n2_; clear hg hw hp_))
                      repeat (go_quiet (first | (go_at_call 34; (with_reducible refine (madrigalref1_Mul.calls k4 (rd x3_2 x5_2) (rd y465 (ji26)) 24 t470 _ A29.out).mono ?_); rintro e w' ⟨rfl, ⟨nd, rfl⟩⟩; (try first | exact ⟨rfl, _, World.drewN_drewN _ _ _⟩ | exact ⟨rfl, _, Eq.trans (World.drewN_drewN _ _ _) (congrArg (World.drewN _) (Nat.add_assoc _ _ _))⟩)) | (go_at_call 35; (with_reducible refine (madrigalref1_Div.calls k4 (wrap64 ((rd y465 x9_4) + t470)) (wrap64 (16777216 - t461)) 24 t471 _ A30.out).mono ?_); rintro e w' ⟨rfl, ⟨nd, rfl⟩⟩; (try first | exact ⟨rfl, _, World.drewN_drewN _ _ _⟩ | exact ⟨rfl, _, Eq.trans (World.drewN_drewN _ _ _) (congrArg (World.drewN _) (Nat.add_assoc _ _ _))⟩)) | (go_at_call 32; (with_reducible refine (madrigalref1_Clamp.calls k4 t471 (-2147483648) 2147483648 t472 _ A31.out).mono ?_); rintro e w' ⟨rfl, ⟨nd, rfl⟩⟩; (try first | exact ⟨rfl, _, World.drewN_drewN _ _ _⟩ | exact ⟨rfl, _, Eq.trans (World.drewN_drewN _ _ _) (congrArg (World.drewN _) (Nat.add_assoc _ _ _))⟩); obtain ⟨hy35_, hz35_⟩ := Kd.R_celln 0 HO_3.out (x9_4 : Int) (of_decide_eq_true (by first | (with_reducible assumption) | assumption)) (of_decide_eq_true (by first | (with_reducible assumption) | assumption)); have HP35 := Kd.R_putg HO_3.out (x9_4 : Int) t472) | ((with_reducible refine gate_store (t := 2) (p := 79) rfl ?_); (try (rw [drewN_self wr]; generalize hq_ : World.drewN wr _ = wr; have n0_ := Aside0.mk (Kd.R_at hq_ HO_3.out); have n1_ := Aside0.mk (Kd.R_at hq_ HO_8.out); have n2_ := Aside0.mk (below_at hq_ HB.out); clear hq_ HO_3 HO_8 HB; have HO_3 := n0_; have HO_8 := n1_; have HB := n2_; clear n0_ n1_ n2_; (try (obtain ⟨hy35_, hz35_⟩ := Kd.R_celln 0 HO_3.out (x9_4 : Int) (of_decide_eq_true (by first | (with_reducible assumption) | assumption)) (of_decide_eq_true (by first | (with_reducible assumption) | assumption)))); (try (have HP35 := Kd.R_putg HO_3.out (x9_4 : Int) t472)))); refine store_event (t := 2) (p := 79) (v := ?vo_w36) (w1 := (wr.setCell ⟨go33, (x9_4 : Int).toNat, none⟩ (.int .i64 t472))) ?hg ?ho ?hn ?hr ?_; (case ho => rfl); (case hg => rfl); (case hn => rfl); (case hr => first | (go_simp; done) | (go_simp; rfl)); intro w36 hw; have hg : wr.grownBy w36 (some go33) := (by rw [hw]; exact HP35.2); have hp_ : Kd.R (Kd.int .i64) 2 w36 w.heap.size (fun k_ => some k_ ≠ (.slice (some ad468) y465.length co34 : Value).ownBlock) (.slice (some ⟨go33, 0, none⟩) x3_4.length co11) y473 := (by rw [hw, Ny473.out]; exact HP35.1); clear HP35; have n0_ := Aside0.mk (hp_); have n1_ := Aside0.mk (Kd.R_after (v := (.slice (some ⟨go33, 0, none⟩) x3_4.length co11)) (v1 := (.slice (some ⟨go33, 0, none⟩) x3_4.length co11)) (ok := (fun _ => True)) (by (with_reducible repeat first | apply Kd.R_alloc | apply Kd.R_drewN | apply Kd.R_drew); exact Kd.R_mono HO_8.out (fun _ hk => ⟨trivial, hk⟩)) hg (.inl rfl)); have n2_ := Aside0.mk ((by rw [hw]; exact below_set (HB.out) GB33.out : Below w.heap.size w w36)); clear HO_3; clear HO_8; clear HB; have HO_3 := n0_; have HO_8 := n1_; have HB := n2_; clear n0_ n1_ n2_; clear hg hw hp_)); try go_wp2_with (first | (go_at_call 34; (with_reducible refine (madrigalref1_Mul.calls k4 (rd x3_2 x5_2) (rd y465 (ji26)) 24 t470 _ A29.out).mono ?_); rintro e w' ⟨rfl, ⟨nd, rfl⟩⟩; (try first | exact ⟨rfl, _, World.drewN_drewN _ _ _⟩ | exact ⟨rfl, _, Eq.trans (World.drewN_drewN _ _ _) (congrArg (World.drewN _) (Nat.add_assoc _ _ _))⟩)) | (go_at_call 35; (with_reducible refine (madrigalref1_Div.calls k4 (wrap64 ((rd y465 x9_4) + t470)) (wrap64 (16777216 - t461)) 24 t471 _ A30.out).mono ?_); rintro e w' ⟨rfl, ⟨nd, rfl⟩⟩; (try first | exact ⟨rfl, _, World.drewN_drewN _ _ _⟩ | exact ⟨rfl, _, Eq.trans (World.drewN_drewN _ _ _) (congrArg (World.drewN _) (Nat.add_assoc _ _ _))⟩)) | (go_at_call 32; (with_reducible refine (madrigalref1_Clamp.calls k4 t471 (-2147483648) 2147483648 t472 _ A31.out).mono ?_); rintro e w' ⟨rfl, ⟨nd, rfl⟩⟩; (try first | exact ⟨rfl, _, World.drewN_drewN _ _ _⟩ | exact ⟨rfl, _, Eq.trans (World.drewN_drewN _ _ _) (congrArg (World.drewN _) (Nat.add_assoc _ _ _))⟩); obtain ⟨hy35_, hz35_⟩ := Kd.R_celln 0 HO_3.out (x9_4 : Int) (of_decide_eq_true (by first | (with_reducible assumption) | assumption)) (of_decide_eq_true (by first | (with_reducible assumption) | assumption)); have HP35 := Kd.R_putg HO_3.out (x9_4 : Int) t472) | ((with_reducible refine gate_store (t := 2) (p := 79) rfl ?_); (try (rw [drewN_self wr]; generalize hq_ : World.drewN wr _ = wr; have n0_ := Aside0.mk (Kd.R_at hq_ HO_3.out); have n1_ := Aside0.mk (Kd.R_at hq_ HO_8.out); have n2_ := Aside0.mk (below_at hq_ HB.out); clear hq_ HO_3 HO_8 HB; have HO_3 := n0_; have HO_8 := n1_; have HB := n2_; clear n0_ n1_ n2_; (try (obtain ⟨hy35_, hz35_⟩ := Kd.R_celln 0 HO_3.out (x9_4 : Int) (of_decide_eq_true (by first | (with_reducible assumption) | assumption)) (of_decide_eq_true (by first | (with_reducible assumption) | assumption)))); (try (have HP35 := Kd.R_putg HO_3.out (x9_4 : Int) t472)))); refine store_event (t := 2) (p := 79) (v := ?vo_w36) (w1 := (wr.setCell ⟨go33, (x9_4 : Int).toNat, none⟩ (.int .i64 t472))) ?hg ?ho ?hn ?hr ?_; (case ho => rfl); (case hg => rfl); (case hn => rfl); (case hr => first | (go_simp; done) | (go_simp; rfl)); intro w36 hw; have hg : wr.grownBy w36 (some go33) := (by rw [hw]; exact HP35.2); have hp_ : Kd.R (Kd.int .i64) 2 w36 w.heap.size (fun k_ => some k_ ≠ (.slice (some ad468) y465.length co34 : Value).ownBlock) (.slice (some ⟨go33, 0, none⟩) x3_4.length co11) y473 := (by rw [hw, Ny473.out]; exact HP35.1); clear HP35; have n0_ := Aside0.mk (hp_); have n1_ := Aside0.mk (Kd.R_after (v := (.slice (some ⟨go33, 0, none⟩) x3_4.length co11)) (v1 := (.slice (some ⟨go33, 0, none⟩) x3_4.length co11)) (ok := (fun _ => True)) (by (with_reducible repeat first | apply Kd.R_alloc | apply Kd.R_drewN | apply Kd.R_drew); exact Kd.R_mono HO_8.out (fun _ hk => ⟨trivial, hk⟩)) hg (.inl rfl)); have n2_ := Aside0.mk ((by rw [hw]; exact below_set (HB.out) GB33.out : Below w.heap.size w w36)); clear HO_3; clear HO_8; clear HB; have HO_3 := n0_; have HO_8 := n1_; have HB := n2_; clear n0_ n1_ n2_; clear hg hw hp_)))
                      (try simp only [← hl3_4])
                      go_roundg k4
                      case measure => have := HK1.out; have := HK2.out; have := HJ14.out; have := HK4.out; omega
                      case rel => exact ⟨(y473), (wrap64 (x9_4 + 1)), (by first | rfl | (simp; done) | (simp [*]; done)), H', ⟨by have := HK1.out; have := HK2.out; have := HJ14.out; have := HK4.out; omega⟩, ⟨by (try simp only [hl3_2]); (try simp only [hl3_4]); (with_reducible repeat first | apply Kd.R_alloc | apply Kd.R_drewN | apply Kd.R_drew); exact HO_3.out⟩, ⟨by (try simp only [hl3_2]); (try simp only [hl3_4]); (with_reducible repeat first | apply Kd.R_alloc | apply Kd.R_drewN | apply Kd.R_drew); exact Kd.R_mono HO_8.out (fun _ hk => hk.2)⟩, ⟨by repeat (with_reducible first | exact HB.out | apply below_alloc | apply pw_below_drewN | apply below_drew1)⟩⟩
                     ·
                      rw [if_neg c32] at H; exact absurd H (by simp)
                    ·
                     rw [if_neg c28] at H; exact absurd H (by simp)
                   ·
                    rw [if_neg c27] at H; exact absurd H (by simp)
                  ·
                   rw [if_neg c25] at H; exact absurd H (by simp)
                 ·
                  rw [if_neg c24] at H; exact absurd H (by simp)
                ·
                 rw [if_neg c23] at H; have c23b0 : decide (x9_4 < x5_2) = false := decide_eq_false c23; clear c23
                 have H' := Aside0.mk H
                 clear H
                 go_wp2
                 repeat (go_quiet (fail); try go_wp2)
                 (try simp only [← hl3_2, ← hl3_4])
                 go_roundg k4
                 case measure => have := HK1.out; have := HK2.out; have := HJ14.out; have := HK4.out; omega
                 case rel => exact ⟨(x3_4), (wrap64 (x5_2 - 1)), (by first | rfl | (simp; done) | (simp [*]; done)), H', ⟨by have := HK1.out; have := HK2.out; have := HJ14.out; have := HK4.out; omega⟩, ⟨by (try simp only [hl3_2]); (try simp only [hl3_4]); (with_reducible repeat first | apply Kd.R_alloc | apply Kd.R_drewN | apply Kd.R_drew); exact Kd.R_mono HO_3.out (fun _ hk => trivial)⟩, ⟨by repeat (with_reducible first | exact HB.out | apply below_alloc | apply pw_below_drewN | apply below_drew1)⟩⟩
             ·
              rw [if_neg c19] at H; exact absurd H (by simp)
         ·
          rw [if_neg c14] at H; exact absurd H (by simp)
        ·
         rw [if_neg c13] at H; exact absurd H (by simp)
       ·
        rw [if_neg c12] at H; have c12b0 : decide (0 ≤ x5_2) = false := decide_eq_false c12; clear c12
        obtain rfl := Option.some.inj H
        go_wp2
        repeat (go_quiet (fail); try go_wp2)
        go_ret
        exact ⟨by first | rfl | (simp [errW_none, errW_some] <;> rfl) | (simp [*, errW_none, errW_some] <;> rfl), by repeat (with_reducible first | exact HB.out | apply below_alloc | apply pw_below_drewN | apply below_drew1)⟩

/-! ### madrigalref6_Chirp: function 49 -/
mutual
def madrigalref6_Chirp.l0 : Nat → List Int → Int → List Int → Int → Option (List Int)
 | 0, _, _, _, _ => none
 | k + 1, x0, x1, x5, x6 => if x6 < (x0.length : Int) then (if 0 ≤ x6 then (madrigalref6_Chirp.l1 k x0 x1 x5 x6 (rd x0 x6) 0) else (none)) else (some x5)
def madrigalref6_Chirp.l1 : Nat → List Int → Int → List Int → Int → Int → Int → Option (List Int)
 | 0, _, _, _, _, _, _ => none
 | k + 1, x0, x1, x5, x6, x7, x8 => if x8 ≤ x6 then ((madrigalref1_Mul.f k x7 x1 16).bind fun t476 => (madrigalref6_Chirp.l1 k x0 x1 x5 x6 t476 (wrap64 (x8 + 1)))) else (if x5.length < 17592186044416 then (madrigalref6_Chirp.l0 k x0 x1 (x5 ++ [x7]) (wrap64 (x6 + 1))) else (none))
end
def madrigalref6_Chirp.f (k : Nat) (l0 : List Int) (a1 : Int) : Option (List Int) := if (l0.length : Int) > 32 then (some ([] : List Int)) else ((madrigalref1_Clamp.f k a1 0 65536).bind fun t474 => (madrigalref6_Chirp.l0 k l0 t474 ([] : List Int) 0))
set_option maxHeartbeats 8000000 in
set_option maxRecDepth 100000 in
theorem madrigalref6_Chirp.calls (k : Nat) (A0 : Option Addr) (c0 : Nat) (l0 : List Int) (a1 : Int) (r : List Int) (w : World) (hr0 : Kd.C (Kd.int .i64) w A0 l0.length l0) (hc0 : l0.length ≤ c0) (h : madrigalref6_Chirp.f k l0 a1 = some r) :
  Calls Try.prog 49 #[.slice A0 l0.length c0, .int .i64 a1] w fun e w' => ∃ v0_ : Value, e = .returned (v0_) ∧ Kd.R (Kd.int .i64) 2 w' w.heap.size (fun _ => True) v0_ r ∧ Below w.heap.size w w' := by
 have HR0 := Aside0.mk hr0; have HC0 := Aside0.mk hc0; clear hr0 hc0
 have HB := Aside0.mk (Below.refl w.heap.size w)
 have H : (if (l0.length : Int) > 32 then (some ([] : List Int)) else ((madrigalref1_Clamp.f k a1 0 65536).bind fun t474 => (madrigalref6_Chirp.l0 k l0 t474 ([] : List Int) 0))) = some r := h
 clear h
 by_cases c3 : (l0.length : Int) > 32
 ·
  rw [if_pos c3] at H
  have c3b0 : decide (32 < (l0.length : Int)) = true := decide_eq_true c3
  have c3b1 : decide (32 < l0.length) = true := decide_eq_true (by omega); clear c3
  obtain rfl := Option.some.inj H
  go_enter Try.func49, Try.ntmps49
  go_wp2
  go_ret
  exact ⟨_, by first | rfl | (simp [errW_none, errW_some] <;> rfl) | (simp [*, errW_none, errW_some] <;> rfl), by first | exact Kd.R_nil _ _ _ _ _ | exact Kd.N_nil _ _ _ _ _ | exact Kd.V_nil _ _ _ _ _ | exact Kd.Q_nil _ _ _ _ _ | exact Kd.S_nil _ _ _ _ _, by repeat (with_reducible first | exact HB.out | apply below_alloc | apply pw_below_drewN | apply below_drew1)⟩
 ·
  rw [if_neg c3] at H
  have c3b0 : decide (32 < (l0.length : Int)) = false := decide_eq_false c3
  have c3b1 : decide (32 < l0.length) = false := decide_eq_false (by omega); clear c3; replace H := Option.bind_eq_some_iff.mp H; obtain ⟨t474, A40, H⟩ := H
  replace H : (madrigalref6_Chirp.l0 k l0 t474 ([] : List Int) 0) = some r := H
  have A4 := Aside0.mk A40; clear A40
  have H' := Aside0.mk H
  clear H
  go_enter Try.func49, Try.ntmps49
  go_wp2_with (first | ((with_reducible refine gate_callee (f := 32) rfl ?_); refine goesL_ (some 13) rfl rfl Try.func32 (by kernel_rfl) rfl #[.int .i64 a1, .int .i64 0, .int .i64 65536] rfl (by (try simp only [List.map_toArray, List.map_cons, List.map_nil]); first | done | rfl | (simp only [List.length_drop, List.length_take]; rfl)) ?_; (with_reducible refine (madrigalref1_Clamp.calls k a1 0 65536 t474 _ A4.out).mono ?_); rintro e w' ⟨rfl, ⟨nd, rfl⟩⟩; refine ⟨_, rfl, ?_⟩))
  go_loopg [5, 6] k (fun kq v5 v6 w' => ∃ (x5_1 : List Int) (x6_1 : Int), v6 = .int .i64 x6_1 ∧ Aside0 (madrigalref6_Chirp.l0 kq l0 t474 x5_1 x6_1 = some r) ∧ Aside0 (kq ≤ k) ∧ Aside0 (Kd.R (Kd.int .i64) 2 w' w.heap.size (fun _ => True) v5 x5_1) ∧ Aside0 (Below w.heap.size w w'))
  case atStart => exact ⟨(([] : List Int)), (0), (by first | rfl | (simp; done) | (simp [*]; done)), H', ⟨Nat.le_refl _⟩, ⟨by first | exact Kd.R_nil _ _ _ _ _ | exact Kd.N_nil _ _ _ _ _ | exact Kd.V_nil _ _ _ _ _ | exact Kd.Q_nil _ _ _ _ _ | exact Kd.S_nil _ _ _ _ _⟩, ⟨by repeat (with_reducible first | exact HB.out | apply below_alloc | apply pw_below_drewN | apply below_drew1)⟩⟩
  case round =>
   clear H'
   (try clear p2); (try clear c3); (try clear c3b0); (try clear c3b0z0); (try clear c3b1); (try clear c3b1z0); (try clear c4)
   obtain ⟨x5_1, x6_1, rfl, HA, HK1, HO_5, HB⟩ := hrel
   cases gk with
   | zero => exact absurd HA.out (by simp [madrigalref6_Chirp.l0])
   | succ k1 =>
    have H := HA.out; clear HA
    simp only [madrigalref6_Chirp.l0] at H
    by_cases c5 : x6_1 < (l0.length : Int)
    ·
     rw [if_pos c5] at H
     have c5b0 : decide (x6_1 < (l0.length : Int)) = true := decide_eq_true c5
     clear c5
     by_cases c6 : 0 ≤ x6_1
     ·
      rw [if_pos c6] at H; have c6b0 : decide (0 ≤ x6_1) = true := decide_eq_true c6; clear c6
      have H' := Aside0.mk H
      clear H; have p475 : 0 ≤ (x6_1 : Int) := of_decide_eq_true (by first | (with_reducible assumption) | assumption); have q475 : x6_1 < (l0.length : Int) := of_decide_eq_true (by first | (with_reducible assumption) | assumption)
      obtain ⟨ad475, e475, hx475_0⟩ := Kd.at_int HR0.out x6_1 p475 q475
      cases e475
      replace hx475_0 := (HB.out.cell (World.block_lt_of_cell? w _ hx475_0)).trans hx475_0
      replace p475 := eq_true p475; replace q475 := eq_true q475
      go_wp2
      go_loopg [7, 8] k1 (fun kq v7 v8 w' => ∃ (x7_2 : Int) (x8_2 : Int), v7 = .int .i64 x7_2 ∧ v8 = .int .i64 x8_2 ∧ Aside0 (madrigalref6_Chirp.l1 kq l0 t474 x5_1 x6_1 x7_2 x8_2 = some r) ∧ Aside0 (kq ≤ k1) ∧ Aside0 (Kd.R (Kd.int .i64) 2 w' w.heap.size (fun _ => True) u5 x5_1) ∧ Aside0 (Below w.heap.size w w'))
      case atStart => exact ⟨(rd l0 x6_1), (0), (by first | rfl | (simp; done) | (simp [*]; done)), (by first | rfl | (simp; done) | (simp [*]; done)), H', ⟨Nat.le_refl _⟩, ⟨by (with_reducible repeat first | apply Kd.R_alloc | apply Kd.R_drewN | apply Kd.R_drew); exact HO_5.out⟩, ⟨by repeat (with_reducible first | exact HB.out | apply below_alloc | apply pw_below_drewN | apply below_drew1)⟩⟩
      case round =>
       clear H'
       (try clear p2); (try clear c3); (try clear c3b0); (try clear c3b0z0); (try clear c3b1); (try clear c3b1z0); (try clear c4); (try clear p4); (try clear q4); (try clear hx4); (try clear c5); (try clear c5b0); (try clear c5b0z0); (try clear c6); (try clear c6b0); (try clear c6b0z0); (try clear hx475_0); (try clear p2); (try clear p475); (try clear q475)
       obtain ⟨x7_2, x8_2, rfl, rfl, HA, HK2, HO_5, HB⟩ := hrel
       cases gk with
       | zero => exact absurd HA.out (by simp [madrigalref6_Chirp.l1])
       | succ k2 =>
        have H := HA.out; clear HA
        simp only [madrigalref6_Chirp.l1] at H
        by_cases c7 : x8_2 ≤ x6_1
        ·
         rw [if_pos c7] at H; have c7b0 : decide (x8_2 ≤ x6_1) = true := decide_eq_true c7; clear c7; replace H := Option.bind_eq_some_iff.mp H; obtain ⟨t476, A80, H⟩ := H
         replace H : (madrigalref6_Chirp.l1 k2 l0 t474 x5_1 x6_1 t476 (wrap64 (x8_2 + 1))) = some r := H
         have A8 := Aside0.mk A80; clear A80
         have H' := Aside0.mk H
         clear H
         go_wp2_with (first | ((with_reducible refine gate_callee (f := 34) rfl ?_); refine goesL_ (some 31) rfl rfl Try.func34 (by kernel_rfl) rfl #[.int .i64 x7_2, .int .i64 t474, .int .i64 16] rfl (by (try simp only [List.map_toArray, List.map_cons, List.map_nil]); first | done | rfl | (simp only [List.length_drop, List.length_take]; rfl)) ?_; (with_reducible refine (madrigalref1_Mul.calls k2 x7_2 t474 16 t476 _ A8.out).mono ?_); rintro e w' ⟨rfl, ⟨nd, rfl⟩⟩; refine ⟨_, rfl, ?_⟩))
         go_roundg k2
         case measure => have := HK1.out; have := HK2.out; omega
         case rel => exact ⟨(t476), (wrap64 (x8_2 + 1)), (by first | rfl | (simp; done) | (simp [*]; done)), (by first | rfl | (simp; done) | (simp [*]; done)), H', ⟨by have := HK1.out; have := HK2.out; omega⟩, ⟨by (with_reducible repeat first | apply Kd.R_alloc | apply Kd.R_drewN | apply Kd.R_drew); exact HO_5.out⟩, ⟨by repeat (with_reducible first | exact HB.out | apply below_alloc | apply pw_below_drewN | apply below_drew1)⟩⟩
        ·
         rw [if_neg c7] at H; have c7b0 : decide (x8_2 ≤ x6_1) = false := decide_eq_false c7; clear c7
         by_cases c9 : x5_1.length < 17592186044416
         ·
          rw [if_pos c9] at H; have LMc9 := Aside0.mk c9; clear c9
          obtain ⟨y477, hy477⟩ : ∃ y_ : List Int, y_ = (x5_1 ++ [x7_2]) := ⟨_, rfl⟩
          replace H : (madrigalref6_Chirp.l0 k2 l0 t474 y477 (wrap64 (x6_1 + 1))) = some r := by first | (rw [hy477]; with_reducible exact H) | (have H2_ := (Option.bind_some _ _).symm.trans H; rw [hy477]; with_reducible exact H2_) | (have H2_ := (Option.bind_some _ _).symm.trans H; with_reducible exact H2_) | with_reducible exact H | (rw [hy477]; exact H) | exact H
          have Ny477 := Aside0.mk hy477; clear hy477
          have H' := Aside0.mk H
          clear H
          go_wp2_with (first | ((with_reducible refine gate_builtin (b := .append) (xs := #[.tmp 32, .tmp 34]) rfl ?_); at_builtin; refine Kd.R_append (Kd.int .i64) (w0 := w) w.heap.size rfl (.tmp 32) (.tmp 34) 23 2 (.int .i64 0) 8 rfl Try.underlying23 info2 rfl (by decide) (by omega) u5 x5_1 x7_2 [.int .i64 x7_2] (fun _ => True) (fun _ => False) rfl rfl ?aP (fun _ hk => hk.elim) ?aF ?aO ?aB ?aS ?aL ?_; (case aP => exact rfl); (case aB => exact (by repeat (with_reducible first | exact HB.out | apply below_alloc | apply pw_below_drewN | apply below_drew1))); (case aF => exact (fun _ _ => trivial)); (case aO => exact (by (with_reducible repeat first | apply Kd.R_alloc | apply Kd.R_drewN | apply Kd.R_drew); exact HO_5.out)); (case aS => exact (below_size (by repeat (with_reducible first | exact HB.out | apply below_alloc | apply pw_below_drewN | apply below_drew1)))); (case aL => have := LMc9.out; omega); intro v478 w10 ho hb hg hat; rw [← Ny477.out] at ho; have n0_ := Aside0.mk (hb); have n1_ := Aside0.mk (ho); clear HB; clear HO_5; have HB := n0_; have HO479 := n1_; clear n0_ n1_; clear ho hb hg hat))
          go_roundg k2
          case measure => have := HK1.out; have := HK2.out; omega
          case rel => exact ⟨(y477), (wrap64 (x6_1 + 1)), (by first | rfl | (simp; done) | (simp [*]; done)), H', ⟨by have := HK1.out; have := HK2.out; omega⟩, ⟨by (with_reducible repeat first | apply Kd.R_alloc | apply Kd.R_drewN | apply Kd.R_drew); exact HO479.out⟩, ⟨by repeat (with_reducible first | exact HB.out | apply below_alloc | apply pw_below_drewN | apply below_drew1)⟩⟩
         ·
          rw [if_neg c9] at H; exact absurd H (by simp)
     ·
      rw [if_neg c6] at H; exact absurd H (by simp)
    ·
     rw [if_neg c5] at H
     have c5b0 : decide (x6_1 < (l0.length : Int)) = false := decide_eq_false c5
     clear c5
     obtain rfl := Option.some.inj H
     go_wp2
     go_ret
     exact ⟨_, by first | rfl | (simp [errW_none, errW_some] <;> rfl) | (simp [*, errW_none, errW_some] <;> rfl), by (with_reducible repeat first | apply Kd.R_alloc | apply Kd.R_drewN | apply Kd.R_drew); exact HO_5.out, by repeat (with_reducible first | exact HB.out | apply below_alloc | apply pw_below_drewN | apply below_drew1)⟩

/-! ### madrigalref6_Fit: function 36 -/
def madrigalref6_Fit.l0 : Nat → List Int → List Int → Int → Option (List Int)
 | 0, _, _, _ => none
 | k + 1, x0, x3, x4 => if x4 ≤ 16 then ((madrigalref6_Stable.f k x3).bind fun t487 => (if t487 = true then (some x3) else ((madrigalref6_Chirp.f k x3 (wrap64 (65536 - (wrap64 (2048 * x4))))).bind fun t488 => (madrigalref6_Fit.l0 k x0 t488 (wrap64 (x4 + 1)))))) else ((madrigalref6_Stable.f k x3).bind fun t483 => (if t483 = true then (some x3) else (if 0 ≤ (x0.length : Int) then (if ((x0.length : Int) : Int).toNat ≤ 35184372088832 then (some (List.replicate ((x0.length : Int) : Int).toNat 0)) else (none)) else (none))))
def madrigalref6_Fit.f (k : Nat) (l0 : List Int) : Option (List Int) := if (l0.length : Int) > 32 then (some ([] : List Int)) else ((madrigalref6_clamped.f k l0 (-131072) 131072).bind fun t480 => (madrigalref6_Fit.l0 k l0 t480 1))
set_option maxHeartbeats 8000000 in
set_option maxRecDepth 100000 in
theorem madrigalref6_Fit.calls (k : Nat) (A0 : Option Addr) (c0 : Nat) (l0 : List Int) (r : List Int) (w : World) (hr0 : Kd.C (Kd.int .i64) w A0 l0.length l0) (hc0 : l0.length ≤ c0) (h : madrigalref6_Fit.f k l0 = some r) :
  Calls Try.prog 36 #[.slice A0 l0.length c0] w fun e w' => ∃ v0_ : Value, e = .returned (v0_) ∧ Kd.R (Kd.int .i64) 2 w' w.heap.size (fun _ => True) v0_ r ∧ Below w.heap.size w w' := by
 have HR0 := Aside0.mk hr0; have HC0 := Aside0.mk hc0; clear hr0 hc0
 have HB := Aside0.mk (Below.refl w.heap.size w)
 have H : (if (l0.length : Int) > 32 then (some ([] : List Int)) else ((madrigalref6_clamped.f k l0 (-131072) 131072).bind fun t480 => (madrigalref6_Fit.l0 k l0 t480 1))) = some r := h
 clear h
 by_cases c2 : (l0.length : Int) > 32
 ·
  rw [if_pos c2] at H
  have c2b0 : decide (32 < (l0.length : Int)) = true := decide_eq_true c2
  have c2b1 : decide (32 < l0.length) = true := decide_eq_true (by omega); clear c2
  obtain rfl := Option.some.inj H
  go_enter Try.func36, Try.ntmps36
  go_wp2
  go_ret
  exact ⟨_, by first | rfl | (simp [errW_none, errW_some] <;> rfl) | (simp [*, errW_none, errW_some] <;> rfl), by first | exact Kd.R_nil _ _ _ _ _ | exact Kd.N_nil _ _ _ _ _ | exact Kd.V_nil _ _ _ _ _ | exact Kd.Q_nil _ _ _ _ _ | exact Kd.S_nil _ _ _ _ _, by repeat (with_reducible first | exact HB.out | apply below_alloc | apply pw_below_drewN | apply below_drew1)⟩
 ·
  rw [if_neg c2] at H
  have c2b0 : decide (32 < (l0.length : Int)) = false := decide_eq_false c2
  have c2b1 : decide (32 < l0.length) = false := decide_eq_false (by omega); clear c2; replace H := Option.bind_eq_some_iff.mp H; obtain ⟨t480, A30, H⟩ := H
  replace H : (madrigalref6_Fit.l0 k l0 t480 1) = some r := H
  have A3 := Aside0.mk A30; clear A30
  have H' := Aside0.mk H
  clear H
  go_enter Try.func36, Try.ntmps36
  go_wp2_with (first | ((with_reducible refine gate_callee (f := 31) rfl ?_); refine goesL_ (some 9) rfl rfl Try.func31 (by kernel_rfl) rfl #[.slice A0 l0.length c0, .int .i64 (-131072), .int .i64 131072] rfl (by (try simp only [List.map_toArray, List.map_cons, List.map_nil]); first | done | rfl | (simp only [List.length_drop, List.length_take]; rfl)) ?_; (with_reducible refine (madrigalref6_clamped.calls k _ _ l0 (-131072) 131072 t480 _ ?side1 ?side2 A3.out).mono ?_); (case side1 => repeat (first | exact HR0.out | (with_reducible refine Kd.C_alloc ?_ _) | (with_reducible refine Kd.C_drewN ?_ _) | (with_reducible refine Kd.C_drew ?_))); (case side2 => exact HC0.out); rintro e w4 ⟨v481, rfl, ho0, hb⟩; refine ⟨_, rfl, ?_⟩; have n0_ := Aside0.mk (Kd.R_lower ho0 (below_size (by repeat (with_reducible first | exact HB.out | apply below_alloc | apply pw_below_drewN | apply below_drew1)))); have n1_ := Aside0.mk (below_step (by repeat (with_reducible first | exact HB.out | apply below_alloc | apply pw_below_drewN | apply below_drew1)) hb); clear HB; have HO482 := n0_; have HB := n1_; clear n0_ n1_; (try clear hb); (try clear hb2); (try clear hk); (try clear hi); (try clear ho0)))
  go_loopg [3, 4] k (fun kq v3 v4 w' => ∃ (x3_1 : List Int) (x4_1 : Int), v4 = .int .i64 x4_1 ∧ Aside0 (madrigalref6_Fit.l0 kq l0 x3_1 x4_1 = some r) ∧ Aside0 (kq ≤ k) ∧ Aside0 (Kd.R (Kd.int .i64) 2 w' w.heap.size (fun _ => True) v3 x3_1) ∧ Aside0 (Below w.heap.size w w'))
  case atStart => exact ⟨(t480), (1), (by first | rfl | (simp; done) | (simp [*]; done)), H', ⟨Nat.le_refl _⟩, ⟨by (with_reducible repeat first | apply Kd.R_alloc | apply Kd.R_drewN | apply Kd.R_drew); exact HO482.out⟩, ⟨by repeat (with_reducible first | exact HB.out | apply below_alloc | apply pw_below_drewN | apply below_drew1)⟩⟩
  case round =>
   clear H'
   (try clear c2); (try clear c2b0); (try clear c2b0z0); (try clear c2b1); (try clear c2b1z0); (try clear p2); (try clear c3)
   obtain ⟨x3_1, x4_1, rfl, HA, HK1, HO_3, HB⟩ := hrel
   cases gk with
   | zero => exact absurd HA.out (by simp [madrigalref6_Fit.l0])
   | succ k1 =>
    have H := HA.out; clear HA
    simp only [madrigalref6_Fit.l0] at H
    by_cases c5 : x4_1 ≤ 16
    ·
     rw [if_pos c5] at H; have c5b0 : decide (x4_1 ≤ 16) = true := decide_eq_true c5; clear c5; replace H := Option.bind_eq_some_iff.mp H; obtain ⟨t487, A60, H⟩ := H
     replace H : (if t487 = true then (some x3_1) else ((madrigalref6_Chirp.f k1 x3_1 (wrap64 (65536 - (wrap64 (2048 * x4_1))))).bind fun t488 => (madrigalref6_Fit.l0 k1 l0 t488 (wrap64 (x4_1 + 1))))) = some r := H
     have A6 := Aside0.mk A60; clear A60
     by_cases c7 : t487 = true
     ·
      subst c7
      have H1 : (some x3_1) = some r := by rw [if_pos rfl] at H; exact H
      clear H; have H := H1; clear H1
      obtain rfl := Option.some.inj H
      obtain ⟨Ao8, co8, eo8⟩ := Kd.R_slice HO_3.out
      subst eo8
      go_wp2_with (first | ((with_reducible refine gate_callee (f := 48) rfl ?_); refine goesL_ (some 15) rfl rfl Try.func48 (by kernel_rfl) rfl #[.slice Ao8 x3_1.length co8] rfl (by (try simp only [List.map_toArray, List.map_cons, List.map_nil]); first | done | rfl | (simp only [List.length_drop, List.length_take]; rfl)) ?_; (with_reducible refine (madrigalref6_Stable.calls k1 _ _ x3_1 true _ ?side1 ?side2 A6.out).mono ?_); (case side1 => repeat (first | exact (Kd.R_reads' HO_3.out).2.2 | (with_reducible refine Kd.C_alloc ?_ _) | (with_reducible refine Kd.C_drewN ?_ _) | (with_reducible refine Kd.C_drew ?_))); (case side2 => exact (Kd.R_reads' HO_3.out).2.1); rintro e w9 ⟨rfl, hb⟩; refine ⟨_, rfl, ?_⟩; have n0_ := Aside0.mk (Kd.R_below (by (with_reducible repeat first | apply Kd.R_alloc | apply Kd.R_drewN | apply Kd.R_drew); exact HO_3.out) hb); have n1_ := Aside0.mk (below_step (by repeat (with_reducible first | exact HB.out | apply below_alloc | apply pw_below_drewN | apply below_drew1)) hb); clear HO_3; clear HB; have HO_3 := n0_; have HB := n1_; clear n0_ n1_; (try clear hb); (try clear hb2); (try clear hk); (try clear hi)))
      go_ret
      exact ⟨_, by first | rfl | (simp [errW_none, errW_some] <;> rfl) | (simp [*, errW_none, errW_some] <;> rfl), by (with_reducible repeat first | apply Kd.R_alloc | apply Kd.R_drewN | apply Kd.R_drew); exact HO_3.out, by repeat (with_reducible first | exact HB.out | apply below_alloc | apply pw_below_drewN | apply below_drew1)⟩
     ·
      replace c7 := Bool.eq_false_iff.mpr c7
      subst c7
      have H1 : ((madrigalref6_Chirp.f k1 x3_1 (wrap64 (65536 - (wrap64 (2048 * x4_1))))).bind fun t488 => (madrigalref6_Fit.l0 k1 l0 t488 (wrap64 (x4_1 + 1)))) = some r := by rw [if_neg (show ¬ (false = true) by decide)] at H; exact H
      clear H; have H := H1; clear H1; replace H := Option.bind_eq_some_iff.mp H; obtain ⟨t488, A100, H⟩ := H
      replace H : (madrigalref6_Fit.l0 k1 l0 t488 (wrap64 (x4_1 + 1))) = some r := H
      have A10 := Aside0.mk A100; clear A100
      have H' := Aside0.mk H
      clear H
      obtain ⟨Ao11, co11, eo11⟩ := Kd.R_slice HO_3.out
      subst eo11
      go_wp2_with (first | ((with_reducible refine gate_callee (f := 48) rfl ?_); refine goesL_ (some 15) rfl rfl Try.func48 (by kernel_rfl) rfl #[.slice Ao11 x3_1.length co11] rfl (by (try simp only [List.map_toArray, List.map_cons, List.map_nil]); first | done | rfl | (simp only [List.length_drop, List.length_take]; rfl)) ?_; (with_reducible refine (madrigalref6_Stable.calls k1 _ _ x3_1 false _ ?side1 ?side2 A6.out).mono ?_); (case side1 => repeat (first | exact (Kd.R_reads' HO_3.out).2.2 | (with_reducible refine Kd.C_alloc ?_ _) | (with_reducible refine Kd.C_drewN ?_ _) | (with_reducible refine Kd.C_drew ?_))); (case side2 => exact (Kd.R_reads' HO_3.out).2.1); rintro e w12 ⟨rfl, hb⟩; refine ⟨_, rfl, ?_⟩; have n0_ := Aside0.mk (Kd.R_below (by (with_reducible repeat first | apply Kd.R_alloc | apply Kd.R_drewN | apply Kd.R_drew); exact HO_3.out) hb); have n1_ := Aside0.mk (below_step (by repeat (with_reducible first | exact HB.out | apply below_alloc | apply pw_below_drewN | apply below_drew1)) hb); clear HO_3; clear HB; have HO_3 := n0_; have HB := n1_; clear n0_ n1_; (try clear hb); (try clear hb2); (try clear hk); (try clear hi)) | ((with_reducible refine gate_callee (f := 49) rfl ?_); refine goesL_ (some 21) rfl rfl Try.func49 (by kernel_rfl) rfl #[.slice Ao11 x3_1.length co11, .int .i64 (wrap64 (65536 - (wrap64 (2048 * x4_1))))] rfl (by (try simp only [List.map_toArray, List.map_cons, List.map_nil]); first | done | rfl | (simp only [List.length_drop, List.length_take]; rfl)) ?_; (with_reducible refine (madrigalref6_Chirp.calls k1 _ _ x3_1 (wrap64 (65536 - (wrap64 (2048 * x4_1)))) t488 _ ?side1 ?side2 A10.out).mono ?_); (case side1 => repeat (first | exact (Kd.R_reads' HO_3.out).2.2 | (with_reducible refine Kd.C_alloc ?_ _) | (with_reducible refine Kd.C_drewN ?_ _) | (with_reducible refine Kd.C_drew ?_))); (case side2 => exact (Kd.R_reads' HO_3.out).2.1); rintro e w13 ⟨v489, rfl, ho0, hb⟩; refine ⟨_, rfl, ?_⟩; have n0_ := Aside0.mk (Kd.R_elder' (by (with_reducible repeat first | apply Kd.R_alloc | apply Kd.R_drewN | apply Kd.R_drew); exact HO_3.out) (Kd.R_base ho0) hb); have n1_ := Aside0.mk (Kd.R_lower (Kd.R_new' ho0 (Kd.R_lt (by (with_reducible repeat first | apply Kd.R_alloc | apply Kd.R_drewN | apply Kd.R_drew); exact HO_3.out))) (below_size (by repeat (with_reducible first | exact HB.out | apply below_alloc | apply pw_below_drewN | apply below_drew1)))); have n2_ := Aside0.mk (below_step (by repeat (with_reducible first | exact HB.out | apply below_alloc | apply pw_below_drewN | apply below_drew1)) hb); clear HO_3; clear HB; have HO_3 := n0_; have HO490 := n1_; have HB := n2_; clear n0_ n1_ n2_; (try clear hb); (try clear hb2); (try clear hk); (try clear hi); (try clear ho0)))
      go_roundg k1
      case measure => have := HK1.out; omega
      case rel => exact ⟨(t488), (wrap64 (x4_1 + 1)), (by first | rfl | (simp; done) | (simp [*]; done)), H', ⟨by have := HK1.out; omega⟩, ⟨by (with_reducible repeat first | apply Kd.R_alloc | apply Kd.R_drewN | apply Kd.R_drew); exact Kd.R_mono HO490.out (fun _ hk => trivial)⟩, ⟨by repeat (with_reducible first | exact HB.out | apply below_alloc | apply pw_below_drewN | apply below_drew1)⟩⟩
    ·
     rw [if_neg c5] at H; have c5b0 : decide (x4_1 ≤ 16) = false := decide_eq_false c5; clear c5; replace H := Option.bind_eq_some_iff.mp H; obtain ⟨t483, A140, H⟩ := H
     replace H : (if t483 = true then (some x3_1) else (if 0 ≤ (l0.length : Int) then (if ((l0.length : Int) : Int).toNat ≤ 35184372088832 then (some (List.replicate ((l0.length : Int) : Int).toNat 0)) else (none)) else (none))) = some r := H
     have A14 := Aside0.mk A140; clear A140
     by_cases c15 : t483 = true
     ·
      subst c15
      have H1 : (some x3_1) = some r := by rw [if_pos rfl] at H; exact H
      clear H; have H := H1; clear H1
      obtain rfl := Option.some.inj H
      obtain ⟨Ao16, co16, eo16⟩ := Kd.R_slice HO_3.out
      subst eo16
      go_wp2_with (first | ((with_reducible refine gate_callee (f := 48) rfl ?_); refine goesL_ (some 23) rfl rfl Try.func48 (by kernel_rfl) rfl #[.slice Ao16 x3_1.length co16] rfl (by (try simp only [List.map_toArray, List.map_cons, List.map_nil]); first | done | rfl | (simp only [List.length_drop, List.length_take]; rfl)) ?_; (with_reducible refine (madrigalref6_Stable.calls k1 _ _ x3_1 true _ ?side1 ?side2 A14.out).mono ?_); (case side1 => repeat (first | exact (Kd.R_reads' HO_3.out).2.2 | (with_reducible refine Kd.C_alloc ?_ _) | (with_reducible refine Kd.C_drewN ?_ _) | (with_reducible refine Kd.C_drew ?_))); (case side2 => exact (Kd.R_reads' HO_3.out).2.1); rintro e w17 ⟨rfl, hb⟩; refine ⟨_, rfl, ?_⟩; have n0_ := Aside0.mk (Kd.R_below (by (with_reducible repeat first | apply Kd.R_alloc | apply Kd.R_drewN | apply Kd.R_drew); exact HO_3.out) hb); have n1_ := Aside0.mk (below_step (by repeat (with_reducible first | exact HB.out | apply below_alloc | apply pw_below_drewN | apply below_drew1)) hb); clear HO_3; clear HB; have HO_3 := n0_; have HB := n1_; clear n0_ n1_; (try clear hb); (try clear hb2); (try clear hk); (try clear hi)))
      go_ret
      exact ⟨_, by first | rfl | (simp [errW_none, errW_some] <;> rfl) | (simp [*, errW_none, errW_some] <;> rfl), by (with_reducible repeat first | apply Kd.R_alloc | apply Kd.R_drewN | apply Kd.R_drew); exact HO_3.out, by repeat (with_reducible first | exact HB.out | apply below_alloc | apply pw_below_drewN | apply below_drew1)⟩
     ·
      replace c15 := Bool.eq_false_iff.mpr c15
      subst c15
      have H1 : (if 0 ≤ (l0.length : Int) then (if ((l0.length : Int) : Int).toNat ≤ 35184372088832 then (some (List.replicate ((l0.length : Int) : Int).toNat 0)) else (none)) else (none)) = some r := by rw [if_neg (show ¬ (false = true) by decide)] at H; exact H
      clear H; have H := H1; clear H1
      by_cases c18 : 0 ≤ (l0.length : Int)
      ·
       rw [if_pos c18] at H; have c18b0 := eq_true c18
       have c18b1 : decide (0 ≤ (l0.length : Int)) = true := decide_eq_true c18
       clear c18
       by_cases c19 : ((l0.length : Int) : Int).toNat ≤ 35184372088832
       ·
        rw [if_pos c19] at H; have c19b0 := eq_true c19
        have c19b1 : decide (((l0.length : Int) : Int).toNat ≤ 35184372088832) = true := decide_eq_true c19
        clear c19
        obtain ⟨y484, hy484⟩ : ∃ y_ : List Int, y_ = (List.replicate ((l0.length : Int) : Int).toNat 0) := ⟨_, rfl⟩
        replace H : (some y484) = some r := by first | (rw [hy484]; with_reducible exact H) | (have H2_ := (Option.bind_some _ _).symm.trans H; rw [hy484]; with_reducible exact H2_) | (have H2_ := (Option.bind_some _ _).symm.trans H; with_reducible exact H2_) | with_reducible exact H | (rw [hy484]; exact H) | exact H
        have Ny484 := Aside0.mk hy484; clear hy484
        obtain rfl := Option.some.inj H
        obtain ⟨Ao20, co20, eo20⟩ := Kd.R_slice HO_3.out
        subst eo20
        go_wp2_with (first | ((with_reducible refine gate_callee (f := 48) rfl ?_); refine goesL_ (some 23) rfl rfl Try.func48 (by kernel_rfl) rfl #[.slice Ao20 x3_1.length co20] rfl (by (try simp only [List.map_toArray, List.map_cons, List.map_nil]); first | done | rfl | (simp only [List.length_drop, List.length_take]; rfl)) ?_; (with_reducible refine (madrigalref6_Stable.calls k1 _ _ x3_1 false _ ?side1 ?side2 A14.out).mono ?_); (case side1 => repeat (first | exact (Kd.R_reads' HO_3.out).2.2 | (with_reducible refine Kd.C_alloc ?_ _) | (with_reducible refine Kd.C_drewN ?_ _) | (with_reducible refine Kd.C_drew ?_))); (case side2 => exact (Kd.R_reads' HO_3.out).2.1); rintro e w21 ⟨rfl, hb⟩; refine ⟨_, rfl, ?_⟩; have n0_ := Aside0.mk (Kd.R_below (by (with_reducible repeat first | apply Kd.R_alloc | apply Kd.R_drewN | apply Kd.R_drew); exact HO_3.out) hb); have n1_ := Aside0.mk (below_step (by repeat (with_reducible first | exact HB.out | apply below_alloc | apply pw_below_drewN | apply below_drew1)) hb); clear HO_3; clear HB; have HO_3 := n0_; have HB := n1_; clear n0_ n1_; (try clear hb); (try clear hb2); (try clear hk); (try clear hi)) | ((with_reducible refine gate_dst (N := 27) rfl ?_); refine Kd.R_make (Kd.int .i64) _ 2 rfl (N := 27) rfl 23 _ _ rfl (l0.length : Int) rfl rfl Try.underlying23 (.int .i64 0) 8 info2 rfl (by decide) (by omega) 0 (ok := fun _ => True) (okp := fun _ => True) rfl (fun _ hk => hk) trivial (of_decide_eq_true (by first | (with_reducible assumption) | assumption)) (Nat.le_trans (Nat.mul_le_mul_right _ (of_decide_eq_true (by first | (with_reducible assumption) | assumption) : (l0.length : Int).toNat ≤ 35184372088832)) (by omega)) (Below.refl _ _) (Nat.le_refl _) ?_; intro v485 w22 ho23 hb hg_ hnew_; clear hg_ hnew_; (first | rw [← Ny484.out] at ho23 | (simp only [Int.reduceToNat] at ho23; rw [← Ny484.out] at ho23)); have n0_ := Aside0.mk (Kd.R_elder' (by (with_reducible repeat first | apply Kd.R_alloc | apply Kd.R_drewN | apply Kd.R_drew); exact HO_3.out) (Kd.R_base ho23) hb); have n1_ := Aside0.mk (Kd.R_lower (Kd.R_new' ho23 (Kd.R_lt (by (with_reducible repeat first | apply Kd.R_alloc | apply Kd.R_drewN | apply Kd.R_drew); exact HO_3.out))) (below_size (by repeat (with_reducible first | exact HB.out | apply below_alloc | apply pw_below_drewN | apply below_drew1)))); have n2_ := Aside0.mk (below_step (by repeat (with_reducible first | exact HB.out | apply below_alloc | apply pw_below_drewN | apply below_drew1)) hb); clear HO_3; clear HB; have HO_3 := n0_; have HO486 := n1_; have HB := n2_; clear n0_ n1_ n2_; clear hb ho23))
        go_ret
        exact ⟨_, by first | rfl | (simp [errW_none, errW_some] <;> rfl) | (simp [*, errW_none, errW_some] <;> rfl), by (with_reducible repeat first | apply Kd.R_alloc | apply Kd.R_drewN | apply Kd.R_drew); exact Kd.R_mono HO486.out (fun _ hk => trivial), by repeat (with_reducible first | exact HB.out | apply below_alloc | apply pw_below_drewN | apply below_drew1)⟩
       ·
        rw [if_neg c19] at H; exact absurd H (by simp)
      ·
       rw [if_neg c18] at H; exact absurd H (by simp)

end Go.Proofs.Ytgbdkefglmjdoaa.MA
