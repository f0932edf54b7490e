/- Functions of the program as plain Lean functions, and that the code comes to their answers. No condition. -/
import Derived.Test.YtgbdkefglmjdoaaMAx0
import Derived.Test.YtgbdkefglmjdoaaMAx1
namespace Go.Proofs.Ytgbdkefglmjdoaa.MA
open Go.RowKit Go.Proofs.YtgbdkefglmjdoaaW.PrintWords Go.Proofs.YtgbdkefglmjdoaaW.PrintLast Go.Proofs.YtgbdkefglmjdoaaW.PrintMore
attribute [local go_sem] max2_int min2_int max_two min_two max_three min_three max_four min_four
set_option linter.unusedVariables false
set_option linter.unusedSimpArgs false

/-! ### tabs_Lsf: function 43 -/
mutual
def tabs_Lsf.j0 : Nat → Int → Int → Bool → Option (List Int)
 | 0, _, _, _ => none
 | k + 1, x0, x1, x21 => if x21 = true then (some ([] : List Int)) else (if x0 = 16 then (tabs_Lsf.j1 k x0 x1 14) else (tabs_Lsf.j1 k x0 x1 24))
def tabs_Lsf.j1 : Nat → Int → Int → Int → Option (List Int)
 | 0, _, _, _ => none
 | k + 1, x0, x1, x5 => if 0 ≤ x0 then (if (x0 : Int).toNat ≤ 35184372088832 then ((some (List.replicate (x0 : Int).toNat 0 : List Int)).bind fun y226 => (tabs_Lsf.l0 k x0 x1 x5 y226 (y226.length : Int) 0)) else (none)) else (none)
def tabs_Lsf.l0 : Nat → Int → Int → Int → List Int → Int → Int → Option (List Int)
 | 0, _, _, _, _, _, _ => none
 | k + 1, x0, x1, x5, x6, x27, x28 => if x28 < x27 then (if (wrap64 (x0 + 1)) = 0 then (none) else (if 0 ≤ x28 then (if x28 < (x6.length : Int) then (tabs_Lsf.l0 k x0 x1 x5 (x6.set (x28 : Int).toNat (wrap64 ((wrap64 (Int.tdiv (wrap64 (32768 * (wrap64 (x28 + 1)))) (wrap64 (x0 + 1)))) + (wrap64 (x5 * (wrap64 ((Int.tmod (wrap64 ((wrap64 (37 * x1)) + (wrap64 (53 * x28)))) 64) - 32))))))) x27 (wrap64 (x28 + 1))) else (none)) else (none))) else (some x6)
end
def tabs_Lsf.f (k : Nat) (a0 : Int) (a1 : Int) : Option (List Int) := if a0 = 10 then (if a1 < 0 then (tabs_Lsf.j0 k a0 a1 true) else (tabs_Lsf.j0 k a0 a1 (decide (a1 ≥ 16)))) else (if a0 = 16 then (if a1 < 0 then (tabs_Lsf.j0 k a0 a1 true) else (tabs_Lsf.j0 k a0 a1 (decide (a1 ≥ 16)))) else (tabs_Lsf.j0 k a0 a1 true))
set_option maxHeartbeats 8000000 in
set_option maxRecDepth 100000 in
theorem tabs_Lsf.calls (k : Nat) (a0 : Int) (a1 : Int) (r : List Int) (w : World) (h : tabs_Lsf.f k a0 a1 = some r) :
  Calls Try.prog 43 #[.int .i64 a0, .int .i64 a1] w fun e w' => ∃ v0_ : Value, e = .returned (v0_) ∧ Kd.R (Kd.int .i64) 2 w' w.heap.size (fun _ => True) v0_ r ∧ Below w.heap.size w w' := by
 have HB := Aside0.mk (Below.refl w.heap.size w)
 have H : (if a0 = 10 then (if a1 < 0 then (tabs_Lsf.j0 k a0 a1 true) else (tabs_Lsf.j0 k a0 a1 (decide (a1 ≥ 16)))) else (if a0 = 16 then (if a1 < 0 then (tabs_Lsf.j0 k a0 a1 true) else (tabs_Lsf.j0 k a0 a1 (decide (a1 ≥ 16)))) else (tabs_Lsf.j0 k a0 a1 true))) = some r := h
 clear h; have HC3 := Aside0.mk H; clear H
 go_enter Try.func43, Try.ntmps43
 go_upto_region 1 with (fail)
 go_cut [21] (fun v21 wc => ∃ (kq : Nat) (x21_2 : Bool), v21 = .bool x21_2 ∧ Aside0 (tabs_Lsf.j0 kq a0 a1 x21_2 = some r) ∧ Aside0 (kq ≤ k) ∧ Aside0 (Below w.heap.size w wc))
 case first =>
  have H := HC3.out; clear HC3
  by_cases c4 : a0 = 10
  ·
   rw [if_pos c4] at H; have c4b0 : (a0 == 10) = true := beq_iff_eq.mpr c4; have c4b1 : (a0 != 10) = false := bne_eq_false_iff_eq.mpr c4; clear c4
   (first | rw [c4b0] | (simp only [i64_w, i32_w]; rw [c4b0]) | skip)
   by_cases c5 : a1 < 0
   ·
    rw [if_pos c5] at H; have c5b0 : decide (a1 < 0) = true := decide_eq_true c5; clear c5; have H' := Aside0.mk H; clear H
    go_wp2
    go_meet
    case rel => exact ⟨_, (true), (by first | rfl | (simp; done) | (simp [*]; done)), H', ⟨by first | omega | exact Nat.le_refl _⟩, ⟨by repeat (with_reducible first | exact HB.out | apply below_alloc | apply pw_below_drewN | apply below_drew1)⟩⟩
   ·
    rw [if_neg c5] at H; have c5b0 : decide (a1 < 0) = false := decide_eq_false c5; clear c5; have H' := Aside0.mk H; clear H
    go_wp2
    go_meet
    case rel => exact ⟨_, (decide (a1 ≥ 16)), (by first | rfl | (simp; done) | (simp [*]; done)), H', ⟨by first | omega | exact Nat.le_refl _⟩, ⟨by repeat (with_reducible first | exact HB.out | apply below_alloc | apply pw_below_drewN | apply below_drew1)⟩⟩
  ·
   rw [if_neg c4] at H; have c4b0 : (a0 == 10) = false := beq_eq_false_iff_ne.mpr c4; have c4b1 : (a0 != 10) = true := bne_iff_ne.mpr c4
   (first | rw [c4b0] | (simp only [i64_w, i32_w]; rw [c4b0]) | skip)
   by_cases c6 : a0 = 16
   ·
    rw [if_pos c6] at H; have c6b0 : (a0 == 16) = true := beq_iff_eq.mpr c6; have c6b1 : (a0 != 16) = false := bne_eq_false_iff_eq.mpr c6; clear c6
    by_cases c7 : a1 < 0
    ·
     rw [if_pos c7] at H; have c7b0 : decide (a1 < 0) = true := decide_eq_true c7; clear c7; have H' := Aside0.mk H; clear H
     go_wp2
     go_meet
     case rel => exact ⟨_, (true), (by first | rfl | (simp; done) | (simp [*]; done)), H', ⟨by first | omega | exact Nat.le_refl _⟩, ⟨by repeat (with_reducible first | exact HB.out | apply below_alloc | apply pw_below_drewN | apply below_drew1)⟩⟩
    ·
     rw [if_neg c7] at H; have c7b0 : decide (a1 < 0) = false := decide_eq_false c7; clear c7; have H' := Aside0.mk H; clear H
     go_wp2
     go_meet
     case rel => exact ⟨_, (decide (a1 ≥ 16)), (by first | rfl | (simp; done) | (simp [*]; done)), H', ⟨by first | omega | exact Nat.le_refl _⟩, ⟨by repeat (with_reducible first | exact HB.out | apply below_alloc | apply pw_below_drewN | apply below_drew1)⟩⟩
   ·
    rw [if_neg c6] at H; have c6b0 : (a0 == 16) = false := beq_eq_false_iff_ne.mpr c6; have c6b1 : (a0 != 16) = true := bne_iff_ne.mpr c6; have H' := Aside0.mk H; clear H
    go_wp2
    go_meet
    case rel => exact ⟨_, (true), (by first | rfl | (simp; done) | (simp [*]; done)), H', ⟨by first | omega | exact Nat.le_refl _⟩, ⟨by repeat (with_reducible first | exact HB.out | apply below_alloc | apply pw_below_drewN | apply below_drew1)⟩⟩
 case rest =>
  clear HC3; (try clear p2); (try clear c4); (try clear c4b0); (try clear c4b0z0); (try clear c4b1); (try clear c4b1z0); (try clear c5); (try clear c5b0); (try clear c5b0z0); (try clear c6); (try clear c6b0); (try clear c6b0z0); (try clear c6b1); (try clear c6b1z0); (try clear c7); (try clear c7b0); (try clear c7b0z0)
  obtain ⟨kq, x21_2, rfl, HA, HJ2, HB⟩ := hcut
  cases kq with
  | zero => exact absurd HA.out (by simp [tabs_Lsf.j0])
  | succ kj2 =>
   have H := HA.out; clear HA
   simp only [tabs_Lsf.j0] at H
   by_cases c8 : x21_2 = true
   ·
    subst c8
    have H1 : (some ([] : List Int)) = some r := by rw [if_pos rfl] at H; exact H
    clear H; have H := H1; clear H1
    obtain rfl := Option.some.inj H
    go_wp2
    go_ret
    exact ⟨_, by first | rfl | (simp [errW_none, errW_some] <;> rfl) | (simp [*, errW_none, errW_some] <;> rfl), by first | exact Kd.R_nil _ _ _ _ _ | exact Kd.N_nil _ _ _ _ _ | exact Kd.V_nil _ _ _ _ _ | exact Kd.Q_nil _ _ _ _ _ | exact Kd.S_nil _ _ _ _ _, by repeat (with_reducible first | exact HB.out | apply below_alloc | apply pw_below_drewN | apply below_drew1)⟩
   ·
    replace c8 := Bool.eq_false_iff.mpr c8
    subst c8
    have H1 : (if a0 = 16 then (tabs_Lsf.j1 kj2 a0 a1 14) else (tabs_Lsf.j1 kj2 a0 a1 24)) = some r := by rw [if_neg (show ¬ (false = true) by decide)] at H; exact H
    clear H; have H := H1; clear H1; have HC9 := Aside0.mk H; clear H
    go_upto_if 23 with (fail)
    go_cut [5] (fun v5 wc => ∃ (kq : Nat) (x5_8 : Int), v5 = .int .i64 x5_8 ∧ Aside0 (tabs_Lsf.j1 kq a0 a1 x5_8 = some r) ∧ Aside0 (kq ≤ kj2) ∧ Aside0 (Below w.heap.size w wc))
    case first =>
     have H := HC9.out; clear HC9
     by_cases c10 : a0 = 16
     ·
      rw [if_pos c10] at H; have c10b0 : (a0 == 16) = true := beq_iff_eq.mpr c10; have c10b1 : (a0 != 16) = false := bne_eq_false_iff_eq.mpr c10; clear c10
      (first | rw [c10b0] | (simp only [i64_w, i32_w]; rw [c10b0]) | skip)
      have H' := Aside0.mk H; clear H
      go_wp2
      go_meet
      case rel => exact ⟨_, (14), (by first | rfl | (simp; done) | (simp [*]; done)), H', ⟨by have := HJ2.out; first | omega | exact Nat.le_refl _⟩, ⟨by repeat (with_reducible first | exact HB.out | apply below_alloc | apply pw_below_drewN | apply below_drew1)⟩⟩
     ·
      rw [if_neg c10] at H; have c10b0 : (a0 == 16) = false := beq_eq_false_iff_ne.mpr c10; have c10b1 : (a0 != 16) = true := bne_iff_ne.mpr c10
      (first | rw [c10b0] | (simp only [i64_w, i32_w]; rw [c10b0]) | skip)
      have H' := Aside0.mk H; clear H
      go_wp2
      go_meet
      case rel => exact ⟨_, (24), (by first | rfl | (simp; done) | (simp [*]; done)), H', ⟨by have := HJ2.out; first | omega | exact Nat.le_refl _⟩, ⟨by repeat (with_reducible first | exact HB.out | apply below_alloc | apply pw_below_drewN | apply below_drew1)⟩⟩
    case rest =>
     clear HC9; (try clear c1); (try clear p2); (try clear c4); (try clear c4b0); (try clear c4b0z0); (try clear c4b1); (try clear c4b1z0); (try clear c5); (try clear c5b0); (try clear c5b0z0); (try clear c6); (try clear c6b0); (try clear c6b0z0); (try clear c6b1); (try clear c6b1z0); (try clear c7); (try clear c7b0); (try clear c7b0z0); (try clear c8); (try clear c10); (try clear c10b0); (try clear c10b0z0); (try clear c10b1); (try clear c10b1z0); (try clear p2)
     obtain ⟨kq, x5_8, rfl, HA, HJ8, HB⟩ := hcut
     cases kq with
     | zero => exact absurd HA.out (by simp [tabs_Lsf.j1])
     | succ kj8 =>
      have H := HA.out; clear HA
      simp only [tabs_Lsf.j1] at H
      by_cases c11 : 0 ≤ a0; rotate_left
      · rw [if_neg c11] at H; exact absurd H (by simp)
      rw [if_pos c11] at H; have c11b0 := eq_true c11; have c11b1 : decide (0 ≤ a0) = true := decide_eq_true c11; clear c11
      by_cases c12 : (a0 : Int).toNat ≤ 35184372088832; rotate_left
      · rw [if_neg c12] at H; exact absurd H (by simp)
      rw [if_pos c12] at H; have c12b0 := eq_true c12; have c12b1 : decide ((a0 : Int).toNat ≤ 35184372088832) = true := decide_eq_true c12; clear c12
      obtain ⟨y226, hy226⟩ : ∃ y_ : List Int, y_ = (List.replicate (a0 : Int).toNat 0) := ⟨_, rfl⟩
      replace H : (tabs_Lsf.l0 kj8 a0 a1 x5_8 y226 (y226.length : Int) 0) = some r := by first | (rw [hy226]; with_reducible exact H) | (have H2_ := (Option.bind_some _ _).symm.trans H; rw [hy226]; with_reducible exact H2_) | (have H2_ := (Option.bind_some _ _).symm.trans H; with_reducible exact H2_) | with_reducible exact H | (rw [hy226]; exact H) | exact H
      have Ny226 := Aside0.mk hy226; clear hy226; have H' := Aside0.mk H; clear H
      go_wp2_with (first | ((with_reducible refine gate_dst (N := 25) rfl ?_); refine Kd.R_make (Kd.int .i64) _ 2 rfl (N := 25) rfl 23 _ _ rfl a0 rfl rfl Try.underlying23 (.int .i64 0) 8 info2 rfl (by decide) (by omega) 0 (ok := fun _ => True) (okp := fun _ => True) rfl (fun _ hk => hk) trivial (of_decide_eq_true (by first | (with_reducible assumption) | assumption)) (Nat.le_trans (Nat.mul_le_mul_right _ (of_decide_eq_true (by first | (with_reducible assumption) | assumption) : a0.toNat ≤ 35184372088832)) (by omega)) (Below.refl _ _) (Nat.le_refl _) ?_; intro v227 w13 ho14 hb hg_ hnew_; clear hg_ hnew_; (first | rw [← Ny226.out] at ho14 | (simp only [Int.reduceToNat] at ho14; rw [← Ny226.out] at ho14)); have n0_ := Aside0.mk (Kd.R_lower ho14 (below_size (by repeat (with_reducible first | exact HB.out | apply below_alloc | apply pw_below_drewN | apply below_drew1)))); have n1_ := Aside0.mk (below_step (by repeat (with_reducible first | exact HB.out | apply below_alloc | apply pw_below_drewN | apply below_drew1)) hb); clear HB; have HO228 := n0_; have HB := n1_; clear n0_ n1_; clear hb ho14; obtain ⟨Ao15, co15, eo15⟩ := Kd.R_slice HO228.out; subst eo15))
      go_loopg [28] kj8 (fun kq v28 w' => ∃ (x6_3 : List Int) (x28_3 : Int), v28 = .int .i64 x28_3 ∧ Aside0 (tabs_Lsf.l0 kq a0 a1 x5_8 x6_3 (y226.length : Int) x28_3 = some r) ∧ Aside0 (kq ≤ kj8) ∧ Aside0 (Kd.R (Kd.int .i64) 2 w' w.heap.size (fun _ => True) (.slice Ao15 y226.length co15) x6_3) ∧ Aside0 (Below w.heap.size w w'))
      case atStart => exact ⟨(y226), (0), (by first | rfl | (simp; done) | (simp [*]; done)), H', ⟨Nat.le_refl _⟩, ⟨by (with_reducible repeat first | apply Kd.R_alloc | apply Kd.R_drewN | apply Kd.R_drew); exact HO228.out⟩, ⟨by repeat (with_reducible first | exact HB.out | apply below_alloc | apply pw_below_drewN | apply below_drew1)⟩⟩
      case round =>
       clear H'
       (try clear c1); (try clear p2); (try clear c4); (try clear c4b0); (try clear c4b0z0); (try clear c4b1); (try clear c4b1z0); (try clear c5); (try clear c5b0); (try clear c5b0z0); (try clear c6); (try clear c6b0); (try clear c6b0z0); (try clear c6b1); (try clear c6b1z0); (try clear c7); (try clear c7b0); (try clear c7b0z0); (try clear c8); (try clear c10); (try clear c10b0); (try clear c10b0z0); (try clear c10b1); (try clear c10b1z0); (try clear c11); (try clear c11b0); (try clear c11b0z0); (try clear c11b1); (try clear c11b1z0); (try clear c12); (try clear c12b0); (try clear c12b0z0); (try clear c12b1); (try clear c12b1z0); (try clear p2)
       obtain ⟨x6_3, x28_3, rfl, HA, HK3, HO_6, HB⟩ := hrel
       have hl6_3 := (Kd.R_reads' HO_6.out).1
       rw [hl6_3] at HO_6; (try simp only [hl6_3])
       cases gk with
       | zero => exact absurd HA.out (by simp [tabs_Lsf.l0])
       | succ k3 =>
        have H := HA.out; clear HA
        simp only [tabs_Lsf.l0] at H
        by_cases c16 : x28_3 < (y226.length : Int)
        ·
         rw [if_pos c16] at H; have c16b0 : decide (x28_3 < (y226.length : Int)) = true := decide_eq_true c16
         (try (have c16b0z0 := c16b0; rw [hl6_3] at c16b0z0))
         clear c16
         by_cases c17 : (wrap64 (a0 + 1)) = 0
         ·
          rw [if_pos c17] at H; exact absurd H (by simp)
         ·
          rw [if_neg c17] at H; have c17b0 : ((wrap64 (a0 + 1)) == 0) = false := beq_eq_false_iff_ne.mpr c17; have c17b1 : ((wrap64 (a0 + 1)) != 0) = true := bne_iff_ne.mpr c17
          by_cases c18 : 0 ≤ x28_3; rotate_left
          · rw [if_neg c18] at H; exact absurd H (by simp)
          rw [if_pos c18] at H; have c18b0 : decide (0 ≤ x28_3) = true := decide_eq_true c18; clear c18
          by_cases c19 : x28_3 < (x6_3.length : Int); rotate_left
          · rw [if_neg c19] at H; exact absurd H (by simp)
          rw [if_pos c19] at H; have c19b0 : decide (x28_3 < (x6_3.length : Int)) = true := decide_eq_true c19
          (try (have c19b0z0 := c19b0; rw [hl6_3] at c19b0z0))
          clear c19
          obtain ⟨y229, hy229⟩ : ∃ y_ : List Int, y_ = (x6_3.set (x28_3 : Int).toNat (wrap64 ((wrap64 (Int.tdiv (wrap64 (32768 * (wrap64 (x28_3 + 1)))) (wrap64 (a0 + 1)))) + (wrap64 (x5_8 * (wrap64 ((Int.tmod (wrap64 ((wrap64 (37 * a1)) + (wrap64 (53 * x28_3)))) 64) - 32))))))) := ⟨_, rfl⟩
          replace H : (tabs_Lsf.l0 k3 a0 a1 x5_8 y229 (y226.length : Int) (wrap64 (x28_3 + 1))) = some r := by first | (rw [hy229]; with_reducible exact H) | (have H2_ := (Option.bind_some _ _).symm.trans H; rw [hy229]; with_reducible exact H2_) | (have H2_ := (Option.bind_some _ _).symm.trans H; with_reducible exact H2_) | with_reducible exact H | (rw [hy229]; exact H) | exact H
          have Ny229 := Aside0.mk hy229; clear hy229; have H' := Aside0.mk H; clear H; have p20 : 0 ≤ (x28_3 : Int) := of_decide_eq_true (by first | (with_reducible assumption) | assumption); have q20 : (x28_3 : Int) < ((x6_3.length : Int) : Int) := of_decide_eq_true (by first | (with_reducible assumption) | assumption)
          obtain ⟨go20, co20, eo20, gb20, gl20, cl20, HG20⟩ := Kd.R_form HO_6.out (by omega)
          (first | cases eo20 | (injection eo20 with ea_ en_ ec_; (first | subst ea_ | (injection ea_ with ea_; subst ea_)); subst ec_; clear en_))
          have GB20 := Aside0.mk gb20; have GG20 := Aside0.mk HG20; clear gb20 gl20 HG20
          obtain ⟨hx20_0, hf20_0⟩ := Kd.R_celln 0 HO_6.out (x28_3 : Int) p20 q20
          replace p20 := eq_true p20; replace q20 := eq_true q20
          have HP21 := Kd.R_putg HO_6.out (x28_3 : Int) (wrap64 ((wrap64 (Int.tdiv (wrap64 (32768 * (wrap64 (x28_3 + 1)))) (wrap64 (a0 + 1)))) + (wrap64 (x5_8 * (wrap64 ((Int.tmod (wrap64 ((wrap64 (37 * a1)) + (wrap64 (53 * x28_3)))) 64) - 32))))))
          go_wp2_with (first | ((with_reducible refine gate_store (t := 2) (p := 49) rfl ?_); refine store_event (t := 2) (p := 49) (v := ?vo_w22) (w1 := (wr.setCell ⟨go20, (x28_3 : Int).toNat, none⟩ (.int .i64 (wrap64 ((wrap64 (Int.tdiv (wrap64 (32768 * (wrap64 (x28_3 + 1)))) (wrap64 (a0 + 1)))) + (wrap64 (x5_8 * (wrap64 ((Int.tmod (wrap64 ((wrap64 (37 * a1)) + (wrap64 (53 * x28_3)))) 64) - 32))))))))) ?hg ?ho ?hn ?hr ?_; (case ho => rfl); (case hg => rfl); (case hn => rfl); (case hr => first | (go_simp; done) | (go_simp; rfl)); intro w22 hw; have hg : wr.grownBy w22 (some go20) := (by rw [hw]; exact HP21.2); have hp_ : Kd.R (Kd.int .i64) 2 w22 w.heap.size (fun _ => True) (.slice (some ⟨go20, 0, none⟩) x6_3.length co15) y229 := (by rw [hw, Ny229.out]; exact HP21.1); clear HP21; have n0_ := Aside0.mk (hp_); have n1_ := Aside0.mk ((by rw [hw]; exact below_set (HB.out) GB20.out : Below w.heap.size w w22)); clear HO_6; clear HB; have HO_6 := n0_; have HB := n1_; clear n0_ n1_; clear hg hw hp_))
          (try simp only [← hl6_3])
          go_roundg k3
          case measure => have := HJ2.out; have := HJ8.out; have := HK3.out; omega
          case rel => exact ⟨(y229), (wrap64 (x28_3 + 1)), (by first | rfl | (simp; done) | (simp [*]; done)), H', ⟨by have := HJ2.out; have := HJ8.out; have := HK3.out; omega⟩, ⟨by (try simp only [hl6_3]); (with_reducible repeat first | apply Kd.R_alloc | apply Kd.R_drewN | apply Kd.R_drew); exact HO_6.out⟩, ⟨by repeat (with_reducible first | exact HB.out | apply below_alloc | apply pw_below_drewN | apply below_drew1)⟩⟩
        ·
         rw [if_neg c16] at H; have c16b0 : decide (x28_3 < (y226.length : Int)) = false := decide_eq_false c16
         (try (have c16b0z0 := c16b0; rw [hl6_3] at c16b0z0))
         clear c16
         obtain rfl := Option.some.inj H
         go_wp2
         go_ret
         exact ⟨_, by first | rfl | (simp [errW_none, errW_some] <;> rfl) | (simp [*, errW_none, errW_some] <;> rfl), by (with_reducible repeat first | apply Kd.R_alloc | apply Kd.R_drewN | apply Kd.R_drew); exact HO_6.out, by repeat (with_reducible first | exact HB.out | apply below_alloc | apply pw_below_drewN | apply below_drew1)⟩

/-! ### lsf_clamped: function 55 -/
def lsf_clamped.l0 : Nat → List Int → List Int → Int → Int → Option (List Int)
 | 0, _, _, _, _ => none
 | k + 1, x3, x9, x10, x11 => if x11 < x10 then (if 0 ≤ x11 then (if x11 < (x9.length : Int) then ((fix_Clamp.f k (rd x9 x11) 0 32768).bind fun t234 => (if x11 < (x3.length : Int) then (lsf_clamped.l0 k (x3.set (x11 : Int).toNat t234) x9 x10 (wrap64 (x11 + 1))) else (none))) else (none)) else (none)) else (some x3)
def lsf_clamped.f (k : Nat) (l0 : List Int) : Option (List Int) := if 0 ≤ (l0.length : Int) then (if ((l0.length : Int) : Int).toNat ≤ 35184372088832 then (lsf_clamped.l0 k (List.replicate ((l0.length : Int) : Int).toNat 0) l0 (l0.length : Int) 0) else (none)) else (none)
set_option maxHeartbeats 8000000 in
set_option maxRecDepth 100000 in
theorem lsf_clamped.calls (k : Nat) (A0 : Option Addr) (c0 : Nat) (l0 : List Int) (r : List Int) (w : World) (hr0 : Kd.C (Kd.int .i64) w A0 l0.length l0) (hc0 : l0.length ≤ c0) (h : lsf_clamped.f k l0 = some r) :
  Calls Try.prog 55 #[.slice A0 l0.length c0] w fun e w' => ∃ v0_ : Value, e = .returned (v0_) ∧ Kd.R (Kd.int .i64) 2 w' w.heap.size (fun _ => True) v0_ r ∧ Below w.heap.size w w' := by
 have HR0 := Aside0.mk hr0; have HC0 := Aside0.mk hc0; clear hr0 hc0
 have HB := Aside0.mk (Below.refl w.heap.size w)
 have H : (if 0 ≤ (l0.length : Int) then (if ((l0.length : Int) : Int).toNat ≤ 35184372088832 then (lsf_clamped.l0 k (List.replicate ((l0.length : Int) : Int).toNat 0) l0 (l0.length : Int) 0) else (none)) else (none)) = some r := h
 clear h
 by_cases c2 : 0 ≤ (l0.length : Int); rotate_left
 · rw [if_neg c2] at H; exact absurd H (by simp)
 rw [if_pos c2] at H; have c2b0 := eq_true c2; have c2b1 : decide (0 ≤ (l0.length : Int)) = true := decide_eq_true c2; clear c2
 by_cases c3 : ((l0.length : Int) : Int).toNat ≤ 35184372088832; rotate_left
 · rw [if_neg c3] at H; exact absurd H (by simp)
 rw [if_pos c3] at H; have c3b0 := eq_true c3; have c3b1 : decide (((l0.length : Int) : Int).toNat ≤ 35184372088832) = true := decide_eq_true c3; clear c3
 obtain ⟨y230, hy230⟩ : ∃ y_ : List Int, y_ = (List.replicate ((l0.length : Int) : Int).toNat 0) := ⟨_, rfl⟩
 replace H : (lsf_clamped.l0 k y230 l0 (l0.length : Int) 0) = some r := by first | (rw [hy230]; with_reducible exact H) | (have H2_ := (Option.bind_some _ _).symm.trans H; rw [hy230]; with_reducible exact H2_) | (have H2_ := (Option.bind_some _ _).symm.trans H; with_reducible exact H2_) | with_reducible exact H | (rw [hy230]; exact H) | exact H
 have Ny230 := Aside0.mk hy230; clear hy230; have H' := Aside0.mk H; clear H
 go_enter Try.func55, Try.ntmps55
 go_wp2_with (first | ((with_reducible refine gate_dst (N := 8) rfl ?_); refine Kd.R_make (Kd.int .i64) _ 2 rfl (N := 8) rfl 23 _ _ rfl (l0.length : Int) rfl rfl Try.underlying23 (.int .i64 0) 8 info2 rfl (by decide) (by omega) 0 (ok := fun _ => True) (okp := fun _ => True) rfl (fun _ hk => hk) trivial (of_decide_eq_true (by first | (with_reducible assumption) | assumption)) (Nat.le_trans (Nat.mul_le_mul_right _ (of_decide_eq_true (by first | (with_reducible assumption) | assumption) : (l0.length : Int).toNat ≤ 35184372088832)) (by omega)) (Below.refl _ _) (Nat.le_refl _) ?_; intro v231 w4 ho5 hb hg_ hnew_; clear hg_ hnew_; (first | rw [← Ny230.out] at ho5 | (simp only [Int.reduceToNat] at ho5; rw [← Ny230.out] at ho5)); have n0_ := Aside0.mk (Kd.R_lower ho5 (below_size (by repeat (with_reducible first | exact HB.out | apply below_alloc | apply pw_below_drewN | apply below_drew1)))); have n1_ := Aside0.mk (below_step (by repeat (with_reducible first | exact HB.out | apply below_alloc | apply pw_below_drewN | apply below_drew1)) hb); clear HB; have HO232 := n0_; have HB := n1_; clear n0_ n1_; clear hb ho5))
 go_loopg [11] k (fun kq v11 w' => ∃ (x3_1 : List Int) (x11_1 : Int), v11 = .int .i64 x11_1 ∧ Aside0 (lsf_clamped.l0 kq x3_1 l0 (l0.length : Int) x11_1 = some r) ∧ Aside0 (kq ≤ k) ∧ Aside0 (Kd.R (Kd.int .i64) 2 w' w.heap.size (fun _ => True) v231 x3_1) ∧ Aside0 (Below w.heap.size w w'))
 case atStart => exact ⟨(y230), (0), (by first | rfl | (simp; done) | (simp [*]; done)), H', ⟨Nat.le_refl _⟩, ⟨by (with_reducible repeat first | apply Kd.R_alloc | apply Kd.R_drewN | apply Kd.R_drew); exact HO232.out⟩, ⟨by repeat (with_reducible first | exact HB.out | apply below_alloc | apply pw_below_drewN | apply below_drew1)⟩⟩
 case round =>
  clear H'
  (try clear c2); (try clear c2b0); (try clear c2b0z0); (try clear c2b1); (try clear c2b1z0); (try clear p2); (try clear c3); (try clear c3b0); (try clear c3b0z0); (try clear c3b1); (try clear c3b1z0); (try clear c5)
  obtain ⟨x3_1, x11_1, rfl, HA, HK1, HO_3, HB⟩ := hrel
  cases gk with
  | zero => exact absurd HA.out (by simp [lsf_clamped.l0])
  | succ k1 =>
   have H := HA.out; clear HA
   simp only [lsf_clamped.l0] at H
   by_cases c6 : x11_1 < (l0.length : Int)
   ·
    rw [if_pos c6] at H; have c6b0 : decide (x11_1 < (l0.length : Int)) = true := decide_eq_true c6; clear c6
    by_cases c7 : 0 ≤ x11_1; rotate_left
    · rw [if_neg c7] at H; exact absurd H (by simp)
    rw [if_pos c7] at H; have c7b0 : decide (0 ≤ x11_1) = true := decide_eq_true c7; clear c7
    by_cases c8 : x11_1 < (l0.length : Int); rotate_left
    · rw [if_neg c8] at H; exact absurd H (by simp)
    rw [if_pos c8] at H; have c8b0 : decide (x11_1 < (l0.length : Int)) = true := decide_eq_true c8; clear c8; replace H := Option.bind_eq_some_iff.mp H; obtain ⟨t234, A90, H⟩ := H
    replace H : (if x11_1 < (x3_1.length : Int) then (lsf_clamped.l0 k1 (x3_1.set (x11_1 : Int).toNat t234) l0 (l0.length : Int) (wrap64 (x11_1 + 1))) else (none)) = some r := H
    have A9 := Aside0.mk A90; clear A90
    by_cases c10 : x11_1 < (x3_1.length : Int); rotate_left
    · rw [if_neg c10] at H; exact absurd H (by simp)
    rw [if_pos c10] at H; have c10b0 : decide (x11_1 < (x3_1.length : Int)) = true := decide_eq_true c10; clear c10
    obtain ⟨y235, hy235⟩ : ∃ y_ : List Int, y_ = (x3_1.set (x11_1 : Int).toNat t234) := ⟨_, rfl⟩
    replace H : (lsf_clamped.l0 k1 y235 l0 (l0.length : Int) (wrap64 (x11_1 + 1))) = some r := by first | (rw [hy235]; with_reducible exact H) | (have H2_ := (Option.bind_some _ _).symm.trans H; rw [hy235]; with_reducible exact H2_) | (have H2_ := (Option.bind_some _ _).symm.trans H; with_reducible exact H2_) | with_reducible exact H | (rw [hy235]; exact H) | exact H
    have Ny235 := Aside0.mk hy235; clear hy235; have H' := Aside0.mk H; clear H; have p233 : 0 ≤ (x11_1 : Int) := of_decide_eq_true (by first | (with_reducible assumption) | assumption); have q233 : x11_1 < (l0.length : Int) := of_decide_eq_true (by first | (with_reducible assumption) | assumption)
    obtain ⟨ad233, e233, hx233_0⟩ := Kd.at_int HR0.out x11_1 p233 q233
    cases e233
    replace hx233_0 := (HB.out.cell (World.block_lt_of_cell? w _ hx233_0)).trans hx233_0
    replace p233 := eq_true p233; replace q233 := eq_true q233
    go_wp2_with (first | ((with_reducible refine gate_callee (f := 26) rfl ?_); refine goesL_ (some 19) rfl rfl Try.func26 (by kernel_rfl) rfl #[.int .i64 (rd l0 x11_1), .int .i64 0, .int .i64 32768] rfl (by (try simp only [List.map_toArray, List.map_cons, List.map_nil]); first | done | rfl | (simp only [List.length_drop, List.length_take]; rfl)) ?_; (with_reducible refine (fix_Clamp.calls k1 (rd l0 x11_1) 0 32768 t234 _ A9.out).mono ?_); rintro e w' ⟨rfl, ⟨nd, rfl⟩⟩; refine ⟨_, rfl, ?_⟩; (try (rw [drewN_self wr]; generalize hq_ : World.drewN wr _ = wr; have n0_ : Aside0 (Kd.R (Kd.int .i64) 2 wr w.heap.size (fun _ => True) v231 x3_1) := ⟨by rw [← hq_]; exact (by (with_reducible repeat first | apply Kd.R_alloc | apply Kd.R_drewN | apply Kd.R_drew); exact HO_3.out)⟩; have n1_ : Aside0 (Below w.heap.size w wr) := ⟨by rw [← hq_]; exact (by repeat (with_reducible first | exact HB.out | apply below_alloc | apply pw_below_drewN | apply below_drew1))⟩; clear HO_3 HB hq_; have HO_3 := n0_; have HB := n1_; clear n0_ n1_)); have p11 : 0 ≤ (x11_1 : Int) := of_decide_eq_true (by first | (with_reducible assumption) | assumption); have q11 : (x11_1 : Int) < ((x3_1.length : Int) : Int) := of_decide_eq_true (by first | (with_reducible assumption) | assumption); obtain ⟨go11, co11, eo11, gb11, gl11, cl11, HG11⟩ := Kd.R_form HO_3.out (by omega); (first | cases eo11 | (injection eo11 with ea_ en_ ec_; (first | subst ea_ | (injection ea_ with ea_; subst ea_)); subst ec_; clear en_)); have GB11 := Aside0.mk gb11; have GG11 := Aside0.mk HG11; clear gb11 gl11 HG11; obtain ⟨hx11_0, hf11_0⟩ := Kd.R_celln 0 HO_3.out (x11_1 : Int) p11 q11; replace p11 := eq_true p11; replace q11 := eq_true q11; obtain ⟨hy12_, hz12_⟩ := Kd.R_celln 0 HO_3.out (x11_1 : Int) (of_decide_eq_true (by first | (with_reducible assumption) | assumption)) (of_decide_eq_true (by first | (with_reducible assumption) | assumption)); have HP12 := Kd.R_putg HO_3.out (x11_1 : Int) t234) | ((with_reducible refine gate_store (t := 2) (p := 20) rfl ?_); refine store_event (t := 2) (p := 20) (v := ?vo_w13) (w1 := (wr.setCell ⟨go11, (x11_1 : Int).toNat, none⟩ (.int .i64 t234))) ?hg ?ho ?hn ?hr ?_; (case ho => rfl); (case hg => rfl); (case hn => rfl); (case hr => first | (go_simp; done) | (go_simp; rfl)); intro w13 hw; have hg : wr.grownBy w13 (some go11) := (by rw [hw]; exact HP12.2); have hp_ : Kd.R (Kd.int .i64) 2 w13 w.heap.size (fun _ => True) (.slice (some ⟨go11, 0, none⟩) x3_1.length co11) y235 := (by rw [hw, Ny235.out]; exact HP12.1); clear HP12; have n0_ := Aside0.mk (hp_); have n1_ := Aside0.mk ((by rw [hw]; exact below_set (HB.out) GB11.out : Below w.heap.size w w13)); clear HO_3; clear HB; have HO_3 := n0_; have HB := n1_; clear n0_ n1_; clear hg hw hp_))
    go_roundg k1
    case measure => have := HK1.out; omega
    case rel => exact ⟨(y235), (wrap64 (x11_1 + 1)), (by first | rfl | (simp; done) | (simp [*]; done)), H', ⟨by have := HK1.out; omega⟩, ⟨by (with_reducible repeat first | apply Kd.R_alloc | apply Kd.R_drewN | apply Kd.R_drew); exact HO_3.out⟩, ⟨by repeat (with_reducible first | exact HB.out | apply below_alloc | apply pw_below_drewN | apply below_drew1)⟩⟩
   ·
    rw [if_neg c6] at H; have c6b0 : decide (x11_1 < (l0.length : Int)) = false := decide_eq_false c6; clear c6
    obtain rfl := Option.some.inj H
    go_wp2
    go_ret
    exact ⟨_, by first | rfl | (simp [errW_none, errW_some] <;> rfl) | (simp [*, errW_none, errW_some] <;> rfl), by (with_reducible repeat first | apply Kd.R_alloc | apply Kd.R_drewN | apply Kd.R_drew); exact HO_3.out, by repeat (with_reducible first | exact HB.out | apply below_alloc | apply pw_below_drewN | apply below_drew1)⟩

/-! ### lsf_Steady: function 45 -/
mutual
def lsf_Steady.l0 : Nat → List Int → Int → Int → Int → Option (List Int)
 | 0, _, _, _, _ => none
 | k + 1, x3, x4, x14, x15 => if x15 < x14 then (if 0 ≤ x15 then (if x15 < (x3.length : Int) then ((some (x3.set (x15 : Int).toNat (mx (rd x3 x15) (wrap64 (x4 + 250))) : List Int)).bind fun y240 => (lsf_Steady.l0 k y240 (rd y240 x15) x14 (wrap64 (x15 + 1)))) else (none)) else (none)) else (lsf_Steady.l1 k x3 32768 (wrap64 ((x3.length : Int) - 1)))
def lsf_Steady.l1 : Nat → List Int → Int → Int → Option (List Int)
 | 0, _, _, _ => none
 | k + 1, x3, x4, x7 => if x7 ≥ 0 then (if 0 ≤ x7 then (if x7 < (x3.length : Int) then ((some (x3.set (x7 : Int).toNat (mn (rd x3 x7) (wrap64 (x4 - 250))) : List Int)).bind fun y243 => (lsf_Steady.l1 k y243 (rd y243 x7) (wrap64 (x7 - 1)))) else (none)) else (none)) else (some x3)
end
def lsf_Steady.f (k : Nat) (l0 : List Int) : Option (List Int) := if (l0.length : Int) > 64 then (some ([] : List Int)) else ((lsf_clamped.f k l0).bind fun t236 => (lsf_Steady.l0 k t236 0 (t236.length : Int) 0))
set_option maxHeartbeats 8000000 in
set_option maxRecDepth 100000 in
theorem lsf_Steady.calls (k : Nat) (A0 : Option Addr) (c0 : Nat) (l0 : List Int) (r : List Int) (w : World) (hr0 : Kd.C (Kd.int .i64) w A0 l0.length l0) (hc0 : l0.length ≤ c0) (h : lsf_Steady.f k l0 = some r) :
  Calls Try.prog 45 #[.slice A0 l0.length c0] w fun e w' => ∃ v0_ : Value, e = .returned (v0_) ∧ Kd.R (Kd.int .i64) 2 w' w.heap.size (fun _ => True) v0_ r ∧ Below w.heap.size w w' := by
 have HR0 := Aside0.mk hr0; have HC0 := Aside0.mk hc0; clear hr0 hc0
 have HB := Aside0.mk (Below.refl w.heap.size w)
 have H : (if (l0.length : Int) > 64 then (some ([] : List Int)) else ((lsf_clamped.f k l0).bind fun t236 => (lsf_Steady.l0 k t236 0 (t236.length : Int) 0))) = some r := h
 clear h
 by_cases c2 : (l0.length : Int) > 64
 ·
  rw [if_pos c2] at H; have c2b0 : decide (64 < (l0.length : Int)) = true := decide_eq_true c2; have c2b1 : decide (64 < l0.length) = true := decide_eq_true (by omega); clear c2
  obtain rfl := Option.some.inj H
  go_enter Try.func45, Try.ntmps45
  go_wp2
  go_ret
  exact ⟨_, by first | rfl | (simp [errW_none, errW_some] <;> rfl) | (simp [*, errW_none, errW_some] <;> rfl), by first | exact Kd.R_nil _ _ _ _ _ | exact Kd.N_nil _ _ _ _ _ | exact Kd.V_nil _ _ _ _ _ | exact Kd.Q_nil _ _ _ _ _ | exact Kd.S_nil _ _ _ _ _, by repeat (with_reducible first | exact HB.out | apply below_alloc | apply pw_below_drewN | apply below_drew1)⟩
 ·
  rw [if_neg c2] at H; have c2b0 : decide (64 < (l0.length : Int)) = false := decide_eq_false c2; have c2b1 : decide (64 < l0.length) = false := decide_eq_false (by omega); clear c2; replace H := Option.bind_eq_some_iff.mp H; obtain ⟨t236, A30, H⟩ := H
  replace H : (lsf_Steady.l0 k t236 0 (t236.length : Int) 0) = some r := H
  have A3 := Aside0.mk A30; clear A30; have H' := Aside0.mk H; clear H
  go_enter Try.func45, Try.ntmps45
  go_wp2_with (first | ((with_reducible refine gate_callee (f := 55) rfl ?_); refine goesL_ (some 12) rfl rfl Try.func55 (by kernel_rfl) rfl #[.slice A0 l0.length c0] rfl (by (try simp only [List.map_toArray, List.map_cons, List.map_nil]); first | done | rfl | (simp only [List.length_drop, List.length_take]; rfl)) ?_; (with_reducible refine (lsf_clamped.calls k _ _ l0 t236 _ ?side1 ?side2 A3.out).mono ?_); (case side1 => repeat (first | exact HR0.out | (with_reducible refine Kd.C_alloc ?_ _) | (with_reducible refine Kd.C_drewN ?_ _) | (with_reducible refine Kd.C_drew ?_))); (case side2 => exact HC0.out); rintro e w4 ⟨v237, rfl, ho0, hb⟩; refine ⟨_, rfl, ?_⟩; have n0_ := Aside0.mk (Kd.R_lower ho0 (below_size (by repeat (with_reducible first | exact HB.out | apply below_alloc | apply pw_below_drewN | apply below_drew1)))); have n1_ := Aside0.mk (below_step (by repeat (with_reducible first | exact HB.out | apply below_alloc | apply pw_below_drewN | apply below_drew1)) hb); clear HB; have HO238 := n0_; have HB := n1_; clear n0_ n1_; (try clear hb); (try clear hb2); (try clear hk); (try clear hi); (try clear ho0); obtain ⟨Ao5, co5, eo5⟩ := Kd.R_slice HO238.out; subst eo5))
  go_loopg [4, 15] k (fun kq v4 v15 w' => ∃ (x3_1 : List Int) (x4_1 : Int) (x15_1 : Int), v4 = .int .i64 x4_1 ∧ v15 = .int .i64 x15_1 ∧ Aside0 (lsf_Steady.l0 kq x3_1 x4_1 (t236.length : Int) x15_1 = some r) ∧ Aside0 (kq ≤ k) ∧ Aside0 (Kd.R (Kd.int .i64) 2 w' w.heap.size (fun _ => True) (.slice Ao5 t236.length co5) x3_1) ∧ Aside0 (Below w.heap.size w w'))
  case atStart => exact ⟨(t236), (0), (0), (by first | rfl | (simp; done) | (simp [*]; done)), (by first | rfl | (simp; done) | (simp [*]; done)), H', ⟨Nat.le_refl _⟩, ⟨by (with_reducible repeat first | apply Kd.R_alloc | apply Kd.R_drewN | apply Kd.R_drew); exact HO238.out⟩, ⟨by repeat (with_reducible first | exact HB.out | apply below_alloc | apply pw_below_drewN | apply below_drew1)⟩⟩
  case round =>
   clear H'
   (try clear c2); (try clear c2b0); (try clear c2b0z0); (try clear c2b1); (try clear c2b1z0); (try clear p2); (try clear c4); (try clear c5)
   obtain ⟨x3_1, x4_1, x15_1, rfl, rfl, HA, HK1, HO_3, HB⟩ := hrel
   have hl3_1 := (Kd.R_reads' HO_3.out).1
   rw [hl3_1] at HO_3; (try simp only [hl3_1])
   cases gk with
   | zero => exact absurd HA.out (by simp [lsf_Steady.l0])
   | succ k1 =>
    have H := HA.out; clear HA
    simp only [lsf_Steady.l0] at H
    by_cases c6 : x15_1 < (t236.length : Int)
    ·
     rw [if_pos c6] at H; have c6b0 : decide (x15_1 < (t236.length : Int)) = true := decide_eq_true c6
     (try (have c6b0z0 := c6b0; rw [hl3_1] at c6b0z0))
     clear c6
     by_cases c7 : 0 ≤ x15_1; rotate_left
     · rw [if_neg c7] at H; exact absurd H (by simp)
     rw [if_pos c7] at H; have c7b0 : decide (0 ≤ x15_1) = true := decide_eq_true c7; clear c7
     by_cases c8 : x15_1 < (x3_1.length : Int); rotate_left
     · rw [if_neg c8] at H; exact absurd H (by simp)
     rw [if_pos c8] at H; have c8b0 : decide (x15_1 < (x3_1.length : Int)) = true := decide_eq_true c8
     (try (have c8b0z0 := c8b0; rw [hl3_1] at c8b0z0))
     clear c8
     obtain ⟨ji9, hji9⟩ : ∃ j_ : Int, (mx (rd x3_1 x15_1) (wrap64 (x4_1 + 250))) = j_ := ⟨_, rfl⟩
     replace H : ((some (x3_1.set (x15_1 : Int).toNat (ji9) : List Int)).bind fun y240 => (lsf_Steady.l0 k1 y240 (rd y240 x15_1) (t236.length : Int) (wrap64 (x15_1 + 1)))) = some r := by first | (rw [hji9] at H; exact H) | (simp only [hji9] at H ⊢; exact H)
     have hji9_ : (if (rd x3_1 x15_1) < (wrap64 (x4_1 + 250)) then (wrap64 (x4_1 + 250)) else (rd x3_1 x15_1)) = ji9 := hji9
     obtain ⟨y240, hy240⟩ : ∃ y_ : List Int, y_ = (x3_1.set (x15_1 : Int).toNat (ji9)) := ⟨_, rfl⟩
     replace H : (lsf_Steady.l0 k1 y240 (rd y240 x15_1) (t236.length : Int) (wrap64 (x15_1 + 1))) = some r := by first | (rw [hy240]; with_reducible exact H) | (have H2_ := (Option.bind_some _ _).symm.trans H; rw [hy240]; with_reducible exact H2_) | (have H2_ := (Option.bind_some _ _).symm.trans H; with_reducible exact H2_) | with_reducible exact H | (rw [hy240]; exact H) | exact H
     have Ny240 := Aside0.mk hy240; clear hy240; have H' := Aside0.mk H; clear H; have p239 : 0 ≤ (x15_1 : Int) := of_decide_eq_true (by first | (with_reducible assumption) | assumption); have q239 : x15_1 < (x3_1.length : Int) := of_decide_eq_true (by first | (with_reducible assumption) | assumption)
     obtain ⟨ad239, e239, hx239_0⟩ := Kd.at_int (Kd.R_reads' HO_3.out).2.2 x15_1 p239 q239
     cases e239; replace p239 := eq_true p239; replace q239 := eq_true q239; have p10 : 0 ≤ (x15_1 : Int) := of_decide_eq_true (by first | (with_reducible assumption) | assumption); have q10 : (x15_1 : Int) < ((x3_1.length : Int) : Int) := of_decide_eq_true (by first | (with_reducible assumption) | assumption)
     obtain ⟨go10, co10, eo10, gb10, gl10, cl10, HG10⟩ := Kd.R_form HO_3.out (by omega)
     (first | cases eo10 | (injection eo10 with ea_ en_ ec_; (first | subst ea_ | (injection ea_ with ea_; subst ea_)); subst ec_; clear en_))
     have GB10 := Aside0.mk gb10; have GG10 := Aside0.mk HG10; clear gb10 gl10 HG10
     (first | simp only [add_plain] at hx239_0 | skip)
     obtain ⟨hx10_0, hf10_0⟩ := Kd.R_celln 0 HO_3.out (x15_1 : Int) p10 q10
     replace p10 := eq_true p10; replace q10 := eq_true q10
     have HP11 := Kd.R_putg HO_3.out (x15_1 : Int) ji9
     go_wp2_with (first | ((with_reducible refine gate_store (t := 2) (p := 26) rfl ?_); refine store_event (t := 2) (p := 26) (v := ?vo_w12) (w1 := (wr.setCell ⟨go10, (x15_1 : Int).toNat, none⟩ (.int .i64 ji9))) ?hg ?ho ?hn ?hr ?_; (case ho => rfl); (case hg => rfl); (case hn => rfl); (case hr => first | (go_simp; done) | (go_simp; rfl)); intro w12 hw; have hg : wr.grownBy w12 (some go10) := (by rw [hw]; exact HP11.2); have hp_ : Kd.R (Kd.int .i64) 2 w12 w.heap.size (fun _ => True) (.slice (some ⟨go10, 0, none⟩) x3_1.length co5) y240 := (by rw [hw, Ny240.out]; exact HP11.1); clear HP11; have n0_ := Aside0.mk (hp_); have n1_ := Aside0.mk ((by rw [hw]; exact below_set (HB.out) GB10.out : Below w.heap.size w w12)); clear HO_3; clear HB; have HO_3 := n0_; have HB := n1_; clear n0_ n1_; clear hg hw hp_; have p241 : 0 ≤ (x15_1 : Int) := of_decide_eq_true (by first | (with_reducible assumption) | assumption); have q241 : x15_1 < (y240.length : Int) := (by have h_ : (x15_1 : Int) < ((x3_1.length : Int) : Int) := of_decide_eq_true (by first | (with_reducible assumption) | assumption); first | (have e_ := (Kd.R_reads' HO_3.out).1; omega) | simpa only [Ny240.out, List.length_set] using h_); have ql241 : ((x15_1 : Int) < ((x3_1.length : Int) : Int)) = True := eq_true (of_decide_eq_true (by first | (with_reducible assumption) | assumption)); obtain ⟨ad241, e241, hx241_0⟩ := Kd.at_int (Kd.R_reads' HO_3.out).2.2 x15_1 p241 q241; obtain rfl : (⟨go10, 0, none⟩ : Addr) = ad241 := (by injection e241); (first | simp only [add_plain] at hx241_0 | simp only [add_at] at hx241_0 | simp only [Addr.add, Nat.zero_add] at hx241_0 | skip); replace p241 := eq_true p241; replace q241 := eq_true q241))
     (try simp only [← hl3_1])
     go_roundg k1
     case measure => have := HK1.out; omega
     case rel => exact ⟨(y240), (rd y240 x15_1), (wrap64 (x15_1 + 1)), (by first | rfl | (simp; done) | (simp [*]; done)), (by first | rfl | (simp; done) | (simp [*]; done)), H', ⟨by have := HK1.out; omega⟩, ⟨by (try simp only [hl3_1]); (with_reducible repeat first | apply Kd.R_alloc | apply Kd.R_drewN | apply Kd.R_drew); exact HO_3.out⟩, ⟨by repeat (with_reducible first | exact HB.out | apply below_alloc | apply pw_below_drewN | apply below_drew1)⟩⟩
    ·
     rw [if_neg c6] at H; have c6b0 : decide (x15_1 < (t236.length : Int)) = false := decide_eq_false c6
     (try (have c6b0z0 := c6b0; rw [hl3_1] at c6b0z0))
     clear c6; have H' := Aside0.mk H; clear H
     go_wp2
     go_loopg [4, 7] k1 (fun kq v4 v7 w' => ∃ (x3_2 : List Int) (x4_2 : Int) (x7_2 : Int), v4 = .int .i64 x4_2 ∧ v7 = .int .i64 x7_2 ∧ Aside0 (lsf_Steady.l1 kq x3_2 x4_2 x7_2 = some r) ∧ Aside0 (kq ≤ k1) ∧ Aside0 (Kd.R (Kd.int .i64) 2 w' w.heap.size (fun _ => True) (.slice Ao5 x3_1.length co5) x3_2) ∧ Aside0 (Below w.heap.size w w'))
     case atStart => exact ⟨(x3_1), (32768), (wrap64 ((x3_1.length : Int) - 1)), (by first | rfl | (simp; done) | (simp [*]; done)), (by first | rfl | (simp; done) | (simp [*]; done)), H', ⟨Nat.le_refl _⟩, ⟨by (try simp only [hl3_1]); (with_reducible repeat first | apply Kd.R_alloc | apply Kd.R_drewN | apply Kd.R_drew); exact HO_3.out⟩, ⟨by repeat (with_reducible first | exact HB.out | apply below_alloc | apply pw_below_drewN | apply below_drew1)⟩⟩
     case round =>
      clear H'
      (try clear p1); (try clear q1); (try clear hx1); (try clear hf1); (try clear c2); (try clear c2b0); (try clear c2b0z0); (try clear c2b1); (try clear c2b1z0); (try clear p2); (try clear q2); (try clear hx2); (try clear c4); (try clear c5); (try clear c6); (try clear c6b0); (try clear c6b0z0); (try clear p6); (try clear c7); (try clear c7b0); (try clear c7b0z0); (try clear c8); (try clear c8b0); (try clear c8b0z0); (try clear p10); (try clear q10); (try clear hx10); (try clear hf10); (try clear hx10_0); (try clear hx239_0); (try clear hx241_0); (try clear p10); (try clear p2); (try clear p239); (try clear p241); (try clear q10); (try clear q239); (try clear q241)
      obtain ⟨x3_2, x4_2, x7_2, rfl, rfl, HA, HK2, HO_3, HB⟩ := hrel
      have hl3_2 := (Kd.R_reads' HO_3.out).1
      rw [hl3_2] at HO_3; (try simp only [hl3_2])
      cases gk with
      | zero => exact absurd HA.out (by simp [lsf_Steady.l1])
      | succ k2 =>
       have H := HA.out; clear HA
       simp only [lsf_Steady.l1] at H
       by_cases c13 : x7_2 ≥ 0
       ·
        rw [if_pos c13] at H; have c13b0 : decide (0 ≤ x7_2) = true := decide_eq_true c13; clear c13
        by_cases c14 : 0 ≤ x7_2; rotate_left
        · rw [if_neg c14] at H; exact absurd H (by simp)
        rw [if_pos c14] at H; have c14b0 : decide (0 ≤ x7_2) = true := decide_eq_true c14; clear c14
        by_cases c15 : x7_2 < (x3_2.length : Int); rotate_left
        · rw [if_neg c15] at H; exact absurd H (by simp)
        rw [if_pos c15] at H; have c15b0 : decide (x7_2 < (x3_2.length : Int)) = true := decide_eq_true c15
        (try (have c15b0z0 := c15b0; rw [hl3_1] at c15b0z0))
        (try (have c15b0z1 := c15b0; rw [hl3_2] at c15b0z1))
        clear c15
        obtain ⟨ji16, hji16⟩ : ∃ j_ : Int, (mn (rd x3_2 x7_2) (wrap64 (x4_2 - 250))) = j_ := ⟨_, rfl⟩
        replace H : ((some (x3_2.set (x7_2 : Int).toNat (ji16) : List Int)).bind fun y243 => (lsf_Steady.l1 k2 y243 (rd y243 x7_2) (wrap64 (x7_2 - 1)))) = some r := by first | (rw [hji16] at H; exact H) | (simp only [hji16] at H ⊢; exact H)
        have hji16_ : (if (wrap64 (x4_2 - 250)) < (rd x3_2 x7_2) then (wrap64 (x4_2 - 250)) else (rd x3_2 x7_2)) = ji16 := hji16
        obtain ⟨y243, hy243⟩ : ∃ y_ : List Int, y_ = (x3_2.set (x7_2 : Int).toNat (ji16)) := ⟨_, rfl⟩
        replace H : (lsf_Steady.l1 k2 y243 (rd y243 x7_2) (wrap64 (x7_2 - 1))) = some r := by first | (rw [hy243]; with_reducible exact H) | (have H2_ := (Option.bind_some _ _).symm.trans H; rw [hy243]; with_reducible exact H2_) | (have H2_ := (Option.bind_some _ _).symm.trans H; with_reducible exact H2_) | with_reducible exact H | (rw [hy243]; exact H) | exact H
        have Ny243 := Aside0.mk hy243; clear hy243; have H' := Aside0.mk H; clear H; have p242 : 0 ≤ (x7_2 : Int) := of_decide_eq_true (by first | (with_reducible assumption) | assumption); have q242 : x7_2 < (x3_2.length : Int) := of_decide_eq_true (by first | (with_reducible assumption) | assumption)
        obtain ⟨ad242, e242, hx242_0⟩ := Kd.at_int (Kd.R_reads' HO_3.out).2.2 x7_2 p242 q242
        cases e242; replace p242 := eq_true p242; replace q242 := eq_true q242; have p17 : 0 ≤ (x7_2 : Int) := of_decide_eq_true (by first | (with_reducible assumption) | assumption); have q17 : (x7_2 : Int) < ((x3_2.length : Int) : Int) := of_decide_eq_true (by first | (with_reducible assumption) | assumption)
        obtain ⟨go17, co17, eo17, gb17, gl17, cl17, HG17⟩ := Kd.R_form HO_3.out (by omega)
        (first | cases eo17 | (injection eo17 with ea_ en_ ec_; (first | subst ea_ | (injection ea_ with ea_; subst ea_)); subst ec_; clear en_))
        have GB17 := Aside0.mk gb17; have GG17 := Aside0.mk HG17; clear gb17 gl17 HG17
        (first | simp only [add_plain] at hx242_0 | skip)
        obtain ⟨hx17_0, hf17_0⟩ := Kd.R_celln 0 HO_3.out (x7_2 : Int) p17 q17
        replace p17 := eq_true p17; replace q17 := eq_true q17
        have HP18 := Kd.R_putg HO_3.out (x7_2 : Int) ji16
        go_wp2_with (first | ((with_reducible refine gate_store (t := 2) (p := 48) rfl ?_); refine store_event (t := 2) (p := 48) (v := ?vo_w19) (w1 := (wr.setCell ⟨go17, (x7_2 : Int).toNat, none⟩ (.int .i64 ji16))) ?hg ?ho ?hn ?hr ?_; (case ho => rfl); (case hg => rfl); (case hn => rfl); (case hr => first | (go_simp; done) | (go_simp; rfl)); intro w19 hw; have hg : wr.grownBy w19 (some go17) := (by rw [hw]; exact HP18.2); have hp_ : Kd.R (Kd.int .i64) 2 w19 w.heap.size (fun _ => True) (.slice (some ⟨go17, 0, none⟩) x3_2.length co5) y243 := (by rw [hw, Ny243.out]; exact HP18.1); clear HP18; have n0_ := Aside0.mk (hp_); have n1_ := Aside0.mk ((by rw [hw]; exact below_set (HB.out) GB17.out : Below w.heap.size w w19)); clear HO_3; clear HB; have HO_3 := n0_; have HB := n1_; clear n0_ n1_; clear hg hw hp_; have p244 : 0 ≤ (x7_2 : Int) := of_decide_eq_true (by first | (with_reducible assumption) | assumption); have q244 : x7_2 < (y243.length : Int) := (by have h_ : (x7_2 : Int) < ((x3_2.length : Int) : Int) := of_decide_eq_true (by first | (with_reducible assumption) | assumption); first | (have e_ := (Kd.R_reads' HO_3.out).1; omega) | simpa only [Ny243.out, List.length_set] using h_); have ql244 : ((x7_2 : Int) < ((x3_2.length : Int) : Int)) = True := eq_true (of_decide_eq_true (by first | (with_reducible assumption) | assumption)); obtain ⟨ad244, e244, hx244_0⟩ := Kd.at_int (Kd.R_reads' HO_3.out).2.2 x7_2 p244 q244; obtain rfl : (⟨go17, 0, none⟩ : Addr) = ad244 := (by injection e244); (first | simp only [add_plain] at hx244_0 | simp only [add_at] at hx244_0 | simp only [Addr.add, Nat.zero_add] at hx244_0 | skip); replace p244 := eq_true p244; replace q244 := eq_true q244))
        (try simp only [← hl3_2])
        go_roundg k2
        case measure => have := HK1.out; have := HK2.out; omega
        case rel => exact ⟨(y243), (rd y243 x7_2), (wrap64 (x7_2 - 1)), (by first | rfl | (simp; done) | (simp [*]; done)), (by first | rfl | (simp; done) | (simp [*]; done)), H', ⟨by have := HK1.out; have := HK2.out; omega⟩, ⟨by (try simp only [hl3_1]); (try simp only [hl3_2]); (with_reducible repeat first | apply Kd.R_alloc | apply Kd.R_drewN | apply Kd.R_drew); exact HO_3.out⟩, ⟨by repeat (with_reducible first | exact HB.out | apply below_alloc | apply pw_below_drewN | apply below_drew1)⟩⟩
       ·
        rw [if_neg c13] at H; have c13b0 : decide (0 ≤ x7_2) = false := decide_eq_false c13; clear c13
        obtain rfl := Option.some.inj H
        go_wp2
        go_ret
        exact ⟨_, by first | rfl | (simp [errW_none, errW_some] <;> rfl) | (simp [*, errW_none, errW_some] <;> rfl), by (with_reducible repeat first | apply Kd.R_alloc | apply Kd.R_drewN | apply Kd.R_drew); exact HO_3.out, by repeat (with_reducible first | exact HB.out | apply below_alloc | apply pw_below_drewN | apply below_drew1)⟩

end Go.Proofs.Ytgbdkefglmjdoaa.MA
