/- Functions of the program as plain Lean functions, and that the code comes to their answers. No condition. -/
import Derived.Test.YtgbdkefglmjdoaaMAx0
import Derived.Test.YtgbdkefglmjdoaaMAx1
import Derived.Test.YtgbdkefglmjdoaaMAx3
namespace Go.Proofs.Ytgbdkefglmjdoaa.MA
open Go.RowKit Go.Proofs.YtgbdkefglmjdoaaW.PrintWords Go.Proofs.YtgbdkefglmjdoaaW.PrintLast Go.Proofs.YtgbdkefglmjdoaaW.PrintMore
attribute [local go_sem] max2_int min2_int max_two min_two max_three min_three max_four min_four
set_option linter.unusedVariables false
set_option linter.unusedSimpArgs false

/-! ### levin_Rest: function 13 -/
mutual
def levin_Rest.j0 : Nat → List Int → List Int → Bool → Option (List Int × Int)
 | 0, _, _, _ => none
 | k + 1, x0, x1, x18 => if x18 = true then (some (([] : List Int), 1)) else ((levin_sound.f k x0).bind fun t208 => (if 0 ≤ (t208.length : Int) then (if ((t208.length : Int) : Int).toNat ≤ 35184372088832 then (levin_Rest.l0 k t208 x1 (List.replicate ((t208.length : Int) : Int).toNat 0) t208 (t208.length : Int) 0) else (none)) else (none)))
def levin_Rest.l0 : Nat → List Int → List Int → List Int → List Int → Int → Int → Option (List Int × Int)
 | 0, _, _, _, _, _, _ => none
 | k + 1, x0, x1, x6, x24, x25, x26 => if x26 < x25 then (if 0 ≤ x26 then (if x26 < (x24.length : Int) then (levin_Rest.l1 k x0 x1 x6 x26 (rd x24 x26) x24 x25 x26 x1 (x1.length : Int) 0) else (none)) else (none)) else (some (x6, 0))
def levin_Rest.l1 : Nat → List Int → List Int → List Int → Int → Int → List Int → Int → Int → List Int → Int → Int → Option (List Int × Int)
 | 0, _, _, _, _, _, _, _, _, _, _, _ => none
 | k + 1, x0, x1, x6, x7, x8, x24, x25, x26, x31, x32, x33 => if x33 < x32 then (if 0 ≤ x33 then (if x33 < (x31.length : Int) then (if (wrap64 ((wrap64 (x7 - 1)) - x33)) ≥ 0 then ((fix_Clamp.f k (rd x31 x33) (-131072) 131072).bind fun t217 => (if 0 ≤ (wrap64 ((wrap64 (x7 - 1)) - x33)) then (if (wrap64 ((wrap64 (x7 - 1)) - x33)) < (x0.length : Int) then ((fix_Mul.f k t217 (rd x0 (wrap64 ((wrap64 (x7 - 1)) - x33))) 12).bind fun t219 => (levin_Rest.l1 k x0 x1 x6 x7 (wrap64 (x8 - t219)) x24 x25 x26 x31 x32 (wrap64 (x33 + 1)))) else (none)) else (none))) else (levin_Rest.l1 k x0 x1 x6 x7 x8 x24 x25 x26 x31 x32 (wrap64 (x33 + 1)))) else (none)) else (none)) else (if 0 ≤ x7 then (if x7 < (x6.length : Int) then (levin_Rest.l0 k x0 x1 (x6.set (x7 : Int).toNat x8) x24 x25 (wrap64 (x26 + 1))) else (none)) else (none))
end
def levin_Rest.f (k : Nat) (l0 : List Int) (l1 : List Int) : Option (List Int × Int) := if (l0.length : Int) > 960 then (levin_Rest.j0 k l0 l1 true) else (levin_Rest.j0 k l0 l1 (decide ((l1.length : Int) > 32)))
set_option maxHeartbeats 8000000 in
set_option maxRecDepth 100000 in
theorem levin_Rest.calls (k : Nat) (A0 : Option Addr) (c0 : Nat) (l0 : List Int) (A1 : Option Addr) (c1 : Nat) (l1 : List Int) (r1 : List Int) (r2 : Int) (w : World) (hr0 : Kd.C (Kd.int .i64) w A0 l0.length l0) (hc0 : l0.length ≤ c0) (hr1 : Kd.C (Kd.int .i64) w A1 l1.length l1) (hc1 : l1.length ≤ c1) (h : levin_Rest.f k l0 l1 = some (r1, r2)) :
  Calls Try.prog 13 #[.slice A0 l0.length c0, .slice A1 l1.length c1] w fun e w' => ∃ v0_ : Value, e = .returned (.tuple #[v0_, .int .i64 r2]) ∧ Kd.R (Kd.int .i64) 2 w' w.heap.size (fun _ => True) v0_ r1 ∧ Below w.heap.size w w' := by
 have HR0 := Aside0.mk hr0; have HC0 := Aside0.mk hc0; clear hr0 hc0; have HR1 := Aside0.mk hr1; have HC1 := Aside0.mk hc1; clear hr1 hc1
 have HB := Aside0.mk (Below.refl w.heap.size w)
 have H : (if (l0.length : Int) > 960 then (levin_Rest.j0 k l0 l1 true) else (levin_Rest.j0 k l0 l1 (decide ((l1.length : Int) > 32)))) = some (r1, r2) := h
 clear h; have HC3 := Aside0.mk H; clear H
 go_enter Try.func13, Try.ntmps13
 go_upto_region 1 with (fail)
 repeat (go_quiet (fail); go_upto_region 1 with (fail))
 go_cut [18] (fun v18 wc => ∃ (kq : Nat) (x18_2 : Bool), v18 = .bool x18_2 ∧ Aside0 (levin_Rest.j0 kq l0 l1 x18_2 = some (r1, r2)) ∧ Aside0 (kq ≤ k) ∧ Aside0 (Below w.heap.size w wc))
 case first =>
  have H := HC3.out; clear HC3
  by_cases c4 : (l0.length : Int) > 960
  ·
   rw [if_pos c4] at H; have c4b0 : decide (960 < (l0.length : Int)) = true := decide_eq_true c4; have c4b1 : decide (960 < l0.length) = true := decide_eq_true (by omega); clear c4
   (first | rw [c4b0] | (simp only [i64_w, i32_w]; rw [c4b0]) | skip)
   have H' := Aside0.mk H; clear H
   go_wp2
   repeat (go_quiet (fail); try go_wp2)
   go_meet
   case rel => exact ⟨_, (true), (by first | rfl | (simp; done) | (simp [*]; done)), H', ⟨by first | omega | exact Nat.le_refl _⟩, ⟨by repeat (with_reducible first | exact HB.out | apply below_alloc | apply pw_below_drewN | apply below_drew1)⟩⟩
  ·
   rw [if_neg c4] at H; have c4b0 : decide (960 < (l0.length : Int)) = false := decide_eq_false c4; have c4b1 : decide (960 < l0.length) = false := decide_eq_false (by omega); clear c4
   (first | rw [c4b0] | (simp only [i64_w, i32_w]; rw [c4b0]) | skip)
   have H' := Aside0.mk H; clear H
   go_wp2
   repeat (go_quiet (fail); try go_wp2)
   go_meet
   case rel => exact ⟨_, (decide ((l1.length : Int) > 32)), (by first | rfl | (simp; done) | (simp [*]; done)), H', ⟨by first | omega | exact Nat.le_refl _⟩, ⟨by repeat (with_reducible first | exact HB.out | apply below_alloc | apply pw_below_drewN | apply below_drew1)⟩⟩
 case rest =>
  clear HC3; (try clear c1); (try clear p2); (try clear c4); (try clear c4b0); (try clear c4b0z0); (try clear c4b1); (try clear c4b1z0)
  obtain ⟨kq, x18_2, rfl, HA, HJ2, HB⟩ := hcut
  cases kq with
  | zero => exact absurd HA.out (by simp [levin_Rest.j0])
  | succ kj2 =>
   have H := HA.out; clear HA
   simp only [levin_Rest.j0] at H
   by_cases c5 : x18_2 = true
   ·
    subst c5
    have H1 : (some (([] : List Int), 1)) = some (r1, r2) := by rw [if_pos rfl] at H; exact H
    clear H; have H := H1; clear H1
    simp only [Option.some.injEq, Prod.mk.injEq] at H
    obtain ⟨rfl, rfl⟩ := H
    go_wp2
    repeat (go_quiet (fail); try go_wp2)
    go_ret2
    exact ⟨_, by first | rfl | (simp [errW_none, errW_some] <;> rfl) | (simp [*, errW_none, errW_some] <;> rfl), by first | exact Kd.R_nil _ _ _ _ _ | exact Kd.N_nil _ _ _ _ _ | exact Kd.V_nil _ _ _ _ _ | exact Kd.Q_nil _ _ _ _ _ | exact Kd.S_nil _ _ _ _ _, by repeat (with_reducible first | exact HB.out | apply below_alloc | apply pw_below_drewN | apply below_drew1)⟩
   ·
    replace c5 := Bool.eq_false_iff.mpr c5
    subst c5
    have H1 : ((levin_sound.f kj2 l0).bind fun t208 => (if 0 ≤ (t208.length : Int) then (if ((t208.length : Int) : Int).toNat ≤ 35184372088832 then (levin_Rest.l0 kj2 t208 l1 (List.replicate ((t208.length : Int) : Int).toNat 0) t208 (t208.length : Int) 0) else (none)) else (none))) = some (r1, r2) := by rw [if_neg (show ¬ (false = true) by decide)] at H; exact H
    clear H; have H := H1; clear H1; replace H := Option.bind_eq_some_iff.mp H; obtain ⟨t208, A60, H⟩ := H
    replace H : (if 0 ≤ (t208.length : Int) then (if ((t208.length : Int) : Int).toNat ≤ 35184372088832 then (levin_Rest.l0 kj2 t208 l1 (List.replicate ((t208.length : Int) : Int).toNat 0) t208 (t208.length : Int) 0) else (none)) else (none)) = some (r1, r2) := H
    have A6 := Aside0.mk A60; clear A60
    by_cases c7 : 0 ≤ (t208.length : Int); rotate_left
    · rw [if_neg c7] at H; exact absurd H (by simp)
    rw [if_pos c7] at H; have c7b0 := eq_true c7; have c7b1 : decide (0 ≤ (t208.length : Int)) = true := decide_eq_true c7; clear c7
    by_cases c8 : ((t208.length : Int) : Int).toNat ≤ 35184372088832; rotate_left
    · rw [if_neg c8] at H; exact absurd H (by simp)
    rw [if_pos c8] at H; have c8b0 := eq_true c8; have c8b1 : decide (((t208.length : Int) : Int).toNat ≤ 35184372088832) = true := decide_eq_true c8; clear c8
    obtain ⟨y211, hy211⟩ : ∃ y_ : List Int, y_ = (List.replicate ((t208.length : Int) : Int).toNat 0) := ⟨_, rfl⟩
    replace H : (levin_Rest.l0 kj2 t208 l1 y211 t208 (t208.length : Int) 0) = some (r1, r2) := by first | (rw [hy211]; with_reducible exact H) | (have H2_ := (Option.bind_some _ _).symm.trans H; rw [hy211]; with_reducible exact H2_) | (have H2_ := (Option.bind_some _ _).symm.trans H; with_reducible exact H2_) | with_reducible exact H | (rw [hy211]; exact H) | exact H
    have Ny211 := Aside0.mk hy211; clear hy211; have H' := Aside0.mk H; clear H
    go_wp2_with (first | (go_at_call 23; (with_reducible refine (levin_sound.calls kj2 _ _ l0 t208 _ ?side1 ?side2 A6.out).mono ?_); (case side1 => repeat (first | exact (Kd.C_below HR0.out HB.out) | (with_reducible refine Kd.C_alloc ?_ _) | (with_reducible refine Kd.C_drewN ?_ _) | (with_reducible refine Kd.C_drew ?_))); (case side2 => exact HC0.out); rintro e w9 ⟨v209, rfl, ho0, hb⟩; have n0_ := Aside0.mk (Kd.R_lower ho0 (below_size (by repeat (with_reducible first | exact HB.out | apply below_alloc | apply pw_below_drewN | apply below_drew1)))); have n1_ := Aside0.mk (below_step (by repeat (with_reducible first | exact HB.out | apply below_alloc | apply pw_below_drewN | apply below_drew1)) hb); clear HB; have HO210 := n0_; have HB := n1_; clear n0_ n1_; (try clear hb); (try clear hb2); (try clear hk); (try clear hi); (try clear ho0); obtain ⟨Ao10, co10, eo10⟩ := Kd.R_slice HO210.out; subst eo10) | ((with_reducible refine gate_dst (N := 23) rfl ?_); (try (refine gate_guard (by rfl) ?_; dsimp only)); refine Kd.R_make (Kd.int .i64) _ 2 rfl (N := 23) rfl 23 _ _ rfl (t208.length : Int) rfl rfl Try.underlying23 (.int .i64 0) 8 info2 rfl (by decide) (by omega) 0 (ok := fun _ => True) (okp := fun _ => True) rfl (fun _ hk => hk) trivial (of_decide_eq_true (by first | (with_reducible assumption) | assumption)) (Nat.le_trans (Nat.mul_le_mul_right _ (of_decide_eq_true (by first | (with_reducible assumption) | assumption) : (t208.length : Int).toNat ≤ 35184372088832)) (by omega)) (Below.refl _ _) (Nat.le_refl _) ?_; intro v212 w11 ho12 hb hg_ hnew_; clear hg_ hnew_; (first | rw [← Ny211.out] at ho12 | (simp only [Int.reduceToNat] at ho12; rw [← Ny211.out] at ho12)); have n0_ := Aside0.mk (Kd.R_elder' (by (with_reducible repeat first | apply Kd.R_alloc | apply Kd.R_drewN | apply Kd.R_drew); exact HO210.out) (Kd.R_base ho12) hb); have n1_ := Aside0.mk (Kd.R_lower (Kd.R_new' ho12 (Kd.R_lt (by (with_reducible repeat first | apply Kd.R_alloc | apply Kd.R_drewN | apply Kd.R_drew); exact HO210.out))) (below_size (by repeat (with_reducible first | exact HB.out | apply below_alloc | apply pw_below_drewN | apply below_drew1)))); have n2_ := Aside0.mk (below_step (by repeat (with_reducible first | exact HB.out | apply below_alloc | apply pw_below_drewN | apply below_drew1)) hb); clear HO210; clear HB; have HO210 := n0_; have HO213 := n1_; have HB := n2_; clear n0_ n1_ n2_; clear hb ho12))
    repeat (go_quiet (first | (go_at_call 23; (with_reducible refine (levin_sound.calls kj2 _ _ l0 t208 _ ?side1 ?side2 A6.out).mono ?_); (case side1 => repeat (first | exact (Kd.C_below HR0.out HB.out) | (with_reducible refine Kd.C_alloc ?_ _) | (with_reducible refine Kd.C_drewN ?_ _) | (with_reducible refine Kd.C_drew ?_))); (case side2 => exact HC0.out); rintro e w9 ⟨v209, rfl, ho0, hb⟩; have n0_ := Aside0.mk (Kd.R_lower ho0 (below_size (by repeat (with_reducible first | exact HB.out | apply below_alloc | apply pw_below_drewN | apply below_drew1)))); have n1_ := Aside0.mk (below_step (by repeat (with_reducible first | exact HB.out | apply below_alloc | apply pw_below_drewN | apply below_drew1)) hb); clear HB; have HO210 := n0_; have HB := n1_; clear n0_ n1_; (try clear hb); (try clear hb2); (try clear hk); (try clear hi); (try clear ho0); obtain ⟨Ao10, co10, eo10⟩ := Kd.R_slice HO210.out; subst eo10) | ((with_reducible refine gate_dst (N := 23) rfl ?_); (try (refine gate_guard (by rfl) ?_; dsimp only)); refine Kd.R_make (Kd.int .i64) _ 2 rfl (N := 23) rfl 23 _ _ rfl (t208.length : Int) rfl rfl Try.underlying23 (.int .i64 0) 8 info2 rfl (by decide) (by omega) 0 (ok := fun _ => True) (okp := fun _ => True) rfl (fun _ hk => hk) trivial (of_decide_eq_true (by first | (with_reducible assumption) | assumption)) (Nat.le_trans (Nat.mul_le_mul_right _ (of_decide_eq_true (by first | (with_reducible assumption) | assumption) : (t208.length : Int).toNat ≤ 35184372088832)) (by omega)) (Below.refl _ _) (Nat.le_refl _) ?_; intro v212 w11 ho12 hb hg_ hnew_; clear hg_ hnew_; (first | rw [← Ny211.out] at ho12 | (simp only [Int.reduceToNat] at ho12; rw [← Ny211.out] at ho12)); have n0_ := Aside0.mk (Kd.R_elder' (by (with_reducible repeat first | apply Kd.R_alloc | apply Kd.R_drewN | apply Kd.R_drew); exact HO210.out) (Kd.R_base ho12) hb); have n1_ := Aside0.mk (Kd.R_lower (Kd.R_new' ho12 (Kd.R_lt (by (with_reducible repeat first | apply Kd.R_alloc | apply Kd.R_drewN | apply Kd.R_drew); exact HO210.out))) (below_size (by repeat (with_reducible first | exact HB.out | apply below_alloc | apply pw_below_drewN | apply below_drew1)))); have n2_ := Aside0.mk (below_step (by repeat (with_reducible first | exact HB.out | apply below_alloc | apply pw_below_drewN | apply below_drew1)) hb); clear HO210; clear HB; have HO210 := n0_; have HO213 := n1_; have HB := n2_; clear n0_ n1_ n2_; clear hb ho12)); try go_wp2_with (first | (go_at_call 23; (with_reducible refine (levin_sound.calls kj2 _ _ l0 t208 _ ?side1 ?side2 A6.out).mono ?_); (case side1 => repeat (first | exact (Kd.C_below HR0.out HB.out) | (with_reducible refine Kd.C_alloc ?_ _) | (with_reducible refine Kd.C_drewN ?_ _) | (with_reducible refine Kd.C_drew ?_))); (case side2 => exact HC0.out); rintro e w9 ⟨v209, rfl, ho0, hb⟩; have n0_ := Aside0.mk (Kd.R_lower ho0 (below_size (by repeat (with_reducible first | exact HB.out | apply below_alloc | apply pw_below_drewN | apply below_drew1)))); have n1_ := Aside0.mk (below_step (by repeat (with_reducible first | exact HB.out | apply below_alloc | apply pw_below_drewN | apply below_drew1)) hb); clear HB; have HO210 := n0_; have HB := n1_; clear n0_ n1_; (try clear hb); (try clear hb2); (try clear hk); (try clear hi); (try clear ho0); obtain ⟨Ao10, co10, eo10⟩ := Kd.R_slice HO210.out; subst eo10) | ((with_reducible refine gate_dst (N := 23) rfl ?_); (try (refine gate_guard (by rfl) ?_; dsimp only)); refine Kd.R_make (Kd.int .i64) _ 2 rfl (N := 23) rfl 23 _ _ rfl (t208.length : Int) rfl rfl Try.underlying23 (.int .i64 0) 8 info2 rfl (by decide) (by omega) 0 (ok := fun _ => True) (okp := fun _ => True) rfl (fun _ hk => hk) trivial (of_decide_eq_true (by first | (with_reducible assumption) | assumption)) (Nat.le_trans (Nat.mul_le_mul_right _ (of_decide_eq_true (by first | (with_reducible assumption) | assumption) : (t208.length : Int).toNat ≤ 35184372088832)) (by omega)) (Below.refl _ _) (Nat.le_refl _) ?_; intro v212 w11 ho12 hb hg_ hnew_; clear hg_ hnew_; (first | rw [← Ny211.out] at ho12 | (simp only [Int.reduceToNat] at ho12; rw [← Ny211.out] at ho12)); have n0_ := Aside0.mk (Kd.R_elder' (by (with_reducible repeat first | apply Kd.R_alloc | apply Kd.R_drewN | apply Kd.R_drew); exact HO210.out) (Kd.R_base ho12) hb); have n1_ := Aside0.mk (Kd.R_lower (Kd.R_new' ho12 (Kd.R_lt (by (with_reducible repeat first | apply Kd.R_alloc | apply Kd.R_drewN | apply Kd.R_drew); exact HO210.out))) (below_size (by repeat (with_reducible first | exact HB.out | apply below_alloc | apply pw_below_drewN | apply below_drew1)))); have n2_ := Aside0.mk (below_step (by repeat (with_reducible first | exact HB.out | apply below_alloc | apply pw_below_drewN | apply below_drew1)) hb); clear HO210; clear HB; have HO210 := n0_; have HO213 := n1_; have HB := n2_; clear n0_ n1_ n2_; clear hb ho12)))
    go_loopg [26] kj2 (fun kq v26 w' => ∃ (x6_2 : List Int) (x26_2 : Int), v26 = .int .i64 x26_2 ∧ Aside0 (levin_Rest.l0 kq t208 l1 x6_2 t208 (t208.length : Int) x26_2 = some (r1, r2)) ∧ Aside0 (kq ≤ kj2) ∧ Aside0 (Kd.R (Kd.int .i64) 2 w' w.heap.size (fun k_ => some k_ ≠ (v212 : Value).ownBlock) (.slice Ao10 t208.length co10) t208) ∧ Aside0 (Kd.R (Kd.int .i64) 2 w' w.heap.size (fun k_ => some k_ ≠ ((.slice Ao10 t208.length co10) : Value).ownBlock ∧ some k_ ≠ ((.slice Ao10 t208.length co10) : Value).ownBlock) v212 x6_2) ∧ Aside0 (Kd.R (Kd.int .i64) 2 w' w.heap.size (fun k_ => some k_ ≠ (v212 : Value).ownBlock) (.slice Ao10 t208.length co10) t208) ∧ Aside0 (Below w.heap.size w w'))
    case atStart => exact ⟨(y211), (0), (by first | rfl | (simp; done) | (simp [*]; done)), H', ⟨Nat.le_refl _⟩, ⟨by (with_reducible repeat first | apply Kd.R_alloc | apply Kd.R_drewN | apply Kd.R_drew); exact Kd.R_mono HO210.out (fun _ hk => hk.2)⟩, ⟨by (with_reducible repeat first | apply Kd.R_alloc | apply Kd.R_drewN | apply Kd.R_drew); exact Kd.R_mono HO213.out (fun _ hk => ⟨hk.2, hk.2⟩)⟩, ⟨by (with_reducible repeat first | apply Kd.R_alloc | apply Kd.R_drewN | apply Kd.R_drew); exact Kd.R_mono HO210.out (fun _ hk => hk.2)⟩, ⟨by repeat (with_reducible first | exact HB.out | apply below_alloc | apply pw_below_drewN | apply below_drew1)⟩⟩
    case round =>
     clear H'
     (try clear c1); (try clear p2); (try clear c4); (try clear c4b0); (try clear c4b0z0); (try clear c4b1); (try clear c4b1z0); (try clear c5); (try clear c7); (try clear c7b0); (try clear c7b0z0); (try clear c7b1); (try clear c7b1z0); (try clear c8); (try clear c8b0); (try clear c8b0z0); (try clear c8b1); (try clear c8b1z0); (try clear p2)
     obtain ⟨x6_2, x26_2, rfl, HA, HK2, HO_0, HO_6, HO_24, HB⟩ := hrel
     cases gk with
     | zero => exact absurd HA.out (by simp [levin_Rest.l0])
     | succ k2 =>
      have H := HA.out; clear HA
      simp only [levin_Rest.l0] at H
      by_cases c13 : x26_2 < (t208.length : Int)
      ·
       rw [if_pos c13] at H; have c13b0 : decide (x26_2 < (t208.length : Int)) = true := decide_eq_true c13; clear c13
       by_cases c14 : 0 ≤ x26_2; rotate_left
       · rw [if_neg c14] at H; exact absurd H (by simp)
       rw [if_pos c14] at H; have c14b0 : decide (0 ≤ x26_2) = true := decide_eq_true c14; clear c14
       by_cases c15 : x26_2 < (t208.length : Int); rotate_left
       · rw [if_neg c15] at H; exact absurd H (by simp)
       rw [if_pos c15] at H; have c15b0 : decide (x26_2 < (t208.length : Int)) = true := decide_eq_true c15; clear c15; have H' := Aside0.mk H; clear H; have p214 : 0 ≤ (x26_2 : Int) := of_decide_eq_true (by first | (with_reducible assumption) | assumption); have q214 : x26_2 < (t208.length : Int) := of_decide_eq_true (by first | (with_reducible assumption) | assumption)
       obtain ⟨ad214, e214, hx214_0⟩ := Kd.at_int (Kd.R_reads' HO_24.out).2.2 x26_2 p214 q214
       cases e214; replace p214 := eq_true p214; replace q214 := eq_true q214
       go_wp2
       repeat (go_quiet (fail); try go_wp2)
       go_loopg [8, 33] k2 (fun kq v8 v33 w' => ∃ (x8_3 : Int) (x33_3 : Int), v8 = .int .i64 x8_3 ∧ v33 = .int .i64 x33_3 ∧ Aside0 (levin_Rest.l1 kq t208 l1 x6_2 x26_2 x8_3 t208 (t208.length : Int) x26_2 l1 (l1.length : Int) x33_3 = some (r1, r2)) ∧ Aside0 (kq ≤ k2) ∧ Aside0 (Kd.R (Kd.int .i64) 2 w' w.heap.size (fun k_ => some k_ ≠ (v212 : Value).ownBlock) (.slice (some ad214) t208.length co10) t208) ∧ Aside0 (Kd.R (Kd.int .i64) 2 w' w.heap.size (fun k_ => some k_ ≠ ((.slice (some ad214) t208.length co10) : Value).ownBlock ∧ some k_ ≠ ((.slice (some ad214) t208.length co10) : Value).ownBlock) v212 x6_2) ∧ Aside0 (Kd.R (Kd.int .i64) 2 w' w.heap.size (fun k_ => some k_ ≠ (v212 : Value).ownBlock) (.slice (some ad214) t208.length co10) t208) ∧ Aside0 (Below w.heap.size w w'))
       case atStart => exact ⟨(rd t208 x26_2), (0), (by first | rfl | (simp; done) | (simp [*]; done)), (by first | rfl | (simp; done) | (simp [*]; done)), H', ⟨Nat.le_refl _⟩, ⟨by (with_reducible repeat first | apply Kd.R_alloc | apply Kd.R_drewN | apply Kd.R_drew); exact HO_0.out⟩, ⟨by (with_reducible repeat first | apply Kd.R_alloc | apply Kd.R_drewN | apply Kd.R_drew); exact HO_6.out⟩, ⟨by (with_reducible repeat first | apply Kd.R_alloc | apply Kd.R_drewN | apply Kd.R_drew); exact HO_24.out⟩, ⟨by repeat (with_reducible first | exact HB.out | apply below_alloc | apply pw_below_drewN | apply below_drew1)⟩⟩
       case round =>
        clear H'
        (try clear c1); (try clear p2); (try clear q2); (try clear hx2); (try clear c4); (try clear c4b0); (try clear c4b0z0); (try clear c4b1); (try clear c4b1z0); (try clear c5); (try clear c7); (try clear c7b0); (try clear c7b0z0); (try clear c7b1); (try clear c7b1z0); (try clear c8); (try clear c8b0); (try clear c8b0z0); (try clear c8b1); (try clear c8b1z0); (try clear c13); (try clear c13b0); (try clear c13b0z0); (try clear c14); (try clear c14b0); (try clear c14b0z0); (try clear c15); (try clear c15b0); (try clear c15b0z0); (try clear hx214_0); (try clear p2); (try clear p214); (try clear q214)
        obtain ⟨x8_3, x33_3, rfl, rfl, HA, HK3, HO_0, HO_6, HO_24, HB⟩ := hrel
        cases gk with
        | zero => exact absurd HA.out (by simp [levin_Rest.l1])
        | succ k3 =>
         have H := HA.out; clear HA
         simp only [levin_Rest.l1] at H
         by_cases c16 : x33_3 < (l1.length : Int)
         ·
          rw [if_pos c16] at H; have c16b0 : decide (x33_3 < (l1.length : Int)) = true := decide_eq_true c16; clear c16
          by_cases c17 : 0 ≤ x33_3; rotate_left
          · rw [if_neg c17] at H; exact absurd H (by simp)
          rw [if_pos c17] at H; have c17b0 : decide (0 ≤ x33_3) = true := decide_eq_true c17; clear c17
          by_cases c18 : x33_3 < (l1.length : Int); rotate_left
          · rw [if_neg c18] at H; exact absurd H (by simp)
          rw [if_pos c18] at H; have c18b0 : decide (x33_3 < (l1.length : Int)) = true := decide_eq_true c18; clear c18
          by_cases c19 : (wrap64 ((wrap64 (x26_2 - 1)) - x33_3)) ≥ 0
          ·
           rw [if_pos c19] at H; have c19b0 : decide (0 ≤ (wrap64 ((wrap64 (x26_2 - 1)) - x33_3))) = true := decide_eq_true c19; clear c19; replace H := Option.bind_eq_some_iff.mp H; obtain ⟨t217, A200, H⟩ := H
           replace H : (if 0 ≤ (wrap64 ((wrap64 (x26_2 - 1)) - x33_3)) then (if (wrap64 ((wrap64 (x26_2 - 1)) - x33_3)) < (t208.length : Int) then ((fix_Mul.f k3 t217 (rd t208 (wrap64 ((wrap64 (x26_2 - 1)) - x33_3))) 12).bind fun t219 => (levin_Rest.l1 k3 t208 l1 x6_2 x26_2 (wrap64 (x8_3 - t219)) t208 (t208.length : Int) x26_2 l1 (l1.length : Int) (wrap64 (x33_3 + 1)))) else (none)) else (none)) = some (r1, r2) := H
           have A20 := Aside0.mk A200; clear A200
           obtain ⟨ji21, hji21⟩ : ∃ j_ : Int, (wrap64 ((wrap64 (x26_2 - 1)) - x33_3)) = j_ := ⟨_, rfl⟩
           replace H : (if 0 ≤ (ji21) then (if (ji21) < (t208.length : Int) then ((fix_Mul.f k3 t217 (rd t208 (ji21)) 12).bind fun t219 => (levin_Rest.l1 k3 t208 l1 x6_2 x26_2 (wrap64 (x8_3 - t219)) t208 (t208.length : Int) x26_2 l1 (l1.length : Int) (wrap64 (x33_3 + 1)))) else (none)) else (none)) = some (r1, r2) := by first | (rw [hji21] at H; exact H) | (simp only [hji21] at H ⊢; exact H)
           (try rw [hji21] at c19b0); (try rw [hji21] at A20)
           have hji21w : (IntKind.i64.wrap ((wrap64 (x26_2 - 1)) - x33_3)) = ji21 := (i64_w _).trans hji21
           by_cases c22 : 0 ≤ (ji21); rotate_left
           · rw [if_neg c22] at H; exact absurd H (by simp)
           rw [if_pos c22] at H; have c22b0 : decide (0 ≤ (ji21)) = true := decide_eq_true c22; clear c22
           by_cases c23 : (ji21) < (t208.length : Int); rotate_left
           · rw [if_neg c23] at H; exact absurd H (by simp)
           rw [if_pos c23] at H; have c23b0 : decide ((ji21) < (t208.length : Int)) = true := decide_eq_true c23; clear c23; replace H := Option.bind_eq_some_iff.mp H; obtain ⟨t219, A240, H⟩ := H
           replace H : (levin_Rest.l1 k3 t208 l1 x6_2 x26_2 (wrap64 (x8_3 - t219)) t208 (t208.length : Int) x26_2 l1 (l1.length : Int) (wrap64 (x33_3 + 1))) = some (r1, r2) := H
           have A24 := Aside0.mk A240; clear A240; have H' := Aside0.mk H; clear H; have p216 : 0 ≤ (x33_3 : Int) := of_decide_eq_true (by first | (with_reducible assumption) | assumption); have q216 : x33_3 < (l1.length : Int) := of_decide_eq_true (by first | (with_reducible assumption) | assumption)
           obtain ⟨ad216, e216, hx216_0⟩ := Kd.at_int HR1.out x33_3 p216 q216
           cases e216
           replace hx216_0 := (HB.out.cell (World.block_lt_of_cell? w _ hx216_0)).trans hx216_0
           replace p216 := eq_true p216; replace q216 := eq_true q216
           have p218 : 0 ≤ ((ji21) : Int) := of_decide_eq_true (by first | (with_reducible assumption) | assumption); have q218 : (ji21) < (t208.length : Int) := of_decide_eq_true (by first | (with_reducible assumption) | assumption); obtain ⟨ad218, e218, hx218_0⟩ := Kd.at_int (Kd.R_reads' HO_0.out).2.2 (ji21) p218 q218; obtain rfl : ad214 = ad218 := (by injection e218); replace p218 := eq_true p218; replace q218 := eq_true q218
           go_wp2_with (first | (go_at_call 26; (with_reducible refine (fix_Clamp.calls k3 (rd l1 x33_3) (-131072) 131072 t217 _ A20.out).mono ?_); rintro e w' ⟨rfl, ⟨nd, rfl⟩⟩; (try first | exact ⟨rfl, _, World.drewN_drewN _ _ _⟩ | exact ⟨rfl, _, Eq.trans (World.drewN_drewN _ _ _) (congrArg (World.drewN _) (Nat.add_assoc _ _ _))⟩)) | (go_at_call 25; (with_reducible refine (fix_Mul.calls k3 t217 (rd t208 (ji21)) 12 t219 _ A24.out).mono ?_); rintro e w' ⟨rfl, ⟨nd, rfl⟩⟩; (try first | exact ⟨rfl, _, World.drewN_drewN _ _ _⟩ | exact ⟨rfl, _, Eq.trans (World.drewN_drewN _ _ _) (congrArg (World.drewN _) (Nat.add_assoc _ _ _))⟩)))
           repeat (go_quiet (first | (go_at_call 26; (with_reducible refine (fix_Clamp.calls k3 (rd l1 x33_3) (-131072) 131072 t217 _ A20.out).mono ?_); rintro e w' ⟨rfl, ⟨nd, rfl⟩⟩; (try first | exact ⟨rfl, _, World.drewN_drewN _ _ _⟩ | exact ⟨rfl, _, Eq.trans (World.drewN_drewN _ _ _) (congrArg (World.drewN _) (Nat.add_assoc _ _ _))⟩)) | (go_at_call 25; (with_reducible refine (fix_Mul.calls k3 t217 (rd t208 (ji21)) 12 t219 _ A24.out).mono ?_); rintro e w' ⟨rfl, ⟨nd, rfl⟩⟩; (try first | exact ⟨rfl, _, World.drewN_drewN _ _ _⟩ | exact ⟨rfl, _, Eq.trans (World.drewN_drewN _ _ _) (congrArg (World.drewN _) (Nat.add_assoc _ _ _))⟩))); try go_wp2_with (first | (go_at_call 26; (with_reducible refine (fix_Clamp.calls k3 (rd l1 x33_3) (-131072) 131072 t217 _ A20.out).mono ?_); rintro e w' ⟨rfl, ⟨nd, rfl⟩⟩; (try first | exact ⟨rfl, _, World.drewN_drewN _ _ _⟩ | exact ⟨rfl, _, Eq.trans (World.drewN_drewN _ _ _) (congrArg (World.drewN _) (Nat.add_assoc _ _ _))⟩)) | (go_at_call 25; (with_reducible refine (fix_Mul.calls k3 t217 (rd t208 (ji21)) 12 t219 _ A24.out).mono ?_); rintro e w' ⟨rfl, ⟨nd, rfl⟩⟩; (try first | exact ⟨rfl, _, World.drewN_drewN _ _ _⟩ | exact ⟨rfl, _, Eq.trans (World.drewN_drewN _ _ _) (congrArg (World.drewN _) (Nat.add_assoc _ _ _))⟩))))
           go_roundg k3
           case measure => have := HJ2.out; have := HK2.out; have := HK3.out; omega
           case rel => exact ⟨(wrap64 (x8_3 - t219)), (wrap64 (x33_3 + 1)), (by first | rfl | (simp; done) | (simp [*]; done)), (by first | rfl | (simp; done) | (simp [*]; done)), H', ⟨by have := HJ2.out; have := HK2.out; have := HK3.out; omega⟩, ⟨by (with_reducible repeat first | apply Kd.R_alloc | apply Kd.R_drewN | apply Kd.R_drew); exact HO_0.out⟩, ⟨by (with_reducible repeat first | apply Kd.R_alloc | apply Kd.R_drewN | apply Kd.R_drew); exact HO_6.out⟩, ⟨by (with_reducible repeat first | apply Kd.R_alloc | apply Kd.R_drewN | apply Kd.R_drew); exact HO_24.out⟩, ⟨by repeat (with_reducible first | exact HB.out | apply below_alloc | apply pw_below_drewN | apply below_drew1)⟩⟩
          ·
           rw [if_neg c19] at H; have c19b0 : decide (0 ≤ (wrap64 ((wrap64 (x26_2 - 1)) - x33_3))) = false := decide_eq_false c19; clear c19; have H' := Aside0.mk H; clear H; have p216 : 0 ≤ (x33_3 : Int) := of_decide_eq_true (by first | (with_reducible assumption) | assumption); have q216 : x33_3 < (l1.length : Int) := of_decide_eq_true (by first | (with_reducible assumption) | assumption)
           obtain ⟨ad216, e216, hx216_0⟩ := Kd.at_int HR1.out x33_3 p216 q216
           cases e216
           replace hx216_0 := (HB.out.cell (World.block_lt_of_cell? w _ hx216_0)).trans hx216_0
           replace p216 := eq_true p216; replace q216 := eq_true q216
           go_wp2
           repeat (go_quiet (fail); try go_wp2)
           go_roundg k3
           case measure => have := HJ2.out; have := HK2.out; have := HK3.out; omega
           case rel => exact ⟨(x8_3), (wrap64 (x33_3 + 1)), (by first | rfl | (simp; done) | (simp [*]; done)), (by first | rfl | (simp; done) | (simp [*]; done)), H', ⟨by have := HJ2.out; have := HK2.out; have := HK3.out; omega⟩, ⟨by (with_reducible repeat first | apply Kd.R_alloc | apply Kd.R_drewN | apply Kd.R_drew); exact HO_0.out⟩, ⟨by (with_reducible repeat first | apply Kd.R_alloc | apply Kd.R_drewN | apply Kd.R_drew); exact HO_6.out⟩, ⟨by (with_reducible repeat first | apply Kd.R_alloc | apply Kd.R_drewN | apply Kd.R_drew); exact HO_24.out⟩, ⟨by repeat (with_reducible first | exact HB.out | apply below_alloc | apply pw_below_drewN | apply below_drew1)⟩⟩
         ·
          rw [if_neg c16] at H; have c16b0 : decide (x33_3 < (l1.length : Int)) = false := decide_eq_false c16; clear c16
          by_cases c25 : 0 ≤ x26_2; rotate_left
          · rw [if_neg c25] at H; exact absurd H (by simp)
          rw [if_pos c25] at H; have c25b0 : decide (0 ≤ x26_2) = true := decide_eq_true c25; clear c25
          by_cases c26 : x26_2 < (x6_2.length : Int); rotate_left
          · rw [if_neg c26] at H; exact absurd H (by simp)
          rw [if_pos c26] at H; have c26b0 : decide (x26_2 < (x6_2.length : Int)) = true := decide_eq_true c26; clear c26
          obtain ⟨y215, hy215⟩ : ∃ y_ : List Int, y_ = (x6_2.set (x26_2 : Int).toNat x8_3) := ⟨_, rfl⟩
          replace H : (levin_Rest.l0 k3 t208 l1 y215 t208 (t208.length : Int) (wrap64 (x26_2 + 1))) = some (r1, r2) := by first | (rw [hy215]; with_reducible exact H) | (have H2_ := (Option.bind_some _ _).symm.trans H; rw [hy215]; with_reducible exact H2_) | (have H2_ := (Option.bind_some _ _).symm.trans H; with_reducible exact H2_) | with_reducible exact H | (rw [hy215]; exact H) | exact H
          have Ny215 := Aside0.mk hy215; clear hy215; have H' := Aside0.mk H; clear H; have p27 : 0 ≤ (x26_2 : Int) := of_decide_eq_true (by first | (with_reducible assumption) | assumption); have q27 : (x26_2 : Int) < ((x6_2.length : Int) : Int) := of_decide_eq_true (by first | (with_reducible assumption) | assumption)
          obtain ⟨go27, co27, eo27, gb27, gl27, cl27, HG27⟩ := Kd.R_form HO_6.out (by omega)
          (first | cases eo27 | (injection eo27 with ea_ en_ ec_; (first | subst ea_ | (injection ea_ with ea_; subst ea_)); subst ec_; clear en_))
          have GB27 := Aside0.mk gb27; have GG27 := Aside0.mk HG27; clear gb27 gl27 HG27
          obtain ⟨hx27_0, hf27_0⟩ := Kd.R_celln 0 HO_6.out (x26_2 : Int) p27 q27
          replace p27 := eq_true p27; replace q27 := eq_true q27
          have HP28 := Kd.R_putg HO_6.out (x26_2 : Int) x8_3
          go_wp2_with (first | ((with_reducible refine gate_store (t := 2) (p := 59) rfl ?_); (try (rw [drewN_self wr]; generalize hq_ : World.drewN wr _ = wr; have n0_ := Aside0.mk (Kd.R_at hq_ HO_0.out); have n1_ := Aside0.mk (Kd.R_at hq_ HO_6.out); have n2_ := Aside0.mk (Kd.R_at hq_ HO_24.out); have n3_ := Aside0.mk (below_at hq_ HB.out); clear hq_ HO_0 HO_6 HO_24 HB; have HO_0 := n0_; have HO_6 := n1_; have HO_24 := n2_; have HB := n3_; clear n0_ n1_ n2_ n3_; (try (have HP28 := Kd.R_putg HO_6.out (x26_2 : Int) x8_3)))); refine store_event (t := 2) (p := 59) (v := ?vo_w29) (w1 := (wr.setCell ⟨go27, (x26_2 : Int).toNat, none⟩ (.int .i64 x8_3))) ?hg ?ho ?hn ?hr ?_; (case ho => rfl); (case hg => rfl); (case hn => rfl); (case hr => first | (go_simp; done) | (go_simp; rfl)); intro w29 hw; have hg : wr.grownBy w29 (some go27) := (by rw [hw]; exact HP28.2); have hp_ : Kd.R (Kd.int .i64) 2 w29 w.heap.size (fun k_ => some k_ ≠ (.slice (some ad214) t208.length co10 : Value).ownBlock ∧ some k_ ≠ (.slice (some ad214) t208.length co10 : Value).ownBlock) (.slice (some ⟨go27, 0, none⟩) x6_2.length co27) y215 := (by rw [hw, Ny215.out]; exact HP28.1); clear HP28; have n0_ := Aside0.mk (Kd.R_after (v := (.slice (some ⟨go27, 0, none⟩) x6_2.length co27)) (v1 := (.slice (some ⟨go27, 0, none⟩) x6_2.length co27)) (ok := (fun _ => True)) (by (with_reducible repeat first | apply Kd.R_alloc | apply Kd.R_drewN | apply Kd.R_drew); exact Kd.R_mono HO_0.out (fun _ hk => ⟨trivial, hk⟩)) hg (.inl rfl)); have n1_ := Aside0.mk (hp_); have n2_ := Aside0.mk (Kd.R_after (v := (.slice (some ⟨go27, 0, none⟩) x6_2.length co27)) (v1 := (.slice (some ⟨go27, 0, none⟩) x6_2.length co27)) (ok := (fun _ => True)) (by (with_reducible repeat first | apply Kd.R_alloc | apply Kd.R_drewN | apply Kd.R_drew); exact Kd.R_mono HO_24.out (fun _ hk => ⟨trivial, hk⟩)) hg (.inl rfl)); have n3_ := Aside0.mk ((by rw [hw]; exact below_set (HB.out) GB27.out : Below w.heap.size w w29)); clear HO_0; clear HO_6; clear HO_24; clear HB; have HO_0 := n0_; have HO_6 := n1_; have HO_24 := n2_; have HB := n3_; clear n0_ n1_ n2_ n3_; clear hg hw hp_))
          repeat (go_quiet (first | ((with_reducible refine gate_store (t := 2) (p := 59) rfl ?_); (try (rw [drewN_self wr]; generalize hq_ : World.drewN wr _ = wr; have n0_ := Aside0.mk (Kd.R_at hq_ HO_0.out); have n1_ := Aside0.mk (Kd.R_at hq_ HO_6.out); have n2_ := Aside0.mk (Kd.R_at hq_ HO_24.out); have n3_ := Aside0.mk (below_at hq_ HB.out); clear hq_ HO_0 HO_6 HO_24 HB; have HO_0 := n0_; have HO_6 := n1_; have HO_24 := n2_; have HB := n3_; clear n0_ n1_ n2_ n3_; (try (have HP28 := Kd.R_putg HO_6.out (x26_2 : Int) x8_3)))); refine store_event (t := 2) (p := 59) (v := ?vo_w29) (w1 := (wr.setCell ⟨go27, (x26_2 : Int).toNat, none⟩ (.int .i64 x8_3))) ?hg ?ho ?hn ?hr ?_; (case ho => rfl); (case hg => rfl); (case hn => rfl); (case hr => first | (go_simp; done) | (go_simp; rfl)); intro w29 hw; have hg : wr.grownBy w29 (some go27) := (by rw [hw]; exact HP28.2); have hp_ : Kd.R (Kd.int .i64) 2 w29 w.heap.size (fun k_ => some k_ ≠ (.slice (some ad214) t208.length co10 : Value).ownBlock ∧ some k_ ≠ (.slice (some ad214) t208.length co10 : Value).ownBlock) (.slice (some ⟨go27, 0, none⟩) x6_2.length co27) y215 := (by rw [hw, Ny215.out]; exact HP28.1); clear HP28; have n0_ := Aside0.mk (Kd.R_after (v := (.slice (some ⟨go27, 0, none⟩) x6_2.length co27)) (v1 := (.slice (some ⟨go27, 0, none⟩) x6_2.length co27)) (ok := (fun _ => True)) (by (with_reducible repeat first | apply Kd.R_alloc | apply Kd.R_drewN | apply Kd.R_drew); exact Kd.R_mono HO_0.out (fun _ hk => ⟨trivial, hk⟩)) hg (.inl rfl)); have n1_ := Aside0.mk (hp_); have n2_ := Aside0.mk (Kd.R_after (v := (.slice (some ⟨go27, 0, none⟩) x6_2.length co27)) (v1 := (.slice (some ⟨go27, 0, none⟩) x6_2.length co27)) (ok := (fun _ => True)) (by (with_reducible repeat first | apply Kd.R_alloc | apply Kd.R_drewN | apply Kd.R_drew); exact Kd.R_mono HO_24.out (fun _ hk => ⟨trivial, hk⟩)) hg (.inl rfl)); have n3_ := Aside0.mk ((by rw [hw]; exact below_set (HB.out) GB27.out : Below w.heap.size w w29)); clear HO_0; clear HO_6; clear HO_24; clear HB; have HO_0 := n0_; have HO_6 := n1_; have HO_24 := n2_; have HB := n3_; clear n0_ n1_ n2_ n3_; clear hg hw hp_)); try go_wp2_with (first | ((with_reducible refine gate_store (t := 2) (p := 59) rfl ?_); (try (rw [drewN_self wr]; generalize hq_ : World.drewN wr _ = wr; have n0_ := Aside0.mk (Kd.R_at hq_ HO_0.out); have n1_ := Aside0.mk (Kd.R_at hq_ HO_6.out); have n2_ := Aside0.mk (Kd.R_at hq_ HO_24.out); have n3_ := Aside0.mk (below_at hq_ HB.out); clear hq_ HO_0 HO_6 HO_24 HB; have HO_0 := n0_; have HO_6 := n1_; have HO_24 := n2_; have HB := n3_; clear n0_ n1_ n2_ n3_; (try (have HP28 := Kd.R_putg HO_6.out (x26_2 : Int) x8_3)))); refine store_event (t := 2) (p := 59) (v := ?vo_w29) (w1 := (wr.setCell ⟨go27, (x26_2 : Int).toNat, none⟩ (.int .i64 x8_3))) ?hg ?ho ?hn ?hr ?_; (case ho => rfl); (case hg => rfl); (case hn => rfl); (case hr => first | (go_simp; done) | (go_simp; rfl)); intro w29 hw; have hg : wr.grownBy w29 (some go27) := (by rw [hw]; exact HP28.2); have hp_ : Kd.R (Kd.int .i64) 2 w29 w.heap.size (fun k_ => some k_ ≠ (.slice (some ad214) t208.length co10 : Value).ownBlock ∧ some k_ ≠ (.slice (some ad214) t208.length co10 : Value).ownBlock) (.slice (some ⟨go27, 0, none⟩) x6_2.length co27) y215 := (by rw [hw, Ny215.out]; exact HP28.1); clear HP28; have n0_ := Aside0.mk (Kd.R_after (v := (.slice (some ⟨go27, 0, none⟩) x6_2.length co27)) (v1 := (.slice (some ⟨go27, 0, none⟩) x6_2.length co27)) (ok := (fun _ => True)) (by (with_reducible repeat first | apply Kd.R_alloc | apply Kd.R_drewN | apply Kd.R_drew); exact Kd.R_mono HO_0.out (fun _ hk => ⟨trivial, hk⟩)) hg (.inl rfl)); have n1_ := Aside0.mk (hp_); have n2_ := Aside0.mk (Kd.R_after (v := (.slice (some ⟨go27, 0, none⟩) x6_2.length co27)) (v1 := (.slice (some ⟨go27, 0, none⟩) x6_2.length co27)) (ok := (fun _ => True)) (by (with_reducible repeat first | apply Kd.R_alloc | apply Kd.R_drewN | apply Kd.R_drew); exact Kd.R_mono HO_24.out (fun _ hk => ⟨trivial, hk⟩)) hg (.inl rfl)); have n3_ := Aside0.mk ((by rw [hw]; exact below_set (HB.out) GB27.out : Below w.heap.size w w29)); clear HO_0; clear HO_6; clear HO_24; clear HB; have HO_0 := n0_; have HO_6 := n1_; have HO_24 := n2_; have HB := n3_; clear n0_ n1_ n2_ n3_; clear hg hw hp_)))
          go_roundg k3
          case measure => have := HJ2.out; have := HK2.out; have := HK3.out; omega
          case rel => exact ⟨(y215), (wrap64 (x26_2 + 1)), (by first | rfl | (simp; done) | (simp [*]; done)), H', ⟨by have := HJ2.out; have := HK2.out; have := HK3.out; omega⟩, ⟨by (with_reducible repeat first | apply Kd.R_alloc | apply Kd.R_drewN | apply Kd.R_drew); exact Kd.R_mono HO_0.out (fun _ hk => hk.2)⟩, ⟨by (with_reducible repeat first | apply Kd.R_alloc | apply Kd.R_drewN | apply Kd.R_drew); exact HO_6.out⟩, ⟨by (with_reducible repeat first | apply Kd.R_alloc | apply Kd.R_drewN | apply Kd.R_drew); exact Kd.R_mono HO_24.out (fun _ hk => hk.2)⟩, ⟨by repeat (with_reducible first | exact HB.out | apply below_alloc | apply pw_below_drewN | apply below_drew1)⟩⟩
      ·
       rw [if_neg c13] at H; have c13b0 : decide (x26_2 < (t208.length : Int)) = false := decide_eq_false c13; clear c13
       simp only [Option.some.injEq, Prod.mk.injEq] at H
       obtain ⟨rfl, rfl⟩ := H
       go_wp2
       repeat (go_quiet (fail); try go_wp2)
       go_ret2
       exact ⟨_, by first | rfl | (simp [errW_none, errW_some] <;> rfl) | (simp [*, errW_none, errW_some] <;> rfl), by (with_reducible repeat first | apply Kd.R_alloc | apply Kd.R_drewN | apply Kd.R_drew); exact Kd.R_mono HO_6.out (fun _ hk => trivial), by repeat (with_reducible first | exact HB.out | apply below_alloc | apply pw_below_drewN | apply below_drew1)⟩

/-! ### levin_Power: function 16 -/
def levin_Power.l0 : Nat → Int → List Int → Int → Int → Option (Int)
 | 0, _, _, _, _ => none
 | k + 1, x3, x10, x11, x12 => if x12 < x11 then (if 0 ≤ x12 then (if x12 < (x10.length : Int) then ((fix_Clamp.f k (rd x10 x12) (-1048576) 1048576).bind fun t222 => (levin_Power.l0 k (wrap64 (x3 + (wrap64 (t222 * t222)))) x10 x11 (wrap64 (x12 + 1)))) else (none)) else (none)) else (some x3)
def levin_Power.f (k : Nat) (l0 : List Int) : Option (Int) := if 0 ≤ (mn (l0.length : Int) 960) then (if (mn (l0.length : Int) 960) ≤ (l0.length : Int) then (levin_Power.l0 k 0 (l0.take ((mn (l0.length : Int) 960) : Int).toNat) ((l0.take ((mn (l0.length : Int) 960) : Int).toNat).length : Int) 0) else (none)) else (none)
set_option maxHeartbeats 8000000 in
set_option maxRecDepth 100000 in
theorem levin_Power.calls (k : Nat) (A0 : Option Addr) (c0 : Nat) (l0 : List Int) (r : Int) (w : World) (hr0 : Kd.C (Kd.int .i64) w A0 l0.length l0) (hc0 : l0.length ≤ c0) (h : levin_Power.f k l0 = some r) :
  Calls Try.prog 16 #[.slice A0 l0.length c0] w fun e w' => e = .returned (.int .i64 r) ∧ Below w.heap.size w w' := by
 have HR0 := Aside0.mk hr0; have HC0 := Aside0.mk hc0; clear hr0 hc0
 have HB := Aside0.mk (Below.refl w.heap.size w)
 have H : (if 0 ≤ (mn (l0.length : Int) 960) then (if (mn (l0.length : Int) 960) ≤ (l0.length : Int) then (levin_Power.l0 k 0 (l0.take ((mn (l0.length : Int) 960) : Int).toNat) ((l0.take ((mn (l0.length : Int) 960) : Int).toNat).length : Int) 0) else (none)) else (none)) = some r := h
 clear h
 obtain ⟨ji2, hji2⟩ : ∃ j_ : Int, (mn (l0.length : Int) 960) = j_ := ⟨_, rfl⟩
 replace H : (if 0 ≤ (ji2) then (if (ji2) ≤ (l0.length : Int) then (levin_Power.l0 k 0 (l0.take ((ji2) : Int).toNat) ((l0.take ((ji2) : Int).toNat).length : Int) 0) else (none)) else (none)) = some r := by first | (rw [hji2] at H; exact H) | (simp only [hji2] at H ⊢; exact H)
 (try (have hji2h : ji2 ≤ 960 := by (rw [← hji2]; unfold mn; (repeat' split) <;> omega)))
 (try (have hji2g : ji2 ≤ 64 := by omega))
 (try (have hji2l : 0 ≤ ji2 := by (rw [← hji2]; unfold mn; (repeat' split) <;> omega)))
 (try (have hji2m : 0 ≤ ji2 := by omega))
 have hji2_ : (if 960 < (l0.length : Int) then 960 else (l0.length : Int)) = ji2 := hji2
 by_cases c3 : 0 ≤ (ji2); rotate_left
 · rw [if_neg c3] at H; exact absurd H (by simp)
 rw [if_pos c3] at H; have c3b0 := eq_true c3; have c3b1 : decide (0 ≤ (ji2)) = true := decide_eq_true c3; clear c3
 by_cases c4 : (ji2) ≤ (l0.length : Int); rotate_left
 · rw [if_neg c4] at H; exact absurd H (by simp)
 rw [if_pos c4] at H; have c4b0 := eq_true c4; have c4b1 : decide ((ji2) ≤ (l0.length : Int)) = true := decide_eq_true c4; clear c4; have H' := Aside0.mk H; clear H
 obtain ⟨i05, hi05, _, hsz5, _⟩ := info_parts info2
 obtain ⟨hcut5, hA5, hC5⟩ := print_take_of (P := Try.prog) (Value.int .i64) 0 23 2 .i64 Try.underlying23 hi05 hsz5 A0 c0 l0 (ji2) (of_decide_eq_true (by first | (with_reducible assumption) | assumption)) (of_decide_eq_true (by first | (with_reducible assumption) | assumption)) HC0.out
 have HR220 := Aside0.mk (Kd.C_of_reads (h1 := fun _ => rfl) (hA5 _ (Kd.reads_of_C HR0.out)))
 have HC220 := Aside0.mk hC5; clear hA5 hC5 hi05 hsz5
 go_enter Try.func16, Try.ntmps16
 go_wp2
 go_loopg [3, 12] k (fun kq v3 v12 w' => ∃ (x3_1 : Int) (x12_1 : Int), v3 = .int .i64 x3_1 ∧ v12 = .int .i64 x12_1 ∧ Aside0 (levin_Power.l0 kq x3_1 (l0.take ((ji2) : Int).toNat) ((l0.take ((ji2) : Int).toNat).length : Int) x12_1 = some r) ∧ Aside0 (kq ≤ k) ∧ Aside0 (Below w.heap.size w w'))
 case atStart => exact ⟨(0), (0), (by first | rfl | (simp; done) | (simp [*]; done)), (by first | rfl | (simp; done) | (simp [*]; done)), H', ⟨Nat.le_refl _⟩, ⟨by repeat (with_reducible first | exact HB.out | apply below_alloc | apply pw_below_drewN | apply below_drew1)⟩⟩
 case round =>
  clear H'
  (try clear c1); (try clear p2); (try clear c3); (try clear c3b0); (try clear c3b0z0); (try clear c3b1); (try clear c3b1z0); (try clear c4); (try clear c4b0); (try clear c4b0z0); (try clear c4b1); (try clear c4b1z0)
  obtain ⟨x3_1, x12_1, rfl, rfl, HA, HK1, HB⟩ := hrel
  cases gk with
  | zero => exact absurd HA.out (by simp [levin_Power.l0])
  | succ k1 =>
   have H := HA.out; clear HA
   simp only [levin_Power.l0] at H
   by_cases c6 : x12_1 < ((l0.take ((ji2) : Int).toNat).length : Int)
   ·
    rw [if_pos c6] at H; have c6b0 : decide (x12_1 < ((l0.take ((ji2) : Int).toNat).length : Int)) = true := decide_eq_true c6
    have c6b0y : decide (x12_1 < max ji2 0) = true := by have h2_ : ji2 ≤ (l0.length : Int) := (by rw [← hji2]; unfold mn; split <;> omega); have h_ := of_decide_eq_true c6b0; rw [List.length_take] at h_; exact decide_eq_true (by omega)
    have c6b0q : (x12_1 < max ji2 0) = True := eq_true (of_decide_eq_true c6b0y)
    clear c6
    by_cases c7 : 0 ≤ x12_1; rotate_left
    · rw [if_neg c7] at H; exact absurd H (by simp)
    rw [if_pos c7] at H; have c7b0 : decide (0 ≤ x12_1) = true := decide_eq_true c7; clear c7
    by_cases c8 : x12_1 < ((l0.take ((ji2) : Int).toNat).length : Int); rotate_left
    · rw [if_neg c8] at H; exact absurd H (by simp)
    rw [if_pos c8] at H; have c8b0 : decide (x12_1 < ((l0.take ((ji2) : Int).toNat).length : Int)) = true := decide_eq_true c8
    have c8b0y : decide (x12_1 < max ji2 0) = true := by have h2_ : ji2 ≤ (l0.length : Int) := (by rw [← hji2]; unfold mn; split <;> omega); have h_ := of_decide_eq_true c8b0; rw [List.length_take] at h_; exact decide_eq_true (by omega)
    have c8b0q : (x12_1 < max ji2 0) = True := eq_true (of_decide_eq_true c8b0y)
    clear c8; replace H := Option.bind_eq_some_iff.mp H; obtain ⟨t222, A90, H⟩ := H
    replace H : (levin_Power.l0 k1 (wrap64 (x3_1 + (wrap64 (t222 * t222)))) (l0.take ((ji2) : Int).toNat) ((l0.take ((ji2) : Int).toNat).length : Int) (wrap64 (x12_1 + 1))) = some r := H
    have A9 := Aside0.mk A90; clear A90; have H' := Aside0.mk H; clear H; have p221 : 0 ≤ (x12_1 : Int) := of_decide_eq_true (by first | (with_reducible assumption) | assumption); have q221 : x12_1 < ((l0.take ((ji2) : Int).toNat).length : Int) := of_decide_eq_true (by first | (with_reducible assumption) | assumption)
    obtain ⟨ad221, e221, hx221_0⟩ := Kd.at_int HR220.out x12_1 p221 q221
    cases e221
    replace hx221_0 := (HB.out.cell (World.block_lt_of_cell? w _ hx221_0)).trans hx221_0
    replace p221 := eq_true p221; replace q221 := eq_true q221
    go_wp2_with (first | ((with_reducible refine gate_callee (f := 26) rfl ?_); refine goesL_ (some 17) rfl rfl Try.func26 (by kernel_rfl) rfl #[.int .i64 (rd (l0.take ((ji2) : Int).toNat) x12_1), .int .i64 (-1048576), .int .i64 1048576] rfl (by (try simp only [List.map_toArray, List.map_cons, List.map_nil]); first | done | (simp only [hji2]; rfl) | rfl | (simp only [List.length_drop, List.length_take]; rfl)) ?_; (with_reducible refine (fix_Clamp.calls k1 (rd (l0.take ((ji2) : Int).toNat) x12_1) (-1048576) 1048576 t222 _ A9.out).mono ?_); rintro e w' ⟨rfl, ⟨nd, rfl⟩⟩; refine ⟨_, rfl, ?_⟩))
    go_roundg k1
    case measure => have := HK1.out; omega
    case rel => exact ⟨(wrap64 (x3_1 + (wrap64 (t222 * t222)))), (wrap64 (x12_1 + 1)), (by first | rfl | (simp; done) | (simp [*]; done)), (by first | rfl | (simp; done) | (simp [*]; done)), H', ⟨by have := HK1.out; omega⟩, ⟨by repeat (with_reducible first | exact HB.out | apply below_alloc | apply pw_below_drewN | apply below_drew1)⟩⟩
   ·
    rw [if_neg c6] at H; have c6b0 : decide (x12_1 < ((l0.take ((ji2) : Int).toNat).length : Int)) = false := decide_eq_false c6
    have c6b0y : decide (x12_1 < max ji2 0) = false := by have h2_ : ji2 ≤ (l0.length : Int) := (by rw [← hji2]; unfold mn; split <;> omega); have h_ := of_decide_eq_false c6b0; rw [List.length_take] at h_; exact decide_eq_false (by omega)
    clear c6
    obtain rfl := Option.some.inj H
    go_wp2
    go_ret
    exact ⟨by first | rfl | (simp [errW_none, errW_some] <;> rfl) | (simp only [← hji2]; first | rfl | (simp [errW_none, errW_some] <;> rfl)) | (simp [*, errW_none, errW_some] <;> rfl), by repeat (with_reducible first | exact HB.out | apply below_alloc | apply pw_below_drewN | apply below_drew1)⟩

/-! ### lsf_unit: function 44 -/
def lsf_unit.f (a0 : Int) : Option (Int) := if a0 = 10 then (some 400) else (if a0 = 16 then (some 250) else (some 0))
set_option maxHeartbeats 8000000 in
set_option maxRecDepth 100000 in
theorem lsf_unit.calls (a0 : Int) (r : Int) (w : World) (h : lsf_unit.f a0 = some r) :
  Calls Try.prog 44 #[.int .i64 a0] w fun e w' => e = .returned (.int .i64 r) ∧ Drawn0 w w' := by
 have H : (if a0 = 10 then (some 400) else (if a0 = 16 then (some 250) else (some 0))) = some r := h
 clear h
 by_cases c2 : a0 = 10
 ·
  rw [if_pos c2] at H; have c2b0 : (a0 == 10) = true := beq_iff_eq.mpr c2; have c2b1 : (a0 != 10) = false := bne_eq_false_iff_eq.mpr c2; clear c2
  obtain rfl := Option.some.inj H
  go_enter Try.func44, Try.ntmps44
  go_wp2
  go_ret
  exact ⟨by first | rfl | (simp; done) | (simp [*]; done), by repeat (first | exact Drawn0.refl _ | apply Drawn0.step)⟩
 ·
  rw [if_neg c2] at H; have c2b0 : (a0 == 10) = false := beq_eq_false_iff_ne.mpr c2; have c2b1 : (a0 != 10) = true := bne_iff_ne.mpr c2
  by_cases c3 : a0 = 16
  ·
   rw [if_pos c3] at H; have c3b0 : (a0 == 16) = true := beq_iff_eq.mpr c3; have c3b1 : (a0 != 16) = false := bne_eq_false_iff_eq.mpr c3; clear c3
   obtain rfl := Option.some.inj H
   go_enter Try.func44, Try.ntmps44
   go_wp2
   go_ret
   exact ⟨by first | rfl | (simp; done) | (simp [*]; done), by repeat (first | exact Drawn0.refl _ | apply Drawn0.step)⟩
  ·
   rw [if_neg c3] at H; have c3b0 : (a0 == 16) = false := beq_eq_false_iff_ne.mpr c3; have c3b1 : (a0 != 16) = true := bne_iff_ne.mpr c3
   obtain rfl := Option.some.inj H
   go_enter Try.func44, Try.ntmps44
   go_wp2
   go_ret
   exact ⟨by first | rfl | (simp; done) | (simp [*]; done), by repeat (first | exact Drawn0.refl _ | apply Drawn0.step)⟩

/-! ### lsf_Good: function 42 -/
mutual
def lsf_Good.j0 : Nat → Bool → Int → List Int → Option (Bool)
 | 0, _, _, _ => none
 | k + 1, x26, x224000, x224001 => if x26 = true then (some false) else (lsf_Good.l0 k x224001 (x224001.length : Int) 0)
def lsf_Good.l0 : Nat → List Int → Int → Int → Option (Bool)
 | 0, _, _, _ => none
 | k + 1, x28, x29, x30 => if x30 < x29 then (if 0 ≤ x30 then (if x30 < (x28.length : Int) then (if (rd x28 x30) < (-4) then (some false) else (if (rd x28 x30) > 4 then (some false) else (lsf_Good.l0 k x28 x29 (wrap64 (x30 + 1))))) else (none)) else (none)) else (some true)
end
def lsf_Good.f (k : Nat) (a0 : Int) (a1_0 : Int) (l1_1 : List Int) : Option (Bool) := (lsf_unit.f a0).bind fun t224 => (if t224 = 0 then (lsf_Good.j0 k true a1_0 l1_1) else (if a1_0 < 0 then (lsf_Good.j0 k true a1_0 l1_1) else (if a1_0 ≥ 16 then (lsf_Good.j0 k true a1_0 l1_1) else (lsf_Good.j0 k ((l1_1.length : Int) != a0) a1_0 l1_1))))
set_option maxHeartbeats 8000000 in
set_option maxRecDepth 100000 in
theorem lsf_Good.calls (k : Nat) (a0 : Int) (a1_0 : Int) (A1_1 : Option Addr) (c1_1 : Nat) (l1_1 : List Int) (r : Bool) (w : World) (hr1_1 : Kd.C (Kd.int .i64) w A1_1 l1_1.length l1_1) (hc1_1 : l1_1.length ≤ c1_1) (h : lsf_Good.f k a0 a1_0 l1_1 = some r) :
  Calls Try.prog 42 #[.int .i64 a0, .agg #[.int .i64 a1_0, .slice A1_1 l1_1.length c1_1]] w fun e w' => e = .returned (.bool r) ∧ Below w.heap.size w w' := by
 have hu46 := Try.underlying46
 have HR1_1 := Aside0.mk hr1_1; have HC1_1 := Aside0.mk hc1_1; clear hr1_1 hc1_1
 have HB := Aside0.mk (Below.refl w.heap.size w)
 have H : ((lsf_unit.f a0).bind fun t224 => (if t224 = 0 then (lsf_Good.j0 k true a1_0 l1_1) else (if a1_0 < 0 then (lsf_Good.j0 k true a1_0 l1_1) else (if a1_0 ≥ 16 then (lsf_Good.j0 k true a1_0 l1_1) else (lsf_Good.j0 k ((l1_1.length : Int) != a0) a1_0 l1_1))))) = some r := h
 clear h; have HC3 := Aside0.mk H; clear H
 go_enter Try.func42, Try.ntmps42
 go_upto_region 1 with (first | ((with_reducible refine gate_dst (N := 3) rfl ?_); (try (refine gate_guard (by rfl) ?_; dsimp only)); refine box_event ?hg (N := 3) ?hd (cs := #[.int .i64 a1_0, .slice A1_1 l1_1.length c1_1]) (t := 46) ?hr ?_; (case hd => rfl); (case hg => rfl); (case hr => first | (go_simp; done) | (go_simp; rfl)); intro gb223 hg w4 hbox hb; have n0_ := Aside0.mk (below_step (by repeat (with_reducible first | exact HB.out | apply below_alloc | apply pw_below_drewN | apply below_drew1)) hb); have n1_ := Aside0.mk (hbox); have n2_ := Aside0.mk ((by rw [hg]; exact (below_size (by repeat (with_reducible first | exact HB.out | apply below_alloc | apply pw_below_drewN | apply below_drew1))) : w.heap.size ≤ gb223)); have n3_ := Aside0.mk ((by rw [hg]; exact (below_size (by repeat (with_reducible first | exact HB.out | apply below_alloc | apply pw_below_drewN | apply below_drew1))) : w.heap.size ≤ gb223)); clear HB; have HB := n0_; have BK223 := n1_; have GW223 := n2_; have GE223 := n3_; clear n0_ n1_ n2_ n3_; clear hb hbox hg))
 (try simp only [Act.put, List.setIfInBounds_toArray, List.set_cons_zero, List.set_cons_succ])
 go_cut [26] (fun v26 wc => ∃ (kq : Nat) (x26_2 : Bool), v26 = .bool x26_2 ∧ Aside0 (lsf_Good.j0 kq x26_2 a1_0 l1_1 = some r) ∧ Aside0 (kq ≤ k) ∧ Aside0 (wc.heap[gb223]? = some (.cells #[.int .i64 a1_0, (.slice A1_1 l1_1.length c1_1)] 46 (0, 0))) ∧ Aside0 (Below w.heap.size w wc))
 case first =>
  have H := HC3.out; clear HC3; replace H := Option.bind_eq_some_iff.mp H; obtain ⟨t224, A50, H⟩ := H
  replace H : (if t224 = 0 then (lsf_Good.j0 k true a1_0 l1_1) else (if a1_0 < 0 then (lsf_Good.j0 k true a1_0 l1_1) else (if a1_0 ≥ 16 then (lsf_Good.j0 k true a1_0 l1_1) else (lsf_Good.j0 k ((l1_1.length : Int) != a0) a1_0 l1_1)))) = some r := H
  have A5 := Aside0.mk A50; clear A50
  by_cases c6 : t224 = 0
  ·
   rw [if_pos c6] at H; have c6b0 : (t224 == 0) = true := beq_iff_eq.mpr c6; have c6b1 : (t224 != 0) = false := bne_eq_false_iff_eq.mpr c6; clear c6
   (first | rw [c6b0] | (simp only [i64_w, i32_w]; rw [c6b0]) | skip)
   have H' := Aside0.mk H; clear H
   go_wp2_with (first | ((with_reducible refine gate_callee (f := 44) rfl ?_); refine goesL_ (some 8) rfl rfl Try.func44 (by kernel_rfl) rfl #[.int .i64 a0] rfl (by (try simp only [List.map_toArray, List.map_cons, List.map_nil]); first | done | rfl | (simp only [List.length_drop, List.length_take]; rfl)) ?_; (with_reducible refine (lsf_unit.calls a0 t224 _ A5.out).mono ?_); rintro e w' ⟨rfl, ⟨nd, rfl⟩⟩; refine ⟨_, rfl, ?_⟩))
   go_meet
   case rel => exact ⟨_, (true), (by first | rfl | (simp; done) | (simp [*]; done)), H', ⟨by first | omega | exact Nat.le_refl _⟩, ⟨by (with_reducible repeat (first | refine blk_drewN ?_ _ | refine blk_drew ?_ | refine blk_alloc ?_ _)); exact BK223.out⟩, ⟨by repeat (first | (with_reducible first | exact HB.out | apply below_alloc | apply pw_below_drewN | apply below_drew1 | refine below_set ?_ GE223.out) | exact HB.out)⟩⟩
  ·
   rw [if_neg c6] at H; have c6b0 : (t224 == 0) = false := beq_eq_false_iff_ne.mpr c6; have c6b1 : (t224 != 0) = true := bne_iff_ne.mpr c6
   (first | rw [c6b0] | (simp only [i64_w, i32_w]; rw [c6b0]) | skip)
   by_cases c7 : a1_0 < 0
   ·
    rw [if_pos c7] at H; have c7b0 : decide (a1_0 < 0) = true := decide_eq_true c7; clear c7; have H' := Aside0.mk H; clear H
    go_wp2_with (first | ((with_reducible refine gate_callee (f := 44) rfl ?_); refine goesL_ (some 8) rfl rfl Try.func44 (by kernel_rfl) rfl #[.int .i64 a0] rfl (by (try simp only [List.map_toArray, List.map_cons, List.map_nil]); first | done | rfl | (simp only [List.length_drop, List.length_take]; rfl)) ?_; (with_reducible refine (lsf_unit.calls a0 t224 _ A5.out).mono ?_); rintro e w' ⟨rfl, ⟨nd, rfl⟩⟩; refine ⟨_, rfl, ?_⟩; have hcz8_0 : w4.cell? ⟨gb223, 0, none⟩ = some (.int .i64 a1_0) := (blk_cell BK223.out 0).trans rfl; have hcz8_1 : w4.cell? ⟨gb223, 1, none⟩ = some (.slice A1_1 l1_1.length c1_1) := (blk_cell BK223.out 1).trans rfl; have hfz8_0 := blk_frozen BK223.out 0; have hfz8_1 := blk_frozen BK223.out 1))
    go_meet
    case rel => exact ⟨_, (true), (by first | rfl | (simp; done) | (simp [*]; done)), H', ⟨by first | omega | exact Nat.le_refl _⟩, ⟨by (with_reducible repeat (first | refine blk_drewN ?_ _ | refine blk_drew ?_ | refine blk_alloc ?_ _)); exact BK223.out⟩, ⟨by repeat (first | (with_reducible first | exact HB.out | apply below_alloc | apply pw_below_drewN | apply below_drew1 | refine below_set ?_ GE223.out) | exact HB.out)⟩⟩
   ·
    rw [if_neg c7] at H; have c7b0 : decide (a1_0 < 0) = false := decide_eq_false c7; clear c7
    by_cases c9 : a1_0 ≥ 16
    ·
     rw [if_pos c9] at H; have c9b0 : decide (16 ≤ a1_0) = true := decide_eq_true c9; clear c9; have H' := Aside0.mk H; clear H
     go_wp2_with (first | ((with_reducible refine gate_callee (f := 44) rfl ?_); refine goesL_ (some 8) rfl rfl Try.func44 (by kernel_rfl) rfl #[.int .i64 a0] rfl (by (try simp only [List.map_toArray, List.map_cons, List.map_nil]); first | done | rfl | (simp only [List.length_drop, List.length_take]; rfl)) ?_; (with_reducible refine (lsf_unit.calls a0 t224 _ A5.out).mono ?_); rintro e w' ⟨rfl, ⟨nd, rfl⟩⟩; refine ⟨_, rfl, ?_⟩; have hcz10_0 : w4.cell? ⟨gb223, 0, none⟩ = some (.int .i64 a1_0) := (blk_cell BK223.out 0).trans rfl; have hcz10_1 : w4.cell? ⟨gb223, 1, none⟩ = some (.slice A1_1 l1_1.length c1_1) := (blk_cell BK223.out 1).trans rfl; have hfz10_0 := blk_frozen BK223.out 0; have hfz10_1 := blk_frozen BK223.out 1))
     go_meet
     case rel => exact ⟨_, (true), (by first | rfl | (simp; done) | (simp [*]; done)), H', ⟨by first | omega | exact Nat.le_refl _⟩, ⟨by (with_reducible repeat (first | refine blk_drewN ?_ _ | refine blk_drew ?_ | refine blk_alloc ?_ _)); exact BK223.out⟩, ⟨by repeat (first | (with_reducible first | exact HB.out | apply below_alloc | apply pw_below_drewN | apply below_drew1 | refine below_set ?_ GE223.out) | exact HB.out)⟩⟩
    ·
     rw [if_neg c9] at H; have c9b0 : decide (16 ≤ a1_0) = false := decide_eq_false c9; clear c9; have H' := Aside0.mk H; clear H
     go_wp2_with (first | ((with_reducible refine gate_callee (f := 44) rfl ?_); refine goesL_ (some 8) rfl rfl Try.func44 (by kernel_rfl) rfl #[.int .i64 a0] rfl (by (try simp only [List.map_toArray, List.map_cons, List.map_nil]); first | done | rfl | (simp only [List.length_drop, List.length_take]; rfl)) ?_; (with_reducible refine (lsf_unit.calls a0 t224 _ A5.out).mono ?_); rintro e w' ⟨rfl, ⟨nd, rfl⟩⟩; refine ⟨_, rfl, ?_⟩; have hcz11_0 : w4.cell? ⟨gb223, 0, none⟩ = some (.int .i64 a1_0) := (blk_cell BK223.out 0).trans rfl; have hcz11_1 : w4.cell? ⟨gb223, 1, none⟩ = some (.slice A1_1 l1_1.length c1_1) := (blk_cell BK223.out 1).trans rfl; have hfz11_0 := blk_frozen BK223.out 0; have hfz11_1 := blk_frozen BK223.out 1))
     go_meet
     case rel => exact ⟨_, (((l1_1.length : Int) != a0)), (by first | rfl | (simp; done) | (simp [*]; done)), H', ⟨by first | omega | exact Nat.le_refl _⟩, ⟨by (with_reducible repeat (first | refine blk_drewN ?_ _ | refine blk_drew ?_ | refine blk_alloc ?_ _)); exact BK223.out⟩, ⟨by repeat (first | (with_reducible first | exact HB.out | apply below_alloc | apply pw_below_drewN | apply below_drew1 | refine below_set ?_ GE223.out) | exact HB.out)⟩⟩
 case rest =>
  clear HC3; (try clear c1); (try clear p2); (try clear c4); (try clear c6); (try clear c6b0); (try clear c6b0z0); (try clear c6b1); (try clear c6b1z0); (try clear c7); (try clear c7b0); (try clear c7b0z0); (try clear c9); (try clear c9b0); (try clear c9b0z0); (try clear hcz10_0); (try clear hcz10_1); (try clear hcz11_0); (try clear hcz11_1); (try clear hcz8_0); (try clear hcz8_1); (try clear hfz10_0); (try clear hfz10_1); (try clear hfz11_0); (try clear hfz11_1); (try clear hfz8_0); (try clear hfz8_1)
  obtain ⟨kq, x26_2, rfl, HA, HJ2, BK223, HB⟩ := hcut
  cases kq with
  | zero => exact absurd HA.out (by simp [lsf_Good.j0])
  | succ kj2 =>
   have H := HA.out; clear HA
   simp only [lsf_Good.j0] at H
   by_cases c12 : x26_2 = true
   ·
    subst c12
    have H1 : (some false) = some r := by rw [if_pos rfl] at H; exact H
    clear H; have H := H1; clear H1
    obtain rfl := Option.some.inj H
    go_wp2
    go_ret
    exact ⟨by first | rfl | (simp [errW_none, errW_some] <;> rfl) | (simp [*, errW_none, errW_some] <;> rfl), by repeat (first | (with_reducible first | exact HB.out | apply below_alloc | apply pw_below_drewN | apply below_drew1 | refine below_set ?_ GE223.out) | exact HB.out)⟩
   ·
    replace c12 := Bool.eq_false_iff.mpr c12
    subst c12
    have H1 : (lsf_Good.l0 kj2 l1_1 (l1_1.length : Int) 0) = some r := by rw [if_neg (show ¬ (false = true) by decide)] at H; exact H
    clear H; have H := H1; clear H1; have H' := Aside0.mk H; clear H
    have hcz13_0 : wc.cell? ⟨gb223, 0, none⟩ = some (.int .i64 a1_0) := (blk_cell BK223.out 0).trans rfl
    have hcz13_1 : wc.cell? ⟨gb223, 1, none⟩ = some (.slice A1_1 l1_1.length c1_1) := (blk_cell BK223.out 1).trans rfl
    have hfz13_0 := blk_frozen BK223.out 0
    have hfz13_1 := blk_frozen BK223.out 1
    go_wp2
    go_loopg [30] kj2 (fun kq v30 w' => ∃ (x30_2 : Int), v30 = .int .i64 x30_2 ∧ Aside0 (lsf_Good.l0 kq l1_1 (l1_1.length : Int) x30_2 = some r) ∧ Aside0 (kq ≤ kj2) ∧ Aside0 (w'.heap[gb223]? = some (.cells #[.int .i64 a1_0, (.slice A1_1 l1_1.length c1_1)] 46 (0, 0))) ∧ Aside0 (Below w.heap.size w w'))
    case atStart => exact ⟨(0), (by first | rfl | (simp; done) | (simp [*]; done)), H', ⟨Nat.le_refl _⟩, ⟨by (with_reducible repeat (first | refine blk_drewN ?_ _ | refine blk_drew ?_ | refine blk_alloc ?_ _)); exact BK223.out⟩, ⟨by repeat (first | (with_reducible first | exact HB.out | apply below_alloc | apply pw_below_drewN | apply below_drew1 | refine below_set ?_ GE223.out) | exact HB.out)⟩⟩
    case round =>
     clear H'
     (try clear c1); (try clear p2); (try clear c4); (try clear c6); (try clear c6b0); (try clear c6b0z0); (try clear c6b1); (try clear c6b1z0); (try clear c7); (try clear c7b0); (try clear c7b0z0); (try clear c9); (try clear c9b0); (try clear c9b0z0); (try clear c12); (try clear hcz10_0); (try clear hcz10_1); (try clear hcz11_0); (try clear hcz11_1); (try clear hcz13_0); (try clear hcz13_1); (try clear hcz8_0); (try clear hcz8_1); (try clear hfz10_0); (try clear hfz10_1); (try clear hfz11_0); (try clear hfz11_1); (try clear hfz13_0); (try clear hfz13_1); (try clear hfz8_0); (try clear hfz8_1); (try clear p2)
     obtain ⟨x30_2, rfl, HA, HK2, BK223, HB⟩ := hrel
     cases gk with
     | zero => exact absurd HA.out (by simp [lsf_Good.l0])
     | succ k2 =>
      have H := HA.out; clear HA
      simp only [lsf_Good.l0] at H
      by_cases c14 : x30_2 < (l1_1.length : Int)
      ·
       rw [if_pos c14] at H; have c14b0 : decide (x30_2 < (l1_1.length : Int)) = true := decide_eq_true c14; clear c14
       by_cases c15 : 0 ≤ x30_2; rotate_left
       · rw [if_neg c15] at H; exact absurd H (by simp)
       rw [if_pos c15] at H; have c15b0 : decide (0 ≤ x30_2) = true := decide_eq_true c15; clear c15
       by_cases c16 : x30_2 < (l1_1.length : Int); rotate_left
       · rw [if_neg c16] at H; exact absurd H (by simp)
       rw [if_pos c16] at H; have c16b0 : decide (x30_2 < (l1_1.length : Int)) = true := decide_eq_true c16; clear c16
       by_cases c17 : (rd l1_1 x30_2) < (-4)
       ·
        rw [if_pos c17] at H; have c17b0 : decide ((rd l1_1 x30_2) < (-4)) = true := decide_eq_true c17; clear c17
        obtain rfl := Option.some.inj H
        have p225 : 0 ≤ (x30_2 : Int) := of_decide_eq_true (by first | (with_reducible assumption) | assumption); have q225 : x30_2 < (l1_1.length : Int) := of_decide_eq_true (by first | (with_reducible assumption) | assumption)
        obtain ⟨ad225, e225, hx225_0⟩ := Kd.at_int HR1_1.out x30_2 p225 q225
        cases e225
        replace hx225_0 := (HB.out.cell (World.block_lt_of_cell? w _ hx225_0)).trans hx225_0
        replace p225 := eq_true p225; replace q225 := eq_true q225
        go_wp2
        go_ret
        exact ⟨by first | rfl | (simp [errW_none, errW_some] <;> rfl) | (simp [*, errW_none, errW_some] <;> rfl), by repeat (first | (with_reducible first | exact HB.out | apply below_alloc | apply pw_below_drewN | apply below_drew1 | refine below_set ?_ GE223.out) | exact HB.out)⟩
       ·
        rw [if_neg c17] at H; have c17b0 : decide ((rd l1_1 x30_2) < (-4)) = false := decide_eq_false c17; clear c17
        by_cases c18 : (rd l1_1 x30_2) > 4
        ·
         rw [if_pos c18] at H; have c18b0 : decide (4 < (rd l1_1 x30_2)) = true := decide_eq_true c18; clear c18
         obtain rfl := Option.some.inj H
         have p225 : 0 ≤ (x30_2 : Int) := of_decide_eq_true (by first | (with_reducible assumption) | assumption); have q225 : x30_2 < (l1_1.length : Int) := of_decide_eq_true (by first | (with_reducible assumption) | assumption)
         obtain ⟨ad225, e225, hx225_0⟩ := Kd.at_int HR1_1.out x30_2 p225 q225
         cases e225
         replace hx225_0 := (HB.out.cell (World.block_lt_of_cell? w _ hx225_0)).trans hx225_0
         replace p225 := eq_true p225; replace q225 := eq_true q225
         go_wp2
         go_ret
         exact ⟨by first | rfl | (simp [errW_none, errW_some] <;> rfl) | (simp [*, errW_none, errW_some] <;> rfl), by repeat (first | (with_reducible first | exact HB.out | apply below_alloc | apply pw_below_drewN | apply below_drew1 | refine below_set ?_ GE223.out) | exact HB.out)⟩
        ·
         rw [if_neg c18] at H; have c18b0 : decide (4 < (rd l1_1 x30_2)) = false := decide_eq_false c18; clear c18; have H' := Aside0.mk H; clear H; have p225 : 0 ≤ (x30_2 : Int) := of_decide_eq_true (by first | (with_reducible assumption) | assumption); have q225 : x30_2 < (l1_1.length : Int) := of_decide_eq_true (by first | (with_reducible assumption) | assumption)
         obtain ⟨ad225, e225, hx225_0⟩ := Kd.at_int HR1_1.out x30_2 p225 q225
         cases e225
         replace hx225_0 := (HB.out.cell (World.block_lt_of_cell? w _ hx225_0)).trans hx225_0
         replace p225 := eq_true p225; replace q225 := eq_true q225
         go_wp2
         go_roundg k2
         case measure => have := HJ2.out; have := HK2.out; omega
         case rel => exact ⟨(wrap64 (x30_2 + 1)), (by first | rfl | (simp; done) | (simp [*]; done)), H', ⟨by have := HJ2.out; have := HK2.out; omega⟩, ⟨by (with_reducible repeat (first | refine blk_drewN ?_ _ | refine blk_drew ?_ | refine blk_alloc ?_ _)); exact BK223.out⟩, ⟨by repeat (first | (with_reducible first | exact HB.out | apply below_alloc | apply pw_below_drewN | apply below_drew1 | refine below_set ?_ GE223.out) | exact HB.out)⟩⟩
      ·
       rw [if_neg c14] at H; have c14b0 : decide (x30_2 < (l1_1.length : Int)) = false := decide_eq_false c14; clear c14
       obtain rfl := Option.some.inj H
       go_wp2
       go_ret
       exact ⟨by first | rfl | (simp [errW_none, errW_some] <;> rfl) | (simp [*, errW_none, errW_some] <;> rfl), by repeat (first | (with_reducible first | exact HB.out | apply below_alloc | apply pw_below_drewN | apply below_drew1 | refine below_set ?_ GE223.out) | exact HB.out)⟩

end Go.Proofs.Ytgbdkefglmjdoaa.MA
