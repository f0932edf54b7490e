/- Functions of the program as plain Lean functions, and that the code comes to their answers. No condition. -/
import Derived.Test.YtnliianjljgcbaaMAx0
import Derived.Test.YtnliianjljgcbaaMAx1
namespace Go.Proofs.Ytnliianjljgcbaa.MA
open Go.RowKit Go.Proofs.YtnliianjljgcbaaW.PrintWords Go.Proofs.YtnliianjljgcbaaW.PrintLast Go.Proofs.YtnliianjljgcbaaW.PrintMore
attribute [local go_sem] max2_int min2_int max_two min_two max_three min_three max_four min_four
set_option linter.unusedVariables false
set_option linter.unusedSimpArgs false

/-! ### mdct_Shape: function 10 -/
mutual
def mdct_Shape.l0 : Nat → Int → Int → List Int → Int → List Int → Int → Int → Option (List Int × Int)
 | 0, _, _, _, _, _, _, _ => none
 | k + 1, x0, x1, x6, x8, x25, x26, x27 => if x27 < x26 then (if 0 ≤ x27 then (if x27 < (x25.length : Int) then (if 0 ≤ (wrap64 (x8 + x27)) then (if (wrap64 (x8 + x27)) < (x6.length : Int) then (if 0 ≤ (wrap64 ((wrap64 ((wrap64 ((wrap64 (2 * x0)) - 1)) - x8)) - x27)) then (if (wrap64 ((wrap64 ((wrap64 ((wrap64 (2 * x0)) - 1)) - x8)) - x27)) < (x6.length : Int) then (mdct_Shape.l0 k x0 x1 ((x6.set ((wrap64 (x8 + x27)) : Int).toNat (rd x25 x27)).set ((wrap64 ((wrap64 ((wrap64 ((wrap64 (2 * x0)) - 1)) - x8)) - x27)) : Int).toNat (rd x25 x27)) x8 x25 x26 (wrap64 (x27 + 1))) else (none)) else (none)) else (none)) else (none)) else (none)) else (none)) else (mdct_Shape.l1 k x0 x1 x6 x8 (wrap64 (x8 + x1)))
def mdct_Shape.l1 : Nat → Int → Int → List Int → Int → Int → Option (List Int × Int)
 | 0, _, _, _, _, _ => none
 | k + 1, x0, x1, x6, x8, x11 => if x11 < (wrap64 ((wrap64 ((wrap64 (2 * x0)) - x8)) - x1)) then (if 0 ≤ x11 then (if x11 < (x6.length : Int) then (mdct_Shape.l1 k x0 x1 (x6.set (x11 : Int).toNat 32768) x8 (wrap64 (x11 + 1))) else (none)) else (none)) else (some (x6, 0))
end
def mdct_Shape.f (k : Nat) (a0 : Int) (a1 : Int) : Option (List Int × Int) := (mdct_Good.f a0 a1).bind fun t146 => (if t146 = true then (if 0 ≤ (wrap64 (2 * a0)) then (if (wrap64 (2 * a0) : Int).toNat ≤ 35184372088832 then ((tabs_Window.f k a1).bind fun t150 => (mdct_Shape.l0 k a0 a1 (List.replicate (wrap64 (2 * a0) : Int).toNat 0) (wrap64 (Int.tdiv (wrap64 (a0 - a1)) 2)) t150 (t150.length : Int) 0)) else (none)) else (none)) else (some (([] : List Int), 1)))
set_option maxHeartbeats 8000000 in
set_option maxRecDepth 100000 in
theorem mdct_Shape.calls (k : Nat) (a0 : Int) (a1 : Int) (r1 : List Int) (r2 : Int) (w : World) (h : mdct_Shape.f k a0 a1 = some (r1, r2)) :
  Calls Try.prog 10 #[.int .i64 a0, .int .i64 a1] w fun e w' => ∃ v0_ : Value, e = .returned (.tuple #[v0_, .int .i64 r2]) ∧ Kd.R (Kd.int .i64) 2 w' w.heap.size (fun _ => True) v0_ r1 ∧ Below w.heap.size w w' := by
 have HB := Aside0.mk (Below.refl w.heap.size w)
 have H : ((mdct_Good.f a0 a1).bind fun t146 => (if t146 = true then (if 0 ≤ (wrap64 (2 * a0)) then (if (wrap64 (2 * a0) : Int).toNat ≤ 35184372088832 then ((tabs_Window.f k a1).bind fun t150 => (mdct_Shape.l0 k a0 a1 (List.replicate (wrap64 (2 * a0) : Int).toNat 0) (wrap64 (Int.tdiv (wrap64 (a0 - a1)) 2)) t150 (t150.length : Int) 0)) else (none)) else (none)) else (some (([] : List Int), 1)))) = some (r1, r2) := h
 clear h; replace H := Option.bind_eq_some_iff.mp H; obtain ⟨t146, A30, H⟩ := H
 replace H : (if t146 = true then (if 0 ≤ (wrap64 (2 * a0)) then (if (wrap64 (2 * a0) : Int).toNat ≤ 35184372088832 then ((tabs_Window.f k a1).bind fun t150 => (mdct_Shape.l0 k a0 a1 (List.replicate (wrap64 (2 * a0) : Int).toNat 0) (wrap64 (Int.tdiv (wrap64 (a0 - a1)) 2)) t150 (t150.length : Int) 0)) else (none)) else (none)) else (some (([] : List Int), 1))) = some (r1, r2) := H
 have A3 := Aside0.mk A30; clear A30
 by_cases c4 : t146 = true
 ·
  subst c4
  have H1 : (if 0 ≤ (wrap64 (2 * a0)) then (if (wrap64 (2 * a0) : Int).toNat ≤ 35184372088832 then ((tabs_Window.f k a1).bind fun t150 => (mdct_Shape.l0 k a0 a1 (List.replicate (wrap64 (2 * a0) : Int).toNat 0) (wrap64 (Int.tdiv (wrap64 (a0 - a1)) 2)) t150 (t150.length : Int) 0)) else (none)) else (none)) = some (r1, r2) := by rw [if_pos rfl] at H; exact H
  clear H; have H := H1; clear H1
  obtain ⟨ji5, hji5⟩ : ∃ j_ : Int, (wrap64 (2 * a0)) = j_ := ⟨_, rfl⟩
  replace H : (if 0 ≤ (ji5) then (if (ji5 : Int).toNat ≤ 35184372088832 then ((tabs_Window.f k a1).bind fun t150 => (mdct_Shape.l0 k a0 a1 (List.replicate (ji5 : Int).toNat 0) (wrap64 (Int.tdiv (wrap64 (a0 - a1)) 2)) t150 (t150.length : Int) 0)) else (none)) else (none)) = some (r1, r2) := by first | (rw [hji5] at H; exact H) | (simp only [hji5] at H ⊢; exact H)
  (try rw [hji5] at A3)
  have hji5w : (IntKind.i64.wrap (2 * a0)) = ji5 := (i64_w _).trans hji5
  by_cases c6 : 0 ≤ (ji5); rotate_left
  · rw [if_neg c6] at H; exact absurd H (by simp)
  rw [if_pos c6] at H; have c6b0 := eq_true c6; have c6b1 : decide (0 ≤ (ji5)) = true := decide_eq_true c6; clear c6
  by_cases c7 : (ji5 : Int).toNat ≤ 35184372088832; rotate_left
  · rw [if_neg c7] at H; exact absurd H (by simp)
  rw [if_pos c7] at H; have c7b0 := eq_true c7; have c7b1 : decide ((ji5 : Int).toNat ≤ 35184372088832) = true := decide_eq_true c7; clear c7
  obtain ⟨y147, hy147⟩ : ∃ y_ : List Int, y_ = (List.replicate (ji5 : Int).toNat 0) := ⟨_, rfl⟩
  replace H : ((tabs_Window.f k a1).bind fun t150 => (mdct_Shape.l0 k a0 a1 y147 (wrap64 (Int.tdiv (wrap64 (a0 - a1)) 2)) t150 (t150.length : Int) 0)) = some (r1, r2) := by first | (rw [hy147]; with_reducible exact H) | (have H2_ := (Option.bind_some _ _).symm.trans H; rw [hy147]; with_reducible exact H2_) | (have H2_ := (Option.bind_some _ _).symm.trans H; with_reducible exact H2_) | with_reducible exact H | (rw [hy147]; exact H) | exact H
  have Ny147 := Aside0.mk hy147; clear hy147; replace H := Option.bind_eq_some_iff.mp H; obtain ⟨t150, A80, H⟩ := H
  replace H : (mdct_Shape.l0 k a0 a1 y147 (wrap64 (Int.tdiv (wrap64 (a0 - a1)) 2)) t150 (t150.length : Int) 0) = some (r1, r2) := H
  have A8 := Aside0.mk A80; clear A80; have H' := Aside0.mk H; clear H
  go_enter Try.func10, Try.ntmps10
  go_wp2_with (first | ((with_reducible refine gate_callee (f := 16) rfl ?_); refine goesL_ (some 14) rfl rfl Try.func16 (by kernel_rfl) rfl #[.int .i64 a0, .int .i64 a1] rfl (by (try simp only [List.map_toArray, List.map_cons, List.map_nil]); first | done | rfl | (simp only [List.length_drop, List.length_take]; rfl)) ?_; (with_reducible refine (mdct_Good.calls a0 a1 true _ A3.out).mono ?_); rintro e w' ⟨rfl, ⟨nd, rfl⟩⟩; refine ⟨_, rfl, ?_⟩) | ((with_reducible refine gate_dst (N := 18) rfl ?_); refine Kd.R_make (Kd.int .i64) _ 2 rfl (N := 18) rfl 23 _ _ rfl ji5 rfl rfl Try.underlying23 (.int .i64 0) 8 info2 rfl (by decide) (by omega) 0 (ok := fun _ => True) (okp := fun _ => True) rfl (fun _ hk => hk) trivial (of_decide_eq_true (by first | (with_reducible assumption) | assumption)) (Nat.le_trans (Nat.mul_le_mul_right _ (of_decide_eq_true (by first | (with_reducible assumption) | assumption) : ji5.toNat ≤ 35184372088832)) (by omega)) (Below.refl _ _) (Nat.le_refl _) ?_; intro v148 w9 ho10 hb hg_ hnew_; clear hg_ hnew_; (first | rw [← Ny147.out] at ho10 | (simp only [Int.reduceToNat] at ho10; rw [← Ny147.out] at ho10)); have n0_ := Aside0.mk (Kd.R_lower ho10 (below_size (by repeat (with_reducible first | exact HB.out | apply below_alloc | apply pw_below_drewN | apply below_drew1)))); have n1_ := Aside0.mk (below_step (by repeat (with_reducible first | exact HB.out | apply below_alloc | apply pw_below_drewN | apply below_drew1)) hb); clear HB; have HO149 := n0_; have HB := n1_; clear n0_ n1_; clear hb ho10) | ((with_reducible refine gate_callee (f := 26) rfl ?_); refine goesL_ (some 20) rfl rfl Try.func26 (by kernel_rfl) rfl #[.int .i64 a1] rfl (by (try simp only [List.map_toArray, List.map_cons, List.map_nil]); first | done | rfl | (simp only [List.length_drop, List.length_take]; rfl)) ?_; (with_reducible refine (tabs_Window.calls k a1 t150 _ A8.out).mono ?_); rintro e w11 ⟨v151, rfl, ho0, hb⟩; refine ⟨_, rfl, ?_⟩; have n0_ := Aside0.mk (Kd.R_elder' (by (with_reducible repeat first | apply Kd.R_alloc | apply Kd.R_drewN | apply Kd.R_drew); exact HO149.out) (Kd.R_base ho0) hb); have n1_ := Aside0.mk (Kd.R_lower (Kd.R_new' ho0 (Kd.R_lt (by (with_reducible repeat first | apply Kd.R_alloc | apply Kd.R_drewN | apply Kd.R_drew); exact HO149.out))) (below_size (by repeat (with_reducible first | exact HB.out | apply below_alloc | apply pw_below_drewN | apply below_drew1)))); have n2_ := Aside0.mk (below_step (by repeat (with_reducible first | exact HB.out | apply below_alloc | apply pw_below_drewN | apply below_drew1)) hb); clear HO149; clear HB; have HO149 := n0_; have HO152 := n1_; have HB := n2_; clear n0_ n1_ n2_; (try clear hb); (try clear hb2); (try clear hk); (try clear hi); (try clear ho0); obtain ⟨Ao12, co12, eo12⟩ := Kd.R_slice HO152.out; subst eo12))
  go_loopg [27] k (fun kq v27 w' => ∃ (x6_1 : List Int) (x27_1 : Int), v27 = .int .i64 x27_1 ∧ Aside0 (mdct_Shape.l0 kq a0 a1 x6_1 (wrap64 (Int.tdiv (wrap64 (a0 - a1)) 2)) t150 (t150.length : Int) x27_1 = some (r1, r2)) ∧ Aside0 (kq ≤ k) ∧ Aside0 (Kd.R (Kd.int .i64) 2 w' w.heap.size (fun k_ => some k_ ≠ ((.slice Ao12 t150.length co12) : Value).ownBlock) v148 x6_1) ∧ Aside0 (Kd.R (Kd.int .i64) 2 w' w.heap.size (fun k_ => some k_ ≠ (v148 : Value).ownBlock) (.slice Ao12 t150.length co12) t150) ∧ Aside0 (Below w.heap.size w w'))
  case atStart => exact ⟨(y147), (0), (by first | rfl | (simp; done) | (simp [*]; done)), H', ⟨Nat.le_refl _⟩, ⟨by (with_reducible repeat first | apply Kd.R_alloc | apply Kd.R_drewN | apply Kd.R_drew); exact Kd.R_mono HO149.out (fun _ hk => hk.2)⟩, ⟨by (with_reducible repeat first | apply Kd.R_alloc | apply Kd.R_drewN | apply Kd.R_drew); exact Kd.R_mono HO152.out (fun _ hk => hk.2)⟩, ⟨by repeat (with_reducible first | exact HB.out | apply below_alloc | apply pw_below_drewN | apply below_drew1)⟩⟩
  case round =>
   clear H'
   (try clear c1); (try clear c2); (try clear p2); (try clear c4); (try clear c6); (try clear c6b0); (try clear c6b0z0); (try clear c6b1); (try clear c6b1z0); (try clear p6); (try clear c7); (try clear c7b0); (try clear c7b0z0); (try clear c7b1); (try clear c7b1z0); (try clear c10)
   obtain ⟨x6_1, x27_1, rfl, HA, HK1, HO_6, HO_25, HB⟩ := hrel
   cases gk with
   | zero => exact absurd HA.out (by simp [mdct_Shape.l0])
   | succ k1 =>
    have H := HA.out; clear HA
    simp only [mdct_Shape.l0] at H
    by_cases c13 : x27_1 < (t150.length : Int)
    ·
     rw [if_pos c13] at H; have c13b0 : decide (x27_1 < (t150.length : Int)) = true := decide_eq_true c13; clear c13
     by_cases c14 : 0 ≤ x27_1; rotate_left
     · rw [if_neg c14] at H; exact absurd H (by simp)
     rw [if_pos c14] at H; have c14b0 : decide (0 ≤ x27_1) = true := decide_eq_true c14; clear c14
     by_cases c15 : x27_1 < (t150.length : Int); rotate_left
     · rw [if_neg c15] at H; exact absurd H (by simp)
     rw [if_pos c15] at H; have c15b0 : decide (x27_1 < (t150.length : Int)) = true := decide_eq_true c15; clear c15
     obtain ⟨ji16, hji16⟩ : ∃ j_ : Int, (wrap64 ((wrap64 (Int.tdiv (wrap64 (a0 - a1)) 2)) + x27_1)) = j_ := ⟨_, rfl⟩
     replace H : (if 0 ≤ (ji16) then (if (ji16) < (x6_1.length : Int) then (if 0 ≤ (wrap64 ((wrap64 ((wrap64 ((wrap64 (2 * a0)) - 1)) - (wrap64 (Int.tdiv (wrap64 (a0 - a1)) 2)))) - x27_1)) then (if (wrap64 ((wrap64 ((wrap64 ((wrap64 (2 * a0)) - 1)) - (wrap64 (Int.tdiv (wrap64 (a0 - a1)) 2)))) - x27_1)) < (x6_1.length : Int) then (mdct_Shape.l0 k1 a0 a1 ((x6_1.set ((ji16) : Int).toNat (rd t150 x27_1)).set ((wrap64 ((wrap64 ((wrap64 ((wrap64 (2 * a0)) - 1)) - (wrap64 (Int.tdiv (wrap64 (a0 - a1)) 2)))) - x27_1)) : Int).toNat (rd t150 x27_1)) (wrap64 (Int.tdiv (wrap64 (a0 - a1)) 2)) t150 (t150.length : Int) (wrap64 (x27_1 + 1))) else (none)) else (none)) else (none)) else (none)) = some (r1, r2) := by first | (rw [hji16] at H; exact H) | (simp only [hji16] at H ⊢; exact H)
     have hji16w : (IntKind.i64.wrap ((wrap64 (Int.tdiv (wrap64 (a0 - a1)) 2)) + x27_1)) = ji16 := (i64_w _).trans hji16
     by_cases c17 : 0 ≤ (ji16); rotate_left
     · rw [if_neg c17] at H; exact absurd H (by simp)
     rw [if_pos c17] at H; have c17b0 : decide (0 ≤ (ji16)) = true := decide_eq_true c17; clear c17
     by_cases c18 : (ji16) < (x6_1.length : Int); rotate_left
     · rw [if_neg c18] at H; exact absurd H (by simp)
     rw [if_pos c18] at H; have c18b0 : decide ((ji16) < (x6_1.length : Int)) = true := decide_eq_true c18; clear c18
     obtain ⟨y154, hy154⟩ : ∃ y_ : List Int, y_ = (x6_1.set ((ji16) : Int).toNat (rd t150 x27_1)) := ⟨_, rfl⟩
     replace H : (if 0 ≤ (wrap64 ((wrap64 ((wrap64 ((wrap64 (2 * a0)) - 1)) - (wrap64 (Int.tdiv (wrap64 (a0 - a1)) 2)))) - x27_1)) then (if (wrap64 ((wrap64 ((wrap64 ((wrap64 (2 * a0)) - 1)) - (wrap64 (Int.tdiv (wrap64 (a0 - a1)) 2)))) - x27_1)) < (x6_1.length : Int) then (mdct_Shape.l0 k1 a0 a1 (y154.set ((wrap64 ((wrap64 ((wrap64 ((wrap64 (2 * a0)) - 1)) - (wrap64 (Int.tdiv (wrap64 (a0 - a1)) 2)))) - x27_1)) : Int).toNat (rd t150 x27_1)) (wrap64 (Int.tdiv (wrap64 (a0 - a1)) 2)) t150 (t150.length : Int) (wrap64 (x27_1 + 1))) else (none)) else (none)) = some (r1, r2) := by first | (rw [hy154]; with_reducible exact H) | (have H2_ := (Option.bind_some _ _).symm.trans H; rw [hy154]; with_reducible exact H2_) | (have H2_ := (Option.bind_some _ _).symm.trans H; with_reducible exact H2_) | with_reducible exact H | (rw [hy154]; exact H) | exact H
     have Ny154 := Aside0.mk hy154; clear hy154
     obtain ⟨ji20, hji20⟩ : ∃ j_ : Int, (wrap64 ((wrap64 ((wrap64 ((wrap64 (2 * a0)) - 1)) - (wrap64 (Int.tdiv (wrap64 (a0 - a1)) 2)))) - x27_1)) = j_ := ⟨_, rfl⟩
     replace H : (if 0 ≤ (ji20) then (if (ji20) < (x6_1.length : Int) then (mdct_Shape.l0 k1 a0 a1 (y154.set ((ji20) : Int).toNat (rd t150 x27_1)) (wrap64 (Int.tdiv (wrap64 (a0 - a1)) 2)) t150 (t150.length : Int) (wrap64 (x27_1 + 1))) else (none)) else (none)) = some (r1, r2) := by first | (rw [hji20] at H; exact H) | (simp only [hji20] at H ⊢; exact H)
     have hji20w : (IntKind.i64.wrap ((wrap64 ((wrap64 ((wrap64 (2 * a0)) - 1)) - (wrap64 (Int.tdiv (wrap64 (a0 - a1)) 2)))) - x27_1)) = ji20 := (i64_w _).trans hji20
     (try (have hji20wz := hji20w; simp only [hji5] at hji20wz))
     by_cases c21 : 0 ≤ (ji20); rotate_left
     · rw [if_neg c21] at H; exact absurd H (by simp)
     rw [if_pos c21] at H; have c21b0 : decide (0 ≤ (ji20)) = true := decide_eq_true c21; clear c21
     by_cases c22 : (ji20) < (x6_1.length : Int); rotate_left
     · rw [if_neg c22] at H; exact absurd H (by simp)
     rw [if_pos c22] at H; have c22b0 : decide ((ji20) < (x6_1.length : Int)) = true := decide_eq_true c22; clear c22
     obtain ⟨y155, hy155⟩ : ∃ y_ : List Int, y_ = (y154.set ((ji20) : Int).toNat (rd t150 x27_1)) := ⟨_, rfl⟩
     replace H : (mdct_Shape.l0 k1 a0 a1 y155 (wrap64 (Int.tdiv (wrap64 (a0 - a1)) 2)) t150 (t150.length : Int) (wrap64 (x27_1 + 1))) = some (r1, r2) := by first | (rw [hy155]; with_reducible exact H) | (have H2_ := (Option.bind_some _ _).symm.trans H; rw [hy155]; with_reducible exact H2_) | (have H2_ := (Option.bind_some _ _).symm.trans H; with_reducible exact H2_) | with_reducible exact H | (rw [hy155]; exact H) | exact H
     have Ny155 := Aside0.mk hy155; clear hy155; have H' := Aside0.mk H; clear H; have p153 : 0 ≤ (x27_1 : Int) := of_decide_eq_true (by first | (with_reducible assumption) | assumption); have q153 : x27_1 < (t150.length : Int) := of_decide_eq_true (by first | (with_reducible assumption) | assumption)
     obtain ⟨ad153, e153, hx153_0⟩ := Kd.at_int (Kd.R_reads' HO_25.out).2.2 x27_1 p153 q153
     cases e153; replace p153 := eq_true p153; replace q153 := eq_true q153; have p19 : 0 ≤ ((ji16) : Int) := of_decide_eq_true (by first | (with_reducible assumption) | assumption); have q19 : ((ji16) : Int) < ((x6_1.length : Int) : Int) := of_decide_eq_true (by first | (with_reducible assumption) | assumption)
     obtain ⟨go19, co19, eo19, gb19, gl19, cl19, HG19⟩ := Kd.R_form HO_6.out (by omega)
     (first | cases eo19 | (injection eo19 with ea_ en_ ec_; (first | subst ea_ | (injection ea_ with ea_; subst ea_)); subst ec_; clear en_))
     have GB19 := Aside0.mk gb19; have GG19 := Aside0.mk HG19; clear gb19 gl19 HG19
     obtain ⟨hx19_0, hf19_0⟩ := Kd.R_celln 0 HO_6.out ((ji16) : Int) p19 q19
     replace p19 := eq_true p19; replace q19 := eq_true q19
     have HP24 := Kd.R_putg HO_6.out ((ji16) : Int) (rd t150 x27_1)
     go_wp2_with (first | ((with_reducible refine gate_store (t := 2) (p := 37) rfl ?_); refine store_event (t := 2) (p := 37) (v := ?vo_w25) (w1 := (wr.setCell ⟨go19, ((ji16) : Int).toNat, none⟩ (.int .i64 (rd t150 x27_1)))) ?hg ?ho ?hn ?hr ?_; (case ho => rfl); (case hg => rfl); (case hn => rfl); (case hr => first | (go_simp; done) | (go_simp; rfl)); intro w25 hw; have hg : wr.grownBy w25 (some go19) := (by rw [hw]; exact HP24.2); have hp_ : Kd.R (Kd.int .i64) 2 w25 w.heap.size (fun k_ => some k_ ≠ (.slice (some ad153) t150.length co12 : Value).ownBlock) (.slice (some ⟨go19, 0, none⟩) x6_1.length co19) y154 := (by rw [hw, Ny154.out]; exact HP24.1); clear HP24; have n0_ := Aside0.mk (hp_); have n1_ := Aside0.mk (Kd.R_after (v := (.slice (some ⟨go19, 0, none⟩) x6_1.length co19)) (v1 := (.slice (some ⟨go19, 0, none⟩) x6_1.length co19)) (ok := (fun _ => True)) (by (with_reducible repeat first | apply Kd.R_alloc | apply Kd.R_drewN | apply Kd.R_drew); exact Kd.R_mono HO_25.out (fun _ hk => ⟨trivial, hk⟩)) hg (.inl rfl)); have n2_ := Aside0.mk ((by rw [hw]; exact below_set (HB.out) GB19.out : Below w.heap.size w w25)); clear HO_6; clear HO_25; clear HB; have HO_6 := n0_; have HO_25 := n1_; have HB := n2_; clear n0_ n1_ n2_; clear hg hw hp_; have p23 : 0 ≤ ((ji20) : Int) := of_decide_eq_true (by first | (with_reducible assumption) | assumption); have q23 : ((ji20) : Int) < ((x6_1.length : Int) : Int) := of_decide_eq_true (by first | (with_reducible assumption) | assumption); obtain ⟨hx23_0, hf23_0⟩ := Kd.R_celln 0 HO_6.out ((ji20) : Int) p23 q23; replace p23 := eq_true p23; replace q23 := eq_true q23; obtain ⟨hy26_, hz26_⟩ := Kd.R_celln 0 HO_6.out ((ji20) : Int) (of_decide_eq_true (by first | (with_reducible assumption) | assumption)) (of_decide_eq_true (by first | (with_reducible assumption) | assumption)); have HP26 := Kd.R_putg HO_6.out ((ji20) : Int) (rd t150 x27_1)) | ((with_reducible refine gate_store (t := 2) (p := 47) rfl ?_); refine store_event (t := 2) (p := 47) (v := ?vo_w27) (w1 := (w25.setCell ⟨go19, ((ji20) : Int).toNat, none⟩ (.int .i64 (rd t150 x27_1)))) ?hg ?ho ?hn ?hr ?_; (case ho => rfl); (case hg => rfl); (case hn => rfl); (case hr => first | (go_simp; done) | (go_simp; rfl)); intro w27 hw; have hg : w25.grownBy w27 (some go19) := (by rw [hw]; exact HP26.2); have hp_ : Kd.R (Kd.int .i64) 2 w27 w.heap.size (fun k_ => some k_ ≠ (.slice (some ad153) t150.length co12 : Value).ownBlock) (.slice (some ⟨go19, 0, none⟩) x6_1.length co19) y155 := (by rw [hw, Ny155.out]; exact HP26.1); clear HP26; have n0_ := Aside0.mk (hp_); have n1_ := Aside0.mk (Kd.R_after (v := (.slice (some ⟨go19, 0, none⟩) x6_1.length co19)) (v1 := (.slice (some ⟨go19, 0, none⟩) x6_1.length co19)) (ok := (fun _ => True)) (by (with_reducible repeat first | apply Kd.R_alloc | apply Kd.R_drewN | apply Kd.R_drew); exact HO_25.out) hg (.inl rfl)); have n2_ := Aside0.mk ((by rw [hw]; exact below_set (HB.out) GB19.out : Below w.heap.size w w27)); clear HO_6; clear HO_25; clear HB; have HO_6 := n0_; have HO_25 := n1_; have HB := n2_; clear n0_ n1_ n2_; clear hg hw hp_))
     go_roundg k1
     case measure => have := HK1.out; omega
     case rel => exact ⟨(y155), (wrap64 (x27_1 + 1)), (by first | rfl | (simp; done) | (simp [*]; done)), H', ⟨by have := HK1.out; omega⟩, ⟨by (with_reducible repeat first | apply Kd.R_alloc | apply Kd.R_drewN | apply Kd.R_drew); exact HO_6.out⟩, ⟨by (with_reducible repeat first | apply Kd.R_alloc | apply Kd.R_drewN | apply Kd.R_drew); exact Kd.R_mono HO_25.out (fun _ hk => hk.2)⟩, ⟨by repeat (with_reducible first | exact HB.out | apply below_alloc | apply pw_below_drewN | apply below_drew1)⟩⟩
    ·
     rw [if_neg c13] at H; have c13b0 : decide (x27_1 < (t150.length : Int)) = false := decide_eq_false c13; clear c13; have H' := Aside0.mk H; clear H
     go_wp2
     go_loopg [11] k1 (fun kq v11 w' => ∃ (x6_2 : List Int) (x11_2 : Int), v11 = .int .i64 x11_2 ∧ Aside0 (mdct_Shape.l1 kq a0 a1 x6_2 (wrap64 (Int.tdiv (wrap64 (a0 - a1)) 2)) x11_2 = some (r1, r2)) ∧ Aside0 (kq ≤ k1) ∧ Aside0 (Kd.R (Kd.int .i64) 2 w' w.heap.size (fun _ => True) v148 x6_2) ∧ Aside0 (Below w.heap.size w w'))
     case atStart => exact ⟨(x6_1), (wrap64 ((wrap64 (Int.tdiv (wrap64 (a0 - a1)) 2)) + a1)), (by first | rfl | (simp; done) | (simp [*]; done)), H', ⟨Nat.le_refl _⟩, ⟨by (with_reducible repeat first | apply Kd.R_alloc | apply Kd.R_drewN | apply Kd.R_drew); exact Kd.R_mono HO_6.out (fun _ hk => trivial)⟩, ⟨by repeat (with_reducible first | exact HB.out | apply below_alloc | apply pw_below_drewN | apply below_drew1)⟩⟩
     case round =>
      clear H'
      (try clear c1); (try clear p1); (try clear q1); (try clear hx1); (try clear c2); (try clear p2); (try clear q2); (try clear hx2); (try clear hf2); (try clear c4); (try clear c6); (try clear c6b0); (try clear c6b0z0); (try clear c6b1); (try clear c6b1z0); (try clear p6); (try clear c7); (try clear c7b0); (try clear c7b0z0); (try clear c7b1); (try clear c7b1z0); (try clear c10); (try clear c13); (try clear c13b0); (try clear c13b0z0); (try clear c14); (try clear c14b0); (try clear c14b0z0); (try clear c15); (try clear c15b0); (try clear c15b0z0); (try clear p15); (try clear q15); (try clear hx15); (try clear c16); (try clear c17); (try clear c17b0); (try clear c17b0z0); (try clear c18); (try clear c18b0); (try clear c18b0z0); (try clear p19); (try clear q19); (try clear hx19); (try clear hf19); (try clear c21); (try clear c21b0); (try clear c21b0z0); (try clear c22); (try clear c22b0); (try clear c22b0z0); (try clear p23); (try clear q23); (try clear hx23); (try clear hf23); (try clear c26); (try clear hx153_0); (try clear hx19_0); (try clear hx23_0); (try clear p153); (try clear p19); (try clear p2); (try clear p23); (try clear p6); (try clear q153); (try clear q19); (try clear q23)
      obtain ⟨x6_2, x11_2, rfl, HA, HK2, HO_6, HB⟩ := hrel
      cases gk with
      | zero => exact absurd HA.out (by simp [mdct_Shape.l1])
      | succ k2 =>
       have H := HA.out; clear HA
       simp only [mdct_Shape.l1] at H
       by_cases c28 : x11_2 < (wrap64 ((wrap64 ((wrap64 (2 * a0)) - (wrap64 (Int.tdiv (wrap64 (a0 - a1)) 2)))) - a1))
       ·
        rw [if_pos c28] at H; have c28b0 : decide (x11_2 < (wrap64 ((wrap64 ((wrap64 (2 * a0)) - (wrap64 (Int.tdiv (wrap64 (a0 - a1)) 2)))) - a1))) = true := decide_eq_true c28
        (try (have c28b0j := c28b0; simp only [hji5] at c28b0j))
        clear c28
        by_cases c29 : 0 ≤ x11_2; rotate_left
        · rw [if_neg c29] at H; exact absurd H (by simp)
        rw [if_pos c29] at H; have c29b0 : decide (0 ≤ x11_2) = true := decide_eq_true c29; clear c29
        by_cases c30 : x11_2 < (x6_2.length : Int); rotate_left
        · rw [if_neg c30] at H; exact absurd H (by simp)
        rw [if_pos c30] at H; have c30b0 : decide (x11_2 < (x6_2.length : Int)) = true := decide_eq_true c30; clear c30
        obtain ⟨y156, hy156⟩ : ∃ y_ : List Int, y_ = (x6_2.set (x11_2 : Int).toNat 32768) := ⟨_, rfl⟩
        replace H : (mdct_Shape.l1 k2 a0 a1 y156 (wrap64 (Int.tdiv (wrap64 (a0 - a1)) 2)) (wrap64 (x11_2 + 1))) = some (r1, r2) := by first | (rw [hy156]; with_reducible exact H) | (have H2_ := (Option.bind_some _ _).symm.trans H; rw [hy156]; with_reducible exact H2_) | (have H2_ := (Option.bind_some _ _).symm.trans H; with_reducible exact H2_) | with_reducible exact H | (rw [hy156]; exact H) | exact H
        have Ny156 := Aside0.mk hy156; clear hy156; have H' := Aside0.mk H; clear H; have p31 : 0 ≤ (x11_2 : Int) := of_decide_eq_true (by first | (with_reducible assumption) | assumption); have q31 : (x11_2 : Int) < ((x6_2.length : Int) : Int) := of_decide_eq_true (by first | (with_reducible assumption) | assumption)
        obtain ⟨go31, co31, eo31, gb31, gl31, cl31, HG31⟩ := Kd.R_form HO_6.out (by omega)
        (first | cases eo31 | (injection eo31 with ea_ en_ ec_; (first | subst ea_ | (injection ea_ with ea_; subst ea_)); subst ec_; clear en_))
        have GB31 := Aside0.mk gb31; have GG31 := Aside0.mk HG31; clear gb31 gl31 HG31
        obtain ⟨hx31_0, hf31_0⟩ := Kd.R_celln 0 HO_6.out (x11_2 : Int) p31 q31
        replace p31 := eq_true p31; replace q31 := eq_true q31
        have HP32 := Kd.R_putg HO_6.out (x11_2 : Int) 32768
        go_wp2_with (first | ((with_reducible refine gate_store (t := 2) (p := 64) rfl ?_); refine store_event (t := 2) (p := 64) (v := ?vo_w33) (w1 := (wr.setCell ⟨go31, (x11_2 : Int).toNat, none⟩ (.int .i64 32768))) ?hg ?ho ?hn ?hr ?_; (case ho => rfl); (case hg => rfl); (case hn => rfl); (case hr => first | (go_simp; done) | (go_simp; rfl)); intro w33 hw; have hg : wr.grownBy w33 (some go31) := (by rw [hw]; exact HP32.2); have hp_ : Kd.R (Kd.int .i64) 2 w33 w.heap.size (fun _ => True) (.slice (some ⟨go31, 0, none⟩) x6_2.length co31) y156 := (by rw [hw, Ny156.out]; exact HP32.1); clear HP32; have n0_ := Aside0.mk (hp_); have n1_ := Aside0.mk ((by rw [hw]; exact below_set (HB.out) GB31.out : Below w.heap.size w w33)); clear HO_6; clear HB; have HO_6 := n0_; have HB := n1_; clear n0_ n1_; clear hg hw hp_))
        go_roundg k2
        case measure => have := HK1.out; have := HK2.out; omega
        case rel => exact ⟨(y156), (wrap64 (x11_2 + 1)), (by first | rfl | (simp; done) | (simp [*]; done)), H', ⟨by have := HK1.out; have := HK2.out; omega⟩, ⟨by (with_reducible repeat first | apply Kd.R_alloc | apply Kd.R_drewN | apply Kd.R_drew); exact HO_6.out⟩, ⟨by repeat (with_reducible first | exact HB.out | apply below_alloc | apply pw_below_drewN | apply below_drew1)⟩⟩
       ·
        rw [if_neg c28] at H; have c28b0 : decide (x11_2 < (wrap64 ((wrap64 ((wrap64 (2 * a0)) - (wrap64 (Int.tdiv (wrap64 (a0 - a1)) 2)))) - a1))) = false := decide_eq_false c28
        (try (have c28b0j := c28b0; simp only [hji5] at c28b0j))
        clear c28
        simp only [Option.some.injEq, Prod.mk.injEq] at H
        obtain ⟨rfl, rfl⟩ := H
        go_wp2
        go_ret2
        exact ⟨_, by first | rfl | (simp [errW_none, errW_some] <;> rfl) | (simp only [← hji5]; first | rfl | (simp [errW_none, errW_some] <;> rfl)) | (simp [*, errW_none, errW_some] <;> rfl), by (with_reducible repeat first | apply Kd.R_alloc | apply Kd.R_drewN | apply Kd.R_drew); exact HO_6.out, by repeat (with_reducible first | exact HB.out | apply below_alloc | apply pw_below_drewN | apply below_drew1)⟩
 ·
  replace c4 := Bool.eq_false_iff.mpr c4
  subst c4
  have H1 : (some (([] : List Int), 1)) = some (r1, r2) := by rw [if_neg (show ¬ (false = true) by decide)] at H; exact H
  clear H; have H := H1; clear H1
  simp only [Option.some.injEq, Prod.mk.injEq] at H
  obtain ⟨rfl, rfl⟩ := H
  go_enter Try.func10, Try.ntmps10
  go_wp2_with (first | ((with_reducible refine gate_callee (f := 16) rfl ?_); refine goesL_ (some 14) rfl rfl Try.func16 (by kernel_rfl) rfl #[.int .i64 a0, .int .i64 a1] rfl (by (try simp only [List.map_toArray, List.map_cons, List.map_nil]); first | done | rfl | (simp only [List.length_drop, List.length_take]; rfl)) ?_; (with_reducible refine (mdct_Good.calls a0 a1 false _ A3.out).mono ?_); rintro e w' ⟨rfl, ⟨nd, rfl⟩⟩; refine ⟨_, rfl, ?_⟩))
  go_ret2
  exact ⟨_, by first | rfl | (simp [errW_none, errW_some] <;> rfl) | (simp [*, errW_none, errW_some] <;> rfl), by first | exact Kd.R_nil _ _ _ _ _ | exact Kd.N_nil _ _ _ _ _ | exact Kd.V_nil _ _ _ _ _ | exact Kd.Q_nil _ _ _ _ _ | exact Kd.S_nil _ _ _ _ _, by repeat (with_reducible first | exact HB.out | apply below_alloc | apply pw_below_drewN | apply below_drew1)⟩

/-! ### mdct_waves: function 29 -/
def mdct_waves.l0 : Nat → Int → List Int → Int → Int → Option (List Int)
 | 0, _, _, _, _ => none
 | k + 1, x0, x3, x9, x10 => if x10 < x9 then (if x0 = 0 then (none) else ((fix_Cos.f k (wrap64 (Int.tdiv (wrap64 ((wrap64 (Int.tdiv (wrap64 (Int.tdiv (wrap64 (x10 * 65536)) 4)) x0)) + 1)) 2))).bind fun t160 => (if 0 ≤ x10 then (if x10 < (x3.length : Int) then (mdct_waves.l0 k x0 (x3.set (x10 : Int).toNat t160) x9 (wrap64 (x10 + 1))) else (none)) else (none)))) else (some x3)
def mdct_waves.f (k : Nat) (a0 : Int) : Option (List Int) := if 0 ≤ (wrap64 (8 * a0)) then (if (wrap64 (8 * a0) : Int).toNat ≤ 35184372088832 then ((some (List.replicate (wrap64 (8 * a0) : Int).toNat 0 : List Int)).bind fun y157 => (mdct_waves.l0 k a0 y157 (y157.length : Int) 0)) else (none)) else (none)
set_option maxHeartbeats 8000000 in
set_option maxRecDepth 100000 in
theorem mdct_waves.calls (k : Nat) (a0 : Int) (r : List Int) (w : World) (h : mdct_waves.f k a0 = some r) :
  Calls Try.prog 29 #[.int .i64 a0] w fun e w' => ∃ v0_ : Value, e = .returned (v0_) ∧ Kd.R (Kd.int .i64) 2 w' w.heap.size (fun _ => True) v0_ r ∧ Below w.heap.size w w' := by
 have HB := Aside0.mk (Below.refl w.heap.size w)
 have H : (if 0 ≤ (wrap64 (8 * a0)) then (if (wrap64 (8 * a0) : Int).toNat ≤ 35184372088832 then ((some (List.replicate (wrap64 (8 * a0) : Int).toNat 0 : List Int)).bind fun y157 => (mdct_waves.l0 k a0 y157 (y157.length : Int) 0)) else (none)) else (none)) = some r := h
 clear h
 obtain ⟨ji2, hji2⟩ : ∃ j_ : Int, (wrap64 (8 * a0)) = j_ := ⟨_, rfl⟩
 replace H : (if 0 ≤ (ji2) then (if (ji2 : Int).toNat ≤ 35184372088832 then ((some (List.replicate (ji2 : Int).toNat 0 : List Int)).bind fun y157 => (mdct_waves.l0 k a0 y157 (y157.length : Int) 0)) else (none)) else (none)) = some r := by first | (rw [hji2] at H; exact H) | (simp only [hji2] at H ⊢; exact H)
 have hji2w : (IntKind.i64.wrap (8 * a0)) = ji2 := (i64_w _).trans hji2
 by_cases c3 : 0 ≤ (ji2); rotate_left
 · rw [if_neg c3] at H; exact absurd H (by simp)
 rw [if_pos c3] at H; have c3b0 := eq_true c3; have c3b1 : decide (0 ≤ (ji2)) = true := decide_eq_true c3; clear c3
 by_cases c4 : (ji2 : Int).toNat ≤ 35184372088832; rotate_left
 · rw [if_neg c4] at H; exact absurd H (by simp)
 rw [if_pos c4] at H; have c4b0 := eq_true c4; have c4b1 : decide ((ji2 : Int).toNat ≤ 35184372088832) = true := decide_eq_true c4; clear c4
 obtain ⟨y157, hy157⟩ : ∃ y_ : List Int, y_ = (List.replicate (ji2 : Int).toNat 0) := ⟨_, rfl⟩
 replace H : (mdct_waves.l0 k a0 y157 (y157.length : Int) 0) = some r := by first | (rw [hy157]; with_reducible exact H) | (have H2_ := (Option.bind_some _ _).symm.trans H; rw [hy157]; with_reducible exact H2_) | (have H2_ := (Option.bind_some _ _).symm.trans H; with_reducible exact H2_) | with_reducible exact H | (rw [hy157]; exact H) | exact H
 have Ny157 := Aside0.mk hy157; clear hy157; have H' := Aside0.mk H; clear H
 go_enter Try.func29, Try.ntmps29
 go_wp2_with (first | ((with_reducible refine gate_dst (N := 7) rfl ?_); refine Kd.R_make (Kd.int .i64) _ 2 rfl (N := 7) rfl 23 _ _ rfl ji2 rfl rfl Try.underlying23 (.int .i64 0) 8 info2 rfl (by decide) (by omega) 0 (ok := fun _ => True) (okp := fun _ => True) rfl (fun _ hk => hk) trivial (of_decide_eq_true (by first | (with_reducible assumption) | assumption)) (Nat.le_trans (Nat.mul_le_mul_right _ (of_decide_eq_true (by first | (with_reducible assumption) | assumption) : ji2.toNat ≤ 35184372088832)) (by omega)) (Below.refl _ _) (Nat.le_refl _) ?_; intro v158 w5 ho6 hb hg_ hnew_; clear hg_ hnew_; (first | rw [← Ny157.out] at ho6 | (simp only [Int.reduceToNat] at ho6; rw [← Ny157.out] at ho6)); have n0_ := Aside0.mk (Kd.R_lower ho6 (below_size (by repeat (with_reducible first | exact HB.out | apply below_alloc | apply pw_below_drewN | apply below_drew1)))); have n1_ := Aside0.mk (below_step (by repeat (with_reducible first | exact HB.out | apply below_alloc | apply pw_below_drewN | apply below_drew1)) hb); clear HB; have HO159 := n0_; have HB := n1_; clear n0_ n1_; clear hb ho6; obtain ⟨Ao7, co7, eo7⟩ := Kd.R_slice HO159.out; subst eo7))
 go_loopg [10] k (fun kq v10 w' => ∃ (x3_1 : List Int) (x10_1 : Int), v10 = .int .i64 x10_1 ∧ Aside0 (mdct_waves.l0 kq a0 x3_1 (y157.length : Int) x10_1 = some r) ∧ Aside0 (kq ≤ k) ∧ Aside0 (Kd.R (Kd.int .i64) 2 w' w.heap.size (fun _ => True) (.slice Ao7 y157.length co7) x3_1) ∧ Aside0 (Below w.heap.size w w'))
 case atStart => exact ⟨(y157), (0), (by first | rfl | (simp; done) | (simp [*]; done)), H', ⟨Nat.le_refl _⟩, ⟨by (with_reducible repeat first | apply Kd.R_alloc | apply Kd.R_drewN | apply Kd.R_drew); exact HO159.out⟩, ⟨by repeat (with_reducible first | exact HB.out | apply below_alloc | apply pw_below_drewN | apply below_drew1)⟩⟩
 case round =>
  clear H'
  (try clear c2); (try clear p2); (try clear c3); (try clear c3b0); (try clear c3b0z0); (try clear c3b1); (try clear c3b1z0); (try clear c4); (try clear c4b0); (try clear c4b0z0); (try clear c4b1); (try clear c4b1z0); (try clear p6)
  obtain ⟨x3_1, x10_1, rfl, HA, HK1, HO_3, HB⟩ := hrel
  have hl3_1 := (Kd.R_reads' HO_3.out).1
  rw [hl3_1] at HO_3; (try simp only [hl3_1])
  cases gk with
  | zero => exact absurd HA.out (by simp [mdct_waves.l0])
  | succ k1 =>
   have H := HA.out; clear HA
   simp only [mdct_waves.l0] at H
   by_cases c8 : x10_1 < (y157.length : Int)
   ·
    rw [if_pos c8] at H; have c8b0 : decide (x10_1 < (y157.length : Int)) = true := decide_eq_true c8
    (try (have c8b0z0 := c8b0; rw [hl3_1] at c8b0z0))
    clear c8
    by_cases c9 : a0 = 0
    ·
     rw [if_pos c9] at H; exact absurd H (by simp)
    ·
     rw [if_neg c9] at H; have c9b0 : (a0 == 0) = false := beq_eq_false_iff_ne.mpr c9; have c9b1 : (a0 != 0) = true := bne_iff_ne.mpr c9; replace H := Option.bind_eq_some_iff.mp H; obtain ⟨t160, A100, H⟩ := H
     replace H : (if 0 ≤ x10_1 then (if x10_1 < (x3_1.length : Int) then (mdct_waves.l0 k1 a0 (x3_1.set (x10_1 : Int).toNat t160) (y157.length : Int) (wrap64 (x10_1 + 1))) else (none)) else (none)) = some r := H
     have A10 := Aside0.mk A100; clear A100
     by_cases c11 : 0 ≤ x10_1; rotate_left
     · rw [if_neg c11] at H; exact absurd H (by simp)
     rw [if_pos c11] at H; have c11b0 : decide (0 ≤ x10_1) = true := decide_eq_true c11; clear c11
     by_cases c12 : x10_1 < (x3_1.length : Int); rotate_left
     · rw [if_neg c12] at H; exact absurd H (by simp)
     rw [if_pos c12] at H; have c12b0 : decide (x10_1 < (x3_1.length : Int)) = true := decide_eq_true c12
     (try (have c12b0z0 := c12b0; rw [hl3_1] at c12b0z0))
     clear c12
     obtain ⟨y161, hy161⟩ : ∃ y_ : List Int, y_ = (x3_1.set (x10_1 : Int).toNat t160) := ⟨_, rfl⟩
     replace H : (mdct_waves.l0 k1 a0 y161 (y157.length : Int) (wrap64 (x10_1 + 1))) = some r := by first | (rw [hy161]; with_reducible exact H) | (have H2_ := (Option.bind_some _ _).symm.trans H; rw [hy161]; with_reducible exact H2_) | (have H2_ := (Option.bind_some _ _).symm.trans H; with_reducible exact H2_) | with_reducible exact H | (rw [hy161]; exact H) | exact H
     have Ny161 := Aside0.mk hy161; clear hy161; have H' := Aside0.mk H; clear H
     go_wp2_with (first | ((with_reducible refine gate_callee (f := 41) rfl ?_); refine goesL_ (some 22) rfl rfl Try.func41 (by kernel_rfl) rfl #[.int .i64 (wrap64 (Int.tdiv (wrap64 ((wrap64 (Int.tdiv (wrap64 (Int.tdiv (wrap64 (x10_1 * 65536)) 4)) a0)) + 1)) 2))] rfl (by (try simp only [List.map_toArray, List.map_cons, List.map_nil]); first | done | rfl | (simp only [List.length_drop, List.length_take]; rfl)) ?_; (with_reducible refine (fix_Cos.calls k1 (wrap64 (Int.tdiv (wrap64 ((wrap64 (Int.tdiv (wrap64 (Int.tdiv (wrap64 (x10_1 * 65536)) 4)) a0)) + 1)) 2)) t160 _ A10.out).mono ?_); rintro e w14 ⟨rfl, hb⟩; refine ⟨_, rfl, ?_⟩; have n0_ := Aside0.mk (Kd.R_below (by (with_reducible repeat first | apply Kd.R_alloc | apply Kd.R_drewN | apply Kd.R_drew); exact HO_3.out) hb); have n1_ := Aside0.mk (below_step (by repeat (with_reducible first | exact HB.out | apply below_alloc | apply pw_below_drewN | apply below_drew1)) hb); clear HO_3; clear HB; have HO_3 := n0_; have HB := n1_; clear n0_ n1_; (try clear hb); (try clear hb2); (try clear hk); (try clear hi); have p13 : 0 ≤ (x10_1 : Int) := of_decide_eq_true (by first | (with_reducible assumption) | assumption); have q13 : (x10_1 : Int) < ((x3_1.length : Int) : Int) := of_decide_eq_true (by first | (with_reducible assumption) | assumption); obtain ⟨go13, co13, eo13, gb13, gl13, cl13, HG13⟩ := Kd.R_form HO_3.out (by omega); (first | cases eo13 | (injection eo13 with ea_ en_ ec_; (first | subst ea_ | (injection ea_ with ea_; subst ea_)); subst ec_; clear en_)); have GB13 := Aside0.mk gb13; have GG13 := Aside0.mk HG13; clear gb13 gl13 HG13; obtain ⟨hx13_0, hf13_0⟩ := Kd.R_celln 0 HO_3.out (x10_1 : Int) p13 q13; replace p13 := eq_true p13; replace q13 := eq_true q13; obtain ⟨hy15_, hz15_⟩ := Kd.R_celln 0 HO_3.out (x10_1 : Int) (of_decide_eq_true (by first | (with_reducible assumption) | assumption)) (of_decide_eq_true (by first | (with_reducible assumption) | assumption)); have HP15 := Kd.R_putg HO_3.out (x10_1 : Int) t160) | ((with_reducible refine gate_store (t := 2) (p := 23) rfl ?_); refine store_event (t := 2) (p := 23) (v := ?vo_w16) (w1 := (w14.setCell ⟨go13, (x10_1 : Int).toNat, none⟩ (.int .i64 t160))) ?hg ?ho ?hn ?hr ?_; (case ho => rfl); (case hg => rfl); (case hn => rfl); (case hr => first | (go_simp; done) | (go_simp; rfl)); intro w16 hw; have hg : w14.grownBy w16 (some go13) := (by rw [hw]; exact HP15.2); have hp_ : Kd.R (Kd.int .i64) 2 w16 w.heap.size (fun _ => True) (.slice (some ⟨go13, 0, none⟩) x3_1.length co7) y161 := (by rw [hw, Ny161.out]; exact HP15.1); clear HP15; have n0_ := Aside0.mk (hp_); have n1_ := Aside0.mk ((by rw [hw]; exact below_set (HB.out) GB13.out : Below w.heap.size w w16)); clear HO_3; clear HB; have HO_3 := n0_; have HB := n1_; clear n0_ n1_; clear hg hw hp_))
     (try simp only [← hl3_1])
     go_roundg k1
     case measure => have := HK1.out; omega
     case rel => exact ⟨(y161), (wrap64 (x10_1 + 1)), (by first | rfl | (simp; done) | (simp [*]; done)), H', ⟨by have := HK1.out; omega⟩, ⟨by (try simp only [hl3_1]); (with_reducible repeat first | apply Kd.R_alloc | apply Kd.R_drewN | apply Kd.R_drew); exact HO_3.out⟩, ⟨by repeat (with_reducible first | exact HB.out | apply below_alloc | apply pw_below_drewN | apply below_drew1)⟩⟩
   ·
    rw [if_neg c8] at H; have c8b0 : decide (x10_1 < (y157.length : Int)) = false := decide_eq_false c8
    (try (have c8b0z0 := c8b0; rw [hl3_1] at c8b0z0))
    clear c8
    obtain rfl := Option.some.inj H
    go_wp2
    go_ret
    exact ⟨_, by first | rfl | (simp [errW_none, errW_some] <;> rfl) | (simp only [← hji2]; first | rfl | (simp [errW_none, errW_some] <;> rfl)) | (simp [*, errW_none, errW_some] <;> rfl), by (with_reducible repeat first | apply Kd.R_alloc | apply Kd.R_drewN | apply Kd.R_drew); exact HO_3.out, by repeat (with_reducible first | exact HB.out | apply below_alloc | apply pw_below_drewN | apply below_drew1)⟩

end Go.Proofs.Ytnliianjljgcbaa.MA
