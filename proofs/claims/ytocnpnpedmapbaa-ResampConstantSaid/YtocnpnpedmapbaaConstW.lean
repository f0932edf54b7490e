/- The law ResampConstant walked. The code comes to the plain function's answer. No condition. -/
import Derived.Laws.Cover3
import Derived.Laws.Tables
import Derived.Laws.CopyOwn
import Derived.Deep.MidRow
import Derived.Test.YtocnpnpedmapbaaAwake
import Derived.Test.YtocnpnpedmapbaaTabl
namespace Go.Proofs.Ytocnpnpedmapbaa.MA
open Go.RowKit Go.Proofs.YtocnpnpedmapbaaW.PrintWords Go.Proofs.YtocnpnpedmapbaaW.PrintLast Go.Proofs.YtocnpnpedmapbaaW.PrintMore
attribute [local go_sem] max2_int min2_int max_two min_two max_three min_three max_four min_four
set_option linter.unusedVariables false
set_option linter.unusedSimpArgs false
/-! ### madrigallaw22_ResampConstant: function 6 -/
theorem grown_at {W W1 : World} {o : Option Nat} {g : Nat} (h : W.grownBy W1 o) (hl : g < W.heap.size) (hn : some g ≠ o) : W1.heap[g]? = W.heap[g]? := h.block g hl hn
theorem good_known {a b : Int} (h1 : madrigalref10_Known.f a = some true) (h2 : madrigalref10_Known.f b = some true) : resamp_Good.f a b = some true := by
 obtain ⟨s, e1, f1⟩ := Tabl.rate_some a
 obtain ⟨t, e2, f2⟩ := Tabl.rate_some b
 rw [h1] at f1; rw [h2] at f2
 cases Option.some.inj f1
 cases Option.some.inj f2
 exact Tabl.good_of a b e1 e2
mutual
def madrigallaw22_ResampConstant.j0 : Nat → Int → Int → Int → Int → Bool → Option (Bool)
 | 0, _, _, _, _, _ => none
 | k + 1, x0, x1, x2, x3, x36 => if x36 = true then (some true) else ((madrigalref10_Parts.f k x0 x1).bind fun bt252 => (if 16 ≤ 35184372088832 then (if 0 = 0 then (madrigallaw22_ResampConstant.l0 k x0 x1 x2 x3 bt252.2 (List.replicate 16 0) ([] : List Int) 0) else (some false)) else (none)))
def madrigallaw22_ResampConstant.l0 : Nat → Int → Int → Int → Int → Int → List Int → List Int → Int → Option (Bool)
 | 0, _, _, _, _, _, _, _, _ => none
 | k + 1, x0, x1, x2, x3, x10, x11, x13, x14 => if x14 < (wrap64 (x3 * x10)) then (if x13.length < 17592186044416 then (madrigallaw22_ResampConstant.l0 k x0 x1 x2 x3 x10 x11 (x13 ++ [x2]) (wrap64 (x14 + 1))) else (none)) else (if (x13.length : Int) > 4800 then (some true) else ((resamp_Sampler_Run.f k x0 x1 x11 x13).bind fun bt260 => (if bt260.2.1 = 0 then ((madrigalref1_Sat16.f k x2).bind fun t267 => (madrigallaw22_ResampConstant.l1 k x0 x1 bt260.1 t267 0)) else (some false))))
def madrigallaw22_ResampConstant.l1 : Nat → Int → Int → List Int → Int → Int → Option (Bool)
 | 0, _, _, _, _, _ => none
 | k + 1, x0, x1, x15, x17, x18 => if x18 < (x15.length : Int) then (if x1 = 0 then (none) else (if (wrap64 (Int.tdiv (wrap64 (x18 * x0)) x1)) ≥ 17 then (if 0 ≤ x18 then (if (wrap64 ((rd x15 x18) - x17)) > 1 then (some false) else (if (wrap64 (x17 - (rd x15 x18))) > 1 then (some false) else (madrigallaw22_ResampConstant.l1 k x0 x1 x15 x17 (wrap64 (x18 + 1))))) else (none)) else (madrigallaw22_ResampConstant.l1 k x0 x1 x15 x17 (wrap64 (x18 + 1))))) else (some true)
end
def madrigallaw22_ResampConstant.f (k : Nat) (a0 : Int) (a1 : Int) (a2 : Int) (a3 : Int) : Option (Bool) := (madrigallaw22_awake.f).bind fun t249 => (if t249 = true then ((madrigalref10_Known.f a0).bind fun t250 => (if t250 = true then ((madrigalref10_Known.f a1).bind fun t251 => (if t251 = true then (if a3 < 24 then (madrigallaw22_ResampConstant.j0 k a0 a1 a2 a3 true) else (madrigallaw22_ResampConstant.j0 k a0 a1 a2 a3 (decide (a3 > 400)))) else (madrigallaw22_ResampConstant.j0 k a0 a1 a2 a3 true))) else (madrigallaw22_ResampConstant.j0 k a0 a1 a2 a3 true))) else (some false))
set_option maxHeartbeats 8000000 in
set_option maxRecDepth 100000 in
theorem madrigallaw22_ResampConstant.calls (k : Nat) (a0 : Int) (a1 : Int) (a2 : Int) (a3 : Int) (r : Bool) (w : World) (hrt : r = true) (h : madrigallaw22_ResampConstant.f k a0 a1 a2 a3 = some r) :
  Calls Try.prog 6 #[.int .i64 a0, .int .i64 a1, .int .i64 a2, .int .i64 a3] w fun e w' => e = .returned (.bool r) ∧ Below w.heap.size w w' := by
 have HRT := Aside0.mk hrt; clear hrt
 have HB := Aside0.mk (Below.refl w.heap.size w)
 have H : ((madrigallaw22_awake.f).bind fun t249 => (if t249 = true then ((madrigalref10_Known.f a0).bind fun t250 => (if t250 = true then ((madrigalref10_Known.f a1).bind fun t251 => (if t251 = true then (if a3 < 24 then (madrigallaw22_ResampConstant.j0 k a0 a1 a2 a3 true) else (madrigallaw22_ResampConstant.j0 k a0 a1 a2 a3 (decide (a3 > 400)))) else (madrigallaw22_ResampConstant.j0 k a0 a1 a2 a3 true))) else (madrigallaw22_ResampConstant.j0 k a0 a1 a2 a3 true))) else (some false))) = some r := h
 clear h; replace H := Option.bind_eq_some_iff.mp H; obtain ⟨t249, A50, H⟩ := H
 replace H : (if t249 = true then ((madrigalref10_Known.f a0).bind fun t250 => (if t250 = true then ((madrigalref10_Known.f a1).bind fun t251 => (if t251 = true then (if a3 < 24 then (madrigallaw22_ResampConstant.j0 k a0 a1 a2 a3 true) else (madrigallaw22_ResampConstant.j0 k a0 a1 a2 a3 (decide (a3 > 400)))) else (madrigallaw22_ResampConstant.j0 k a0 a1 a2 a3 true))) else (madrigallaw22_ResampConstant.j0 k a0 a1 a2 a3 true))) else (some false)) = some r := H
 have A5 := Aside0.mk A50; clear A50
 by_cases c6 : t249 = true
 ·
  subst c6
  have H1 : ((madrigalref10_Known.f a0).bind fun t250 => (if t250 = true then ((madrigalref10_Known.f a1).bind fun t251 => (if t251 = true then (if a3 < 24 then (madrigallaw22_ResampConstant.j0 k a0 a1 a2 a3 true) else (madrigallaw22_ResampConstant.j0 k a0 a1 a2 a3 (decide (a3 > 400)))) else (madrigallaw22_ResampConstant.j0 k a0 a1 a2 a3 true))) else (madrigallaw22_ResampConstant.j0 k a0 a1 a2 a3 true))) = some r := by rw [if_pos rfl] at H; exact H
  clear H; have H := H1; clear H1; have HC7 := Aside0.mk H; clear H
  go_enter Try.func6, Try.ntmps6
  go_upto_region 3 with (first | ((with_reducible refine gate_callee (f := 8) rfl ?_); refine goesL_ (some 19) rfl rfl Try.func8 (by kernel_rfl) rfl #[] rfl (by (try simp only [List.map_toArray, List.map_cons, List.map_nil]); first | done | rfl | (simp only [List.length_drop, List.length_take]; rfl)) ?_; (with_reducible refine (madrigallaw22_awake.calls  true _ A5.out).mono ?_); rintro e w8 ⟨rfl, hb⟩; refine ⟨_, rfl, ?_⟩; have n0_ := Aside0.mk (below_step (by repeat (with_reducible first | exact HB.out | apply below_alloc | apply pw_below_drewN | apply below_drew1)) hb); clear HB; have HB := n0_; clear n0_; (try clear hb); (try clear hb2); (try clear hk); (try clear hi)))
  (try simp only [Act.put, List.setIfInBounds_toArray, List.set_cons_zero, List.set_cons_succ])
  go_cut [36] (fun v36 wc => ∃ (kq : Nat) (x36_6 : Bool), v36 = .bool x36_6 ∧ Aside0 (madrigallaw22_ResampConstant.j0 kq a0 a1 a2 a3 x36_6 = some r) ∧ Aside0 (kq ≤ k) ∧ Aside0 (Below w.heap.size w wc) ∧ Aside0 (x36_6 = false → resamp_Good.f a0 a1 = some true))
  case first =>
   have H := HC7.out; clear HC7; replace H := Option.bind_eq_some_iff.mp H; obtain ⟨t250, A90, H⟩ := H
   replace H : (if t250 = true then ((madrigalref10_Known.f a1).bind fun t251 => (if t251 = true then (if a3 < 24 then (madrigallaw22_ResampConstant.j0 k a0 a1 a2 a3 true) else (madrigallaw22_ResampConstant.j0 k a0 a1 a2 a3 (decide (a3 > 400)))) else (madrigallaw22_ResampConstant.j0 k a0 a1 a2 a3 true))) else (madrigallaw22_ResampConstant.j0 k a0 a1 a2 a3 true)) = some r := H
   have A9 := Aside0.mk A90; clear A90
   by_cases c10 : t250 = true
   ·
    subst c10
    have H1 : ((madrigalref10_Known.f a1).bind fun t251 => (if t251 = true then (if a3 < 24 then (madrigallaw22_ResampConstant.j0 k a0 a1 a2 a3 true) else (madrigallaw22_ResampConstant.j0 k a0 a1 a2 a3 (decide (a3 > 400)))) else (madrigallaw22_ResampConstant.j0 k a0 a1 a2 a3 true))) = some r := by rw [if_pos rfl] at H; exact H
    clear H; have H := H1; clear H1; replace H := Option.bind_eq_some_iff.mp H; obtain ⟨t251, A110, H⟩ := H
    replace H : (if t251 = true then (if a3 < 24 then (madrigallaw22_ResampConstant.j0 k a0 a1 a2 a3 true) else (madrigallaw22_ResampConstant.j0 k a0 a1 a2 a3 (decide (a3 > 400)))) else (madrigallaw22_ResampConstant.j0 k a0 a1 a2 a3 true)) = some r := H
    have A11 := Aside0.mk A110; clear A110
    by_cases c12 : t251 = true
    ·
     subst c12
     have H1 : (if a3 < 24 then (madrigallaw22_ResampConstant.j0 k a0 a1 a2 a3 true) else (madrigallaw22_ResampConstant.j0 k a0 a1 a2 a3 (decide (a3 > 400)))) = some r := by rw [if_pos rfl] at H; exact H
     clear H; have H := H1; clear H1
     by_cases c13 : a3 < 24
     ·
      rw [if_pos c13] at H; have c13b0 : decide (a3 < 24) = true := decide_eq_true c13; clear c13
      (first | rw [c13b0] | (simp only [i64_w, i32_w]; rw [c13b0]) | skip)
      have H' := Aside0.mk H; clear H
      go_wp2_with (first | ((with_reducible refine gate_callee (f := 12) rfl ?_); refine goesL_ (some 22) rfl rfl Try.func12 (by kernel_rfl) rfl #[.int .i64 a0] rfl (by (try simp only [List.map_toArray, List.map_cons, List.map_nil]); first | done | rfl | (simp only [List.length_drop, List.length_take]; rfl)) ?_; (with_reducible refine (madrigalref10_Known.calls a0 true _ A9.out).mono ?_); rintro e w' ⟨rfl, ⟨nd, rfl⟩⟩; refine ⟨_, rfl, ?_⟩) | (go_at_call 12; (with_reducible refine (madrigalref10_Known.calls a1 true _ A11.out).mono ?_); rintro e w' ⟨rfl, ⟨nd, rfl⟩⟩))
      go_meet
      case rel => exact ⟨_, (true), (by first | rfl | (simp; done) | (simp [*]; done)), H', ⟨by first | omega | exact Nat.le_refl _⟩, ⟨by repeat (with_reducible first | exact HB.out | apply below_alloc | apply pw_below_drewN | apply below_drew1)⟩, ⟨fun h_ => absurd h_ (by decide)⟩⟩
     ·
      rw [if_neg c13] at H; have c13b0 : decide (a3 < 24) = false := decide_eq_false c13; clear c13
      (first | rw [c13b0] | (simp only [i64_w, i32_w]; rw [c13b0]) | skip)
      have H' := Aside0.mk H; clear H
      go_wp2_with (first | ((with_reducible refine gate_callee (f := 12) rfl ?_); refine goesL_ (some 22) rfl rfl Try.func12 (by kernel_rfl) rfl #[.int .i64 a0] rfl (by (try simp only [List.map_toArray, List.map_cons, List.map_nil]); first | done | rfl | (simp only [List.length_drop, List.length_take]; rfl)) ?_; (with_reducible refine (madrigalref10_Known.calls a0 true _ A9.out).mono ?_); rintro e w' ⟨rfl, ⟨nd, rfl⟩⟩; refine ⟨_, rfl, ?_⟩) | (go_at_call 12; (with_reducible refine (madrigalref10_Known.calls a1 true _ A11.out).mono ?_); rintro e w' ⟨rfl, ⟨nd, rfl⟩⟩))
      go_meet
      case rel => exact ⟨_, (decide (a3 > 400)), (by first | rfl | (simp; done) | (simp [*]; done)), H', ⟨by first | omega | exact Nat.le_refl _⟩, ⟨by repeat (with_reducible first | exact HB.out | apply below_alloc | apply pw_below_drewN | apply below_drew1)⟩, ⟨fun _ => good_known A9.out A11.out⟩⟩
    ·
     replace c12 := Bool.eq_false_iff.mpr c12
     subst c12
     have H1 : (madrigallaw22_ResampConstant.j0 k a0 a1 a2 a3 true) = some r := by rw [if_neg (show ¬ (false = true) by decide)] at H; exact H
     clear H; have H := H1; clear H1; have H' := Aside0.mk H; clear H
     go_wp2_with (first | ((with_reducible refine gate_callee (f := 12) rfl ?_); refine goesL_ (some 22) rfl rfl Try.func12 (by kernel_rfl) rfl #[.int .i64 a0] rfl (by (try simp only [List.map_toArray, List.map_cons, List.map_nil]); first | done | rfl | (simp only [List.length_drop, List.length_take]; rfl)) ?_; (with_reducible refine (madrigalref10_Known.calls a0 true _ A9.out).mono ?_); rintro e w' ⟨rfl, ⟨nd, rfl⟩⟩; refine ⟨_, rfl, ?_⟩) | (go_at_call 12; (with_reducible refine (madrigalref10_Known.calls a1 false _ A11.out).mono ?_); rintro e w' ⟨rfl, ⟨nd, rfl⟩⟩))
     go_meet
     case rel => exact ⟨_, (true), (by first | rfl | (simp; done) | (simp [*]; done)), H', ⟨by first | omega | exact Nat.le_refl _⟩, ⟨by repeat (with_reducible first | exact HB.out | apply below_alloc | apply pw_below_drewN | apply below_drew1)⟩, ⟨fun h_ => absurd h_ (by decide)⟩⟩
   ·
    replace c10 := Bool.eq_false_iff.mpr c10
    subst c10
    have H1 : (madrigallaw22_ResampConstant.j0 k a0 a1 a2 a3 true) = some r := by rw [if_neg (show ¬ (false = true) by decide)] at H; exact H
    clear H; have H := H1; clear H1; have H' := Aside0.mk H; clear H
    go_wp2_with (first | ((with_reducible refine gate_callee (f := 12) rfl ?_); refine goesL_ (some 22) rfl rfl Try.func12 (by kernel_rfl) rfl #[.int .i64 a0] rfl (by (try simp only [List.map_toArray, List.map_cons, List.map_nil]); first | done | rfl | (simp only [List.length_drop, List.length_take]; rfl)) ?_; (with_reducible refine (madrigalref10_Known.calls a0 false _ A9.out).mono ?_); rintro e w' ⟨rfl, ⟨nd, rfl⟩⟩; refine ⟨_, rfl, ?_⟩))
    go_meet
    case rel => exact ⟨_, (true), (by first | rfl | (simp; done) | (simp [*]; done)), H', ⟨by first | omega | exact Nat.le_refl _⟩, ⟨by repeat (with_reducible first | exact HB.out | apply below_alloc | apply pw_below_drewN | apply below_drew1)⟩, ⟨fun h_ => absurd h_ (by decide)⟩⟩
  case rest =>
   clear HC7; (try clear c1); (try clear p2); (try clear c6); (try clear c8); (try clear c10); (try clear c12); (try clear c13); (try clear c13b0); (try clear c13b0z0)
   obtain ⟨kq, x36_6, rfl, HA, HJ6, HB, HGX⟩ := hcut
   cases kq with
   | zero => exact absurd HA.out (by simp [madrigallaw22_ResampConstant.j0])
   | succ kj6 =>
    have H := HA.out; clear HA
    simp only [madrigallaw22_ResampConstant.j0] at H
    by_cases c14 : x36_6 = true
    ·
     subst c14
     have H1 : (some true) = some r := by rw [if_pos rfl] at H; exact H
     clear H; have H := H1; clear H1
     obtain rfl := Option.some.inj H
     go_wp2
     go_ret
     exact ⟨by first | rfl | (simp [errW_none, errW_some] <;> rfl) | (simp [*, errW_none, errW_some] <;> rfl), by repeat (with_reducible first | exact HB.out | apply below_alloc | apply pw_below_drewN | apply below_drew1)⟩
    ·
     replace c14 := Bool.eq_false_iff.mpr c14
     subst c14
     have HGD := Aside0.mk (HGX.out rfl); clear HGX
     have H1 : ((madrigalref10_Parts.f kj6 a0 a1).bind fun bt252 => (if 16 ≤ 35184372088832 then (if 0 = 0 then (madrigallaw22_ResampConstant.l0 kj6 a0 a1 a2 a3 bt252.2 (List.replicate 16 0) ([] : List Int) 0) else (some false)) else (none))) = some r := by rw [if_neg (show ¬ (false = true) by decide)] at H; exact H
     clear H; have H := H1; clear H1; replace H := Option.bind_eq_some_iff.mp H; obtain ⟨⟨t252, t253⟩, A150, H⟩ := H
     replace H : (if 16 ≤ 35184372088832 then (if 0 = 0 then (madrigallaw22_ResampConstant.l0 kj6 a0 a1 a2 a3 t253 (List.replicate 16 0) ([] : List Int) 0) else (some false)) else (none)) = some r := H
     have A15 := Aside0.mk A150; clear A150
     by_cases c16 : 16 ≤ 35184372088832; rotate_left
     · rw [if_neg c16] at H; exact absurd H (by simp)
     rw [if_pos c16] at H; have c16b0 := eq_true c16; have c16b1 : decide (16 ≤ 35184372088832) = true := decide_eq_true c16; clear c16
     obtain ⟨y254, hy254⟩ : ∃ y_ : List Int, y_ = (List.replicate 16 0) := ⟨_, rfl⟩
     replace H : (if 0 = 0 then (madrigallaw22_ResampConstant.l0 kj6 a0 a1 a2 a3 t253 y254 ([] : List Int) 0) else (some false)) = some r := by first | (rw [hy254]; with_reducible exact H) | (have H2_ := (Option.bind_some _ _).symm.trans H; rw [hy254]; with_reducible exact H2_) | (have H2_ := (Option.bind_some _ _).symm.trans H; with_reducible exact H2_) | with_reducible exact H | (rw [hy254]; exact H) | exact H
     have Ny254 := Aside0.mk hy254; clear hy254
     by_cases c17 : 0 = 0
     ·
      rw [if_pos c17] at H; have c17b0 : (0 == 0) = true := beq_iff_eq.mpr c17; have c17b1 : (0 != 0) = false := bne_eq_false_iff_eq.mpr c17; clear c17; have H' := Aside0.mk H; clear H
      go_wp2_with (first | ((with_reducible refine gate_callee (f := 14) rfl ?_); refine goesL_ (some 40) rfl rfl Try.func14 (by kernel_rfl) rfl #[.int .i64 a0, .int .i64 a1] rfl (by (try simp only [List.map_toArray, List.map_cons, List.map_nil]); first | done | rfl | (simp only [List.length_drop, List.length_take]; rfl)) ?_; (with_reducible refine (madrigalref10_Parts.calls kj6 a0 a1 t252 t253 _ A15.out).mono ?_); rintro e w' ⟨rfl, ⟨nd, rfl⟩⟩; refine ⟨_, rfl, ?_⟩) | ((with_reducible refine gate_callee (f := 9) rfl ?_); refine goesL_ (some 46) rfl rfl Try.func9 (by kernel_rfl) rfl #[.int .i64 a0, .int .i64 a1] rfl (by (try simp only [List.map_toArray, List.map_cons, List.map_nil]); first | done | rfl) ?_; (with_reducible refine (resamp_New.good a0 a1 _ HGD.out).mono ?_); rintro e w18 ⟨g, rfl, hge, hS, hb⟩; refine ⟨_, rfl, ?_⟩; have e_ : List.replicate 16 (0 : Int) = y254 := Ny254.out.symm; have HS := Aside0.mk (show SAt w18 g a0 a1 y254 from e_ ▸ hS); clear e_; have GE := Aside0.mk (Nat.le_trans HB.out.size hge); have n0_ := Aside0.mk (below_step (by repeat (with_reducible first | exact HB.out | apply below_alloc | apply pw_below_drewN | apply below_drew1)) hb); clear HB; have HB := n0_; clear n0_ hS hge hb))
      go_loopg [13, 14] kj6 (fun kq v13 v14 w' => ∃ (x13_2 : List Int) (x14_2 : Int), v14 = .int .i64 x14_2 ∧ Aside0 (madrigallaw22_ResampConstant.l0 kq a0 a1 a2 a3 t253 y254 x13_2 x14_2 = some r) ∧ Aside0 (kq ≤ kj6) ∧ Aside0 (SAt w' g a0 a1 y254) ∧ Aside0 (Kd.R (Kd.int .i64) 2 w' w.heap.size (fun k_ => k_ ≠ g) v13 x13_2) ∧ Aside0 (Below w.heap.size w w'))
      case atStart => exact ⟨(([] : List Int)), (0), (by first | rfl | (simp; done) | (simp [*]; done)), H', ⟨Nat.le_refl _⟩, ⟨HS.out.keep rfl⟩, ⟨by first | exact Kd.R_nil _ _ _ _ _ | exact Kd.N_nil _ _ _ _ _ | exact Kd.V_nil _ _ _ _ _ | exact Kd.Q_nil _ _ _ _ _ | exact Kd.S_nil _ _ _ _ _⟩, ⟨by repeat (with_reducible first | exact HB.out | apply below_alloc | apply pw_below_drewN | apply below_drew1)⟩⟩
      case round =>
       clear H'
       (try clear c1); (try clear p2); (try clear c6); (try clear c8); (try clear c10); (try clear c12); (try clear c13); (try clear c13b0); (try clear c13b0z0); (try clear c14); (try clear c16); (try clear c16b0); (try clear c16b0z0); (try clear c16b1); (try clear c16b1z0); (try clear c17); (try clear c17b0); (try clear c17b0z0); (try clear c17b1); (try clear c17b1z0); (try clear p2)
       obtain ⟨x13_2, x14_2, rfl, HA, HK2, HO_11, HO_13, HB⟩ := hrel
       cases gk with
       | zero => exact absurd HA.out (by simp [madrigallaw22_ResampConstant.l0])
       | succ k2 =>
        have H := HA.out; clear HA
        simp only [madrigallaw22_ResampConstant.l0] at H
        by_cases c20 : x14_2 < (wrap64 (a3 * t253))
        ·
         rw [if_pos c20] at H; have c20b0 : decide (x14_2 < (wrap64 (a3 * t253))) = true := decide_eq_true c20; clear c20
         by_cases c21 : x13_2.length < 17592186044416; rotate_left
         · rw [if_neg c21] at H; exact absurd H (by simp)
         rw [if_pos c21] at H; have LMc21 := Aside0.mk c21; clear c21
         obtain ⟨y257, hy257⟩ : ∃ y_ : List Int, y_ = (x13_2 ++ [a2]) := ⟨_, rfl⟩
         replace H : (madrigallaw22_ResampConstant.l0 k2 a0 a1 a2 a3 t253 y254 y257 (wrap64 (x14_2 + 1))) = some r := by first | (rw [hy257]; with_reducible exact H) | (have H2_ := (Option.bind_some _ _).symm.trans H; rw [hy257]; with_reducible exact H2_) | (have H2_ := (Option.bind_some _ _).symm.trans H; with_reducible exact H2_) | with_reducible exact H | (rw [hy257]; exact H) | exact H
         have Ny257 := Aside0.mk hy257; clear hy257; have H' := Aside0.mk H; clear H
         go_wp2_with (first | ((with_reducible refine gate_builtin (b := .append) (xs := #[.tmp 58, .tmp 60]) rfl ?_); at_builtin; refine Kd.R_append (Kd.int .i64) (w0 := w) w.heap.size rfl (.tmp 58) (.tmp 60) 27 2 (.int .i64 0) 8 rfl Try.underlying27 info2 rfl (by decide) (by omega) u13 x13_2 a2 [.int .i64 a2] (fun k_ => k_ ≠ g) (fun _ => False) rfl rfl ?aP (fun _ hk => hk.elim) ?aF ?aO ?aB ?aS ?aL ?_; (case aP => exact rfl); (case aB => exact (by repeat (with_reducible first | exact HB.out | apply below_alloc | apply pw_below_drewN | apply below_drew1))); (case aF => exact (fun k_ hk => by have h_ := HO_11.out.lt; have h2_ := hk; omega)); (case aO => exact (by (with_reducible repeat first | apply Kd.R_alloc | apply Kd.R_drewN | apply Kd.R_drew); exact HO_13.out)); (case aS => exact (below_size (by repeat (with_reducible first | exact HB.out | apply below_alloc | apply pw_below_drewN | apply below_drew1)))); (case aL => have := LMc21.out; omega); intro v258 w22 ho hb hg hat; rw [← Ny257.out] at ho; have n0_ := Aside0.mk (HO_11.out.keep (grown_at hg HO_11.out.lt (fun h_ => HO_13.out.1 g h_.symm rfl))); have n1_ := Aside0.mk (hb); have n2_ := Aside0.mk (ho); clear HO_11; clear HB; clear HO_13; have HO_11 := n0_; have HB := n1_; have HO259 := n2_; clear n0_ n1_ n2_; clear ho hb hg hat))
         go_roundg k2
         case measure => have := HJ6.out; have := HK2.out; omega
         case rel => exact ⟨(y257), (wrap64 (x14_2 + 1)), (by first | rfl | (simp; done) | (simp [*]; done)), H', ⟨by have := HJ6.out; have := HK2.out; omega⟩, ⟨HO_11.out.keep rfl⟩, ⟨by (with_reducible repeat first | apply Kd.R_alloc | apply Kd.R_drewN | apply Kd.R_drew); exact HO259.out⟩, ⟨by repeat (with_reducible first | exact HB.out | apply below_alloc | apply pw_below_drewN | apply below_drew1)⟩⟩
        ·
         rw [if_neg c20] at H; have c20b0 : decide (x14_2 < (wrap64 (a3 * t253))) = false := decide_eq_false c20; clear c20
         by_cases c23 : (x13_2.length : Int) > 4800
         ·
          rw [if_pos c23] at H; have c23b0 : decide (4800 < (x13_2.length : Int)) = true := decide_eq_true c23; have c23b1 : decide (4800 < x13_2.length) = true := decide_eq_true (by omega); clear c23
          obtain rfl := Option.some.inj H
          obtain ⟨Ao24, co24, eo24⟩ := Kd.R_slice HO_13.out
          subst eo24
          go_wp2
          go_ret
          exact ⟨by first | rfl | (simp [errW_none, errW_some] <;> rfl) | (simp [*, errW_none, errW_some] <;> rfl), by repeat (with_reducible first | exact HB.out | apply below_alloc | apply pw_below_drewN | apply below_drew1)⟩
         ·
          rw [if_neg c23] at H; have c23b0 : decide (4800 < (x13_2.length : Int)) = false := decide_eq_false c23; have c23b1 : decide (4800 < x13_2.length) = false := decide_eq_false (by omega); clear c23; replace H := Option.bind_eq_some_iff.mp H; obtain ⟨⟨t260, t261, t262⟩, A250, H⟩ := H
          replace H : (if t261 = 0 then ((madrigalref1_Sat16.f k2 a2).bind fun t267 => (madrigallaw22_ResampConstant.l1 k2 a0 a1 t260 t267 0)) else (some false)) = some r := H
          have A25 := Aside0.mk A250; clear A250
          by_cases c26 : t261 = 0
          ·
           rw [if_pos c26] at H; have c26b0 : (t261 == 0) = true := beq_iff_eq.mpr c26; have c26b1 : (t261 != 0) = false := bne_eq_false_iff_eq.mpr c26; clear c26; replace H := Option.bind_eq_some_iff.mp H; obtain ⟨t267, A270, H⟩ := H
           replace H : (madrigallaw22_ResampConstant.l1 k2 a0 a1 t260 t267 0) = some r := H
           have A27 := Aside0.mk A270; clear A270; have H' := Aside0.mk H; clear H
           obtain ⟨Ao28, co28, eo28⟩ := Kd.R_slice HO_13.out
           subst eo28
           go_wp2_with (first | ((with_reducible refine gate_callee (f := 10) rfl ?_); refine goesL_ (some 68) rfl rfl Try.func10 (by kernel_rfl) rfl #[.pointer (some ⟨g, 0, none⟩), .slice Ao28 x13_2.length co28] rfl (by (try simp only [List.map_toArray, List.map_cons, List.map_nil]); first | done | rfl) ?_; (with_reducible refine (resamp_Sampler_Run.walk k2 a0 a1 g y254 _ _ x13_2 t260 t261 t262 _ HO_11.out ?side3 ?side4 A25.out).mono ?_); (case side3 => exact (Kd.R_reads' HO_13.out).2.2); (case side4 => exact (Kd.R_reads' HO_13.out).2.1); rintro e w30 ⟨v263, rfl, ho0, hP⟩; refine ⟨_, rfl, ?_⟩; have n2_ := Aside0.mk (Kd.R_lower ho0 (below_size (by repeat (with_reducible first | exact HB.out | apply below_alloc | apply pw_below_drewN | apply below_drew1)))); have n4_ := Aside0.mk (below_keep HB.out hP.1 GE.out); clear HB; have HO264 := n2_; have HB := n4_; clear n2_ n4_; clear ho0 hP) | ((with_reducible refine gate_callee (f := 19) rfl ?_); refine goesL_ (some 74) rfl rfl Try.func19 (by kernel_rfl) rfl #[.int .i64 a2] rfl (by (try simp only [List.map_toArray, List.map_cons, List.map_nil]); first | done | rfl | (simp only [List.length_drop, List.length_take]; rfl)) ?_; (with_reducible refine (madrigalref1_Sat16.calls k2 a2 t267 _ A27.out).mono ?_); rintro e w' ⟨rfl, ⟨nd, rfl⟩⟩; refine ⟨_, rfl, ?_⟩))
           go_loopg [18] k2 (fun kq v18 w' => ∃ (x18_3 : Int), v18 = .int .i64 x18_3 ∧ Aside0 (madrigallaw22_ResampConstant.l1 kq a0 a1 t260 t267 x18_3 = some r) ∧ Aside0 (kq ≤ k2) ∧ Aside0 (Kd.R (Kd.int .i64) 2 w' w.heap.size (fun _ => True) v263 t260) ∧ Aside0 (Below w.heap.size w w'))
           case atStart => exact ⟨(0), (by first | rfl | (simp; done) | (simp [*]; done)), H', ⟨Nat.le_refl _⟩, ⟨by (with_reducible repeat first | apply Kd.R_alloc | apply Kd.R_drewN | apply Kd.R_drew); exact Kd.R_mono HO264.out (fun _ hk => trivial)⟩, ⟨by repeat (with_reducible first | exact HB.out | apply below_alloc | apply pw_below_drewN | apply below_drew1)⟩⟩
           case round =>
            clear H'
            (try clear c1); (try clear c2); (try clear p2); (try clear c6); (try clear p6); (try clear c8); (try clear c10); (try clear c12); (try clear c13); (try clear c13b0); (try clear c13b0z0); (try clear c14); (try clear c16); (try clear c16b0); (try clear c16b0z0); (try clear c16b1); (try clear c16b1z0); (try clear c17); (try clear c17b0); (try clear c17b0z0); (try clear c17b1); (try clear c17b1z0); (try clear c19); (try clear c20); (try clear c20b0); (try clear c20b0z0); (try clear c21); (try clear c23); (try clear c23b0); (try clear c23b0z0); (try clear c23b1); (try clear c23b1z0); (try clear c26); (try clear c26b0); (try clear c26b0z0); (try clear c26b1); (try clear c26b1z0); (try clear p2)
            obtain ⟨x18_3, rfl, HA, HK3, HO_15, HB⟩ := hrel
            cases gk with
            | zero => exact absurd HA.out (by simp [madrigallaw22_ResampConstant.l1])
            | succ k3 =>
             have H := HA.out; clear HA
             simp only [madrigallaw22_ResampConstant.l1] at H
             by_cases c31 : x18_3 < (t260.length : Int)
             ·
              rw [if_pos c31] at H; have c31b0 : decide (x18_3 < (t260.length : Int)) = true := decide_eq_true c31; clear c31
              by_cases c32 : a1 = 0
              ·
               rw [if_pos c32] at H; exact absurd H (by simp)
              ·
               rw [if_neg c32] at H; have c32b0 : (a1 == 0) = false := beq_eq_false_iff_ne.mpr c32; have c32b1 : (a1 != 0) = true := bne_iff_ne.mpr c32
               by_cases c33 : (wrap64 (Int.tdiv (wrap64 (x18_3 * a0)) a1)) ≥ 17
               ·
                rw [if_pos c33] at H; have c33b0 : decide (17 ≤ (wrap64 (Int.tdiv (wrap64 (x18_3 * a0)) a1))) = true := decide_eq_true c33; clear c33
                by_cases c34 : 0 ≤ x18_3; rotate_left
                · rw [if_neg c34] at H; exact absurd H (by simp)
                rw [if_pos c34] at H; have c34b0 : decide (0 ≤ x18_3) = true := decide_eq_true c34; clear c34
                by_cases c35 : (wrap64 ((rd t260 x18_3) - t267)) > 1
                ·
                 rw [if_pos c35] at H; have c35b0 : decide (1 < (wrap64 ((rd t260 x18_3) - t267))) = true := decide_eq_true c35; clear c35
                 exact absurd ((Option.some.inj H).trans HRT.out) (by simp)
                ·
                 rw [if_neg c35] at H; have c35b0 : decide (1 < (wrap64 ((rd t260 x18_3) - t267))) = false := decide_eq_false c35; clear c35
                 by_cases c36 : (wrap64 (t267 - (rd t260 x18_3))) > 1
                 ·
                  rw [if_pos c36] at H; have c36b0 : decide (1 < (wrap64 (t267 - (rd t260 x18_3)))) = true := decide_eq_true c36; clear c36
                  exact absurd ((Option.some.inj H).trans HRT.out) (by simp)
                 ·
                  rw [if_neg c36] at H; have c36b0 : decide (1 < (wrap64 (t267 - (rd t260 x18_3)))) = false := decide_eq_false c36; clear c36; have H' := Aside0.mk H; clear H
                  obtain ⟨Ao37, co37, eo37⟩ := Kd.R_slice HO_15.out
                  subst eo37; have p268 : 0 ≤ (x18_3 : Int) := of_decide_eq_true (by first | (with_reducible assumption) | assumption); have q268 : x18_3 < (t260.length : Int) := of_decide_eq_true (by first | (with_reducible assumption) | assumption)
                  obtain ⟨ad268, e268, hx268_0⟩ := Kd.at_int (Kd.R_reads' HO_15.out).2.2 x18_3 p268 q268
                  cases e268; replace p268 := eq_true p268; replace q268 := eq_true q268; have p269 : 0 ≤ (x18_3 : Int) := of_decide_eq_true (by first | (with_reducible assumption) | assumption); have q269 : x18_3 < (t260.length : Int) := of_decide_eq_true (by first | (with_reducible assumption) | assumption)
                  obtain ⟨ad269, e269, hx269_0⟩ := Kd.at_int (Kd.R_reads' HO_15.out).2.2 x18_3 p269 q269
                  obtain rfl : ad268 = ad269 := (by injection e269)
                  replace p269 := eq_true p269; replace q269 := eq_true q269
                  go_wp2
                  go_roundg k3
                  case measure => have := HJ6.out; have := HK2.out; have := HK3.out; omega
                  case rel => exact ⟨(wrap64 (x18_3 + 1)), (by first | rfl | (simp; done) | (simp [*]; done)), H', ⟨by have := HJ6.out; have := HK2.out; have := HK3.out; omega⟩, ⟨by (with_reducible repeat first | apply Kd.R_alloc | apply Kd.R_drewN | apply Kd.R_drew); exact HO_15.out⟩, ⟨by repeat (with_reducible first | exact HB.out | apply below_alloc | apply pw_below_drewN | apply below_drew1)⟩⟩
               ·
                rw [if_neg c33] at H; have c33b0 : decide (17 ≤ (wrap64 (Int.tdiv (wrap64 (x18_3 * a0)) a1))) = false := decide_eq_false c33; clear c33; have H' := Aside0.mk H; clear H
                obtain ⟨Ao38, co38, eo38⟩ := Kd.R_slice HO_15.out
                subst eo38
                go_wp2
                go_roundg k3
                case measure => have := HJ6.out; have := HK2.out; have := HK3.out; omega
                case rel => exact ⟨(wrap64 (x18_3 + 1)), (by first | rfl | (simp; done) | (simp [*]; done)), H', ⟨by have := HJ6.out; have := HK2.out; have := HK3.out; omega⟩, ⟨by (with_reducible repeat first | apply Kd.R_alloc | apply Kd.R_drewN | apply Kd.R_drew); exact HO_15.out⟩, ⟨by repeat (with_reducible first | exact HB.out | apply below_alloc | apply pw_below_drewN | apply below_drew1)⟩⟩
             ·
              rw [if_neg c31] at H; have c31b0 : decide (x18_3 < (t260.length : Int)) = false := decide_eq_false c31; clear c31
              obtain rfl := Option.some.inj H
              obtain ⟨Ao39, co39, eo39⟩ := Kd.R_slice HO_15.out
              subst eo39
              go_wp2
              go_ret
              exact ⟨by first | rfl | (simp [errW_none, errW_some] <;> rfl) | (simp [*, errW_none, errW_some] <;> rfl), by repeat (with_reducible first | exact HB.out | apply below_alloc | apply pw_below_drewN | apply below_drew1)⟩
          ·
           rw [if_neg c26] at H; have c26b0 : (t261 == 0) = false := beq_eq_false_iff_ne.mpr c26; have c26b1 : (t261 != 0) = true := bne_iff_ne.mpr c26
           exact absurd ((Option.some.inj H).trans HRT.out) (by simp)
     ·
      rw [if_neg c17] at H; have c17b0 : (0 == 0) = false := beq_eq_false_iff_ne.mpr c17; have c17b1 : (0 != 0) = true := bne_iff_ne.mpr c17
      exact absurd ((Option.some.inj H).trans HRT.out) (by simp)
 ·
  replace c6 := Bool.eq_false_iff.mpr c6
  subst c6
  have H1 : (some false) = some r := by rw [if_neg (show ¬ (false = true) by decide)] at H; exact H
  clear H; have H := H1; clear H1
  exact absurd ((Option.some.inj H).trans HRT.out) (by simp)

/-- THE ONE PURE STATEMENT of madrigallaw22_ResampConstant: yours. -/
def madrigallaw22_ResampConstant.Pure : Prop := ∀ (a0 : Int) (a1 : Int) (a2 : Int) (a3 : Int), (Lit.int .i64 a0).wf = true → (Lit.int .i64 a1).wf = true → (Lit.int .i64 a2).wf = true → (Lit.int .i64 a3).wf = true → ∃ k, madrigallaw22_ResampConstant.f k a0 a1 a2 a3 = some true
theorem madrigallaw22_ResampConstant.walk (P : madrigallaw22_ResampConstant.Pure) (a0 : Int) (a1 : Int) (a2 : Int) (a3 : Int) (w : World) (w0 : (Lit.int .i64 a0).wf = true) (w1 : (Lit.int .i64 a1).wf = true) (w2 : (Lit.int .i64 a2).wf = true) (w3 : (Lit.int .i64 a3).wf = true) :
  Calls Try.prog 6 #[.int .i64 a0, .int .i64 a1, .int .i64 a2, .int .i64 a3] w fun e w' => e = .returned (.bool true) ∧ Below w.heap.size w w' := by
 obtain ⟨k, h⟩ := P a0 a1 a2 a3 w0 w1 w2 w3
 refine (madrigallaw22_ResampConstant.calls k a0 a1 a2 a3 true w rfl h).mono ?_
 rintro e w' ⟨rfl, hd⟩
 exact ⟨rfl, hd⟩

end Go.Proofs.Ytocnpnpedmapbaa.MA
