/- The law ResampOne walked. The code comes to the plain function's answer. No condition. -/
import Derived.Laws.Cover3
import Derived.Laws.Tables
import Derived.Laws.CopyOwn
import Derived.Deep.MidRow
import Derived.Test.YtocnpnpedmapbaaAwake
import Derived.Test.YtocnpnpedmapbaaTabl
namespace Go.Proofs.Ytocnpnpedmapbaa.MA
open Go.RowKit Go.Proofs.YtocnpnpedmapbaaW.PrintWords Go.Proofs.YtocnpnpedmapbaaW.PrintLast Go.Proofs.YtocnpnpedmapbaaW.PrintMore
attribute [local go_sem] max2_int min2_int max_two min_two max_three min_three max_four min_four
set_option linter.unusedVariables false
set_option linter.unusedSimpArgs false
/-! ### madrigallaw22_ResampOne: function 7 -/
theorem calls_of_args {f : FuncId} {args args' : Array Value} {w : World} {Φ : Ending → World → Prop} (h : args = args') (hc : Calls Try.prog f args' w Φ) : Calls Try.prog f args w Φ := by
 subst h
 exact hc
theorem good_known {a b : Int} (h1 : madrigalref10_Known.f a = some true) (h2 : madrigalref10_Known.f b = some true) : resamp_Good.f a b = some true := by
 obtain ⟨s, e1, f1⟩ := Tabl.rate_some a
 obtain ⟨t, e2, f2⟩ := Tabl.rate_some b
 rw [h1] at f1; rw [h2] at f2
 cases Option.some.inj f1
 cases Option.some.inj f2
 exact Tabl.good_of a b e1 e2
mutual
def madrigallaw22_ResampOne.j0 : Nat → Int → Int → Int → Bool → Option (Bool)
 | 0, _, _, _, _ => none
 | k + 1, x0, x1, x2, x34 => if x34 = true then (some true) else (if 16 ≤ 35184372088832 then (if 0 = 0 then (if 80 ≤ 35184372088832 then ((some (List.replicate 80 0 : List Int)).bind fun y275 => (if 0 ≤ x2 then (if x2 < (y275.length : Int) then ((resamp_Sampler_Run.f k x0 x0 (List.replicate 16 0) (y275.set (x2 : Int).toNat x1)).bind fun bt279 => (if bt279.2.1 = 0 then (madrigallaw22_ResampOne.j1 k x1 x2 bt279.1 ((bt279.1.length : Int) != 80)) else (madrigallaw22_ResampOne.j1 k x1 x2 bt279.1 true))) else (none)) else (none))) else (none)) else (some false)) else (none))
def madrigallaw22_ResampOne.j1 : Nat → Int → Int → List Int → Bool → Option (Bool)
 | 0, _, _, _, _ => none
 | k + 1, x1, x2, x10, x60 => if x60 = true then (some false) else (madrigallaw22_ResampOne.l0 k x1 x2 x10 0 0)
def madrigallaw22_ResampOne.l0 : Nat → Int → Int → List Int → Int → Int → Option (Bool)
 | 0, _, _, _, _, _ => none
 | k + 1, x1, x2, x10, x12, x13 => if x13 < (x10.length : Int) then (if 0 ≤ x13 then (if 0 ≤ x12 then (if x12 < (x10.length : Int) then (if (rd x10 x13) > (rd x10 x12) then (madrigallaw22_ResampOne.l0 k x1 x2 x10 x13 (wrap64 (x13 + 1))) else (madrigallaw22_ResampOne.l0 k x1 x2 x10 x12 (wrap64 (x13 + 1)))) else (none)) else (none)) else (none)) else (if x12 = (wrap64 (x2 + 8)) then (if 0 ≤ x12 then (if x12 < (x10.length : Int) then (some (decide ((rd x10 x12) > (wrap64 (Int.tdiv x1 2))))) else (none)) else (none)) else (some false))
end
def madrigallaw22_ResampOne.f (k : Nat) (a0 : Int) (a1 : Int) (a2 : Int) : Option (Bool) := (madrigallaw22_awake.f).bind fun t270 => (if t270 = true then ((madrigalref10_Known.f a0).bind fun t271 => (if t271 = true then (if a1 < 1000 then (madrigallaw22_ResampOne.j0 k a0 a1 a2 true) else (if a1 > 32767 then (madrigallaw22_ResampOne.j0 k a0 a1 a2 true) else (if a2 < 0 then (madrigallaw22_ResampOne.j0 k a0 a1 a2 true) else (madrigallaw22_ResampOne.j0 k a0 a1 a2 (decide (a2 > 40)))))) else (madrigallaw22_ResampOne.j0 k a0 a1 a2 true))) else (some false))
set_option maxHeartbeats 8000000 in
set_option maxRecDepth 100000 in
theorem madrigallaw22_ResampOne.calls (k : Nat) (a0 : Int) (a1 : Int) (a2 : Int) (r : Bool) (w : World) (hrt : r = true) (h : madrigallaw22_ResampOne.f k a0 a1 a2 = some r) :
  Calls Try.prog 7 #[.int .i64 a0, .int .i64 a1, .int .i64 a2] w fun e w' => e = .returned (.bool r) ∧ Below w.heap.size w w' := by
 have HRT := Aside0.mk hrt; clear hrt
 have HB := Aside0.mk (Below.refl w.heap.size w)
 have H : ((madrigallaw22_awake.f).bind fun t270 => (if t270 = true then ((madrigalref10_Known.f a0).bind fun t271 => (if t271 = true then (if a1 < 1000 then (madrigallaw22_ResampOne.j0 k a0 a1 a2 true) else (if a1 > 32767 then (madrigallaw22_ResampOne.j0 k a0 a1 a2 true) else (if a2 < 0 then (madrigallaw22_ResampOne.j0 k a0 a1 a2 true) else (madrigallaw22_ResampOne.j0 k a0 a1 a2 (decide (a2 > 40)))))) else (madrigallaw22_ResampOne.j0 k a0 a1 a2 true))) else (some false))) = some r := h
 clear h; replace H := Option.bind_eq_some_iff.mp H; obtain ⟨t270, A40, H⟩ := H
 replace H : (if t270 = true then ((madrigalref10_Known.f a0).bind fun t271 => (if t271 = true then (if a1 < 1000 then (madrigallaw22_ResampOne.j0 k a0 a1 a2 true) else (if a1 > 32767 then (madrigallaw22_ResampOne.j0 k a0 a1 a2 true) else (if a2 < 0 then (madrigallaw22_ResampOne.j0 k a0 a1 a2 true) else (madrigallaw22_ResampOne.j0 k a0 a1 a2 (decide (a2 > 40)))))) else (madrigallaw22_ResampOne.j0 k a0 a1 a2 true))) else (some false)) = some r := H
 have A4 := Aside0.mk A40; clear A40
 by_cases c5 : t270 = true
 ·
  subst c5
  have H1 : ((madrigalref10_Known.f a0).bind fun t271 => (if t271 = true then (if a1 < 1000 then (madrigallaw22_ResampOne.j0 k a0 a1 a2 true) else (if a1 > 32767 then (madrigallaw22_ResampOne.j0 k a0 a1 a2 true) else (if a2 < 0 then (madrigallaw22_ResampOne.j0 k a0 a1 a2 true) else (madrigallaw22_ResampOne.j0 k a0 a1 a2 (decide (a2 > 40)))))) else (madrigallaw22_ResampOne.j0 k a0 a1 a2 true))) = some r := by rw [if_pos rfl] at H; exact H
  clear H; have H := H1; clear H1; have HC6 := Aside0.mk H; clear H
  go_enter Try.func7, Try.ntmps7
  go_upto_region 3 with (first | (go_at_call 8; (with_reducible refine (madrigallaw22_awake.calls  true _ A4.out).mono ?_); rintro e w7 ⟨rfl, hb⟩; have n0_ := Aside0.mk (below_step (by repeat (with_reducible first | exact HB.out | apply below_alloc | apply pw_below_drewN | apply below_drew1)) hb); clear HB; have HB := n0_; clear n0_; (try clear hb); (try clear hb2); (try clear hk); (try clear hi)))
  repeat (go_quiet (first | (go_at_call 8; (with_reducible refine (madrigallaw22_awake.calls  true _ A4.out).mono ?_); rintro e w7 ⟨rfl, hb⟩; have n0_ := Aside0.mk (below_step (by repeat (with_reducible first | exact HB.out | apply below_alloc | apply pw_below_drewN | apply below_drew1)) hb); clear HB; have HB := n0_; clear n0_; (try clear hb); (try clear hb2); (try clear hk); (try clear hi))); go_upto_region 3 with (first | (go_at_call 8; (with_reducible refine (madrigallaw22_awake.calls  true _ A4.out).mono ?_); rintro e w7 ⟨rfl, hb⟩; have n0_ := Aside0.mk (below_step (by repeat (with_reducible first | exact HB.out | apply below_alloc | apply pw_below_drewN | apply below_drew1)) hb); clear HB; have HB := n0_; clear n0_; (try clear hb); (try clear hb2); (try clear hk); (try clear hi))))
  (try simp only [Act.put, List.setIfInBounds_toArray, List.set_cons_zero, List.set_cons_succ])
  go_cut [34] (fun v34 wc => ∃ (kq : Nat) (x34_5 : Bool), v34 = .bool x34_5 ∧ Aside0 (madrigallaw22_ResampOne.j0 kq a0 a1 a2 x34_5 = some r) ∧ Aside0 (kq ≤ k) ∧ Aside0 (Below w.heap.size w wc) ∧ Aside0 (x34_5 = false → resamp_Good.f a0 a0 = some true))
  case first =>
   have H := HC6.out; clear HC6; replace H := Option.bind_eq_some_iff.mp H; obtain ⟨t271, A80, H⟩ := H
   replace H : (if t271 = true then (if a1 < 1000 then (madrigallaw22_ResampOne.j0 k a0 a1 a2 true) else (if a1 > 32767 then (madrigallaw22_ResampOne.j0 k a0 a1 a2 true) else (if a2 < 0 then (madrigallaw22_ResampOne.j0 k a0 a1 a2 true) else (madrigallaw22_ResampOne.j0 k a0 a1 a2 (decide (a2 > 40)))))) else (madrigallaw22_ResampOne.j0 k a0 a1 a2 true)) = some r := H
   have A8 := Aside0.mk A80; clear A80
   by_cases c9 : t271 = true
   ·
    subst c9
    have H1 : (if a1 < 1000 then (madrigallaw22_ResampOne.j0 k a0 a1 a2 true) else (if a1 > 32767 then (madrigallaw22_ResampOne.j0 k a0 a1 a2 true) else (if a2 < 0 then (madrigallaw22_ResampOne.j0 k a0 a1 a2 true) else (madrigallaw22_ResampOne.j0 k a0 a1 a2 (decide (a2 > 40)))))) = some r := by rw [if_pos rfl] at H; exact H
    clear H; have H := H1; clear H1
    by_cases c10 : a1 < 1000
    ·
     rw [if_pos c10] at H; have c10b0 : decide (a1 < 1000) = true := decide_eq_true c10; clear c10
     (first | rw [c10b0] | (simp only [i64_w, i32_w]; rw [c10b0]) | skip)
     have H' := Aside0.mk H; clear H
     go_wp2_with (first | (go_at_call 12; (with_reducible refine (madrigalref10_Known.calls a0 true _ A8.out).mono ?_); rintro e w' ⟨rfl, ⟨nd, rfl⟩⟩; (try first | exact ⟨rfl, _, World.drewN_drewN _ _ _⟩ | exact ⟨rfl, _, Eq.trans (World.drewN_drewN _ _ _) (congrArg (World.drewN _) (Nat.add_assoc _ _ _))⟩)))
     repeat (go_quiet (first | (go_at_call 12; (with_reducible refine (madrigalref10_Known.calls a0 true _ A8.out).mono ?_); rintro e w' ⟨rfl, ⟨nd, rfl⟩⟩; (try first | exact ⟨rfl, _, World.drewN_drewN _ _ _⟩ | exact ⟨rfl, _, Eq.trans (World.drewN_drewN _ _ _) (congrArg (World.drewN _) (Nat.add_assoc _ _ _))⟩))); try go_wp2_with (first | (go_at_call 12; (with_reducible refine (madrigalref10_Known.calls a0 true _ A8.out).mono ?_); rintro e w' ⟨rfl, ⟨nd, rfl⟩⟩; (try first | exact ⟨rfl, _, World.drewN_drewN _ _ _⟩ | exact ⟨rfl, _, Eq.trans (World.drewN_drewN _ _ _) (congrArg (World.drewN _) (Nat.add_assoc _ _ _))⟩))))
     go_meet
     case rel => exact ⟨_, (true), (by first | rfl | (simp; done) | (simp [*]; done)), H', ⟨by first | omega | exact Nat.le_refl _⟩, ⟨by repeat (with_reducible first | exact HB.out | apply below_alloc | apply pw_below_drewN | apply below_drew1)⟩, ⟨fun h_ => absurd h_ (by decide)⟩⟩
    ·
     rw [if_neg c10] at H; have c10b0 : decide (a1 < 1000) = false := decide_eq_false c10; clear c10
     (first | rw [c10b0] | (simp only [i64_w, i32_w]; rw [c10b0]) | skip)
     by_cases c11 : a1 > 32767
     ·
      rw [if_pos c11] at H; have c11b0 : decide (32767 < a1) = true := decide_eq_true c11; clear c11; have H' := Aside0.mk H; clear H
      go_wp2_with (first | (go_at_call 12; (with_reducible refine (madrigalref10_Known.calls a0 true _ A8.out).mono ?_); rintro e w' ⟨rfl, ⟨nd, rfl⟩⟩; (try first | exact ⟨rfl, _, World.drewN_drewN _ _ _⟩ | exact ⟨rfl, _, Eq.trans (World.drewN_drewN _ _ _) (congrArg (World.drewN _) (Nat.add_assoc _ _ _))⟩)))
      repeat (go_quiet (first | (go_at_call 12; (with_reducible refine (madrigalref10_Known.calls a0 true _ A8.out).mono ?_); rintro e w' ⟨rfl, ⟨nd, rfl⟩⟩; (try first | exact ⟨rfl, _, World.drewN_drewN _ _ _⟩ | exact ⟨rfl, _, Eq.trans (World.drewN_drewN _ _ _) (congrArg (World.drewN _) (Nat.add_assoc _ _ _))⟩))); try go_wp2_with (first | (go_at_call 12; (with_reducible refine (madrigalref10_Known.calls a0 true _ A8.out).mono ?_); rintro e w' ⟨rfl, ⟨nd, rfl⟩⟩; (try first | exact ⟨rfl, _, World.drewN_drewN _ _ _⟩ | exact ⟨rfl, _, Eq.trans (World.drewN_drewN _ _ _) (congrArg (World.drewN _) (Nat.add_assoc _ _ _))⟩))))
      go_meet
      case rel => exact ⟨_, (true), (by first | rfl | (simp; done) | (simp [*]; done)), H', ⟨by first | omega | exact Nat.le_refl _⟩, ⟨by repeat (with_reducible first | exact HB.out | apply below_alloc | apply pw_below_drewN | apply below_drew1)⟩, ⟨fun h_ => absurd h_ (by decide)⟩⟩
     ·
      rw [if_neg c11] at H; have c11b0 : decide (32767 < a1) = false := decide_eq_false c11; clear c11
      by_cases c12 : a2 < 0
      ·
       rw [if_pos c12] at H; have c12b0 : decide (a2 < 0) = true := decide_eq_true c12; clear c12; have H' := Aside0.mk H; clear H
       go_wp2_with (first | (go_at_call 12; (with_reducible refine (madrigalref10_Known.calls a0 true _ A8.out).mono ?_); rintro e w' ⟨rfl, ⟨nd, rfl⟩⟩; (try first | exact ⟨rfl, _, World.drewN_drewN _ _ _⟩ | exact ⟨rfl, _, Eq.trans (World.drewN_drewN _ _ _) (congrArg (World.drewN _) (Nat.add_assoc _ _ _))⟩)))
       repeat (go_quiet (first | (go_at_call 12; (with_reducible refine (madrigalref10_Known.calls a0 true _ A8.out).mono ?_); rintro e w' ⟨rfl, ⟨nd, rfl⟩⟩; (try first | exact ⟨rfl, _, World.drewN_drewN _ _ _⟩ | exact ⟨rfl, _, Eq.trans (World.drewN_drewN _ _ _) (congrArg (World.drewN _) (Nat.add_assoc _ _ _))⟩))); try go_wp2_with (first | (go_at_call 12; (with_reducible refine (madrigalref10_Known.calls a0 true _ A8.out).mono ?_); rintro e w' ⟨rfl, ⟨nd, rfl⟩⟩; (try first | exact ⟨rfl, _, World.drewN_drewN _ _ _⟩ | exact ⟨rfl, _, Eq.trans (World.drewN_drewN _ _ _) (congrArg (World.drewN _) (Nat.add_assoc _ _ _))⟩))))
       go_meet
       case rel => exact ⟨_, (true), (by first | rfl | (simp; done) | (simp [*]; done)), H', ⟨by first | omega | exact Nat.le_refl _⟩, ⟨by repeat (with_reducible first | exact HB.out | apply below_alloc | apply pw_below_drewN | apply below_drew1)⟩, ⟨fun h_ => absurd h_ (by decide)⟩⟩
      ·
       rw [if_neg c12] at H; have c12b0 : decide (a2 < 0) = false := decide_eq_false c12; clear c12; have H' := Aside0.mk H; clear H
       go_wp2_with (first | (go_at_call 12; (with_reducible refine (madrigalref10_Known.calls a0 true _ A8.out).mono ?_); rintro e w' ⟨rfl, ⟨nd, rfl⟩⟩; (try first | exact ⟨rfl, _, World.drewN_drewN _ _ _⟩ | exact ⟨rfl, _, Eq.trans (World.drewN_drewN _ _ _) (congrArg (World.drewN _) (Nat.add_assoc _ _ _))⟩)))
       repeat (go_quiet (first | (go_at_call 12; (with_reducible refine (madrigalref10_Known.calls a0 true _ A8.out).mono ?_); rintro e w' ⟨rfl, ⟨nd, rfl⟩⟩; (try first | exact ⟨rfl, _, World.drewN_drewN _ _ _⟩ | exact ⟨rfl, _, Eq.trans (World.drewN_drewN _ _ _) (congrArg (World.drewN _) (Nat.add_assoc _ _ _))⟩))); try go_wp2_with (first | (go_at_call 12; (with_reducible refine (madrigalref10_Known.calls a0 true _ A8.out).mono ?_); rintro e w' ⟨rfl, ⟨nd, rfl⟩⟩; (try first | exact ⟨rfl, _, World.drewN_drewN _ _ _⟩ | exact ⟨rfl, _, Eq.trans (World.drewN_drewN _ _ _) (congrArg (World.drewN _) (Nat.add_assoc _ _ _))⟩))))
       go_meet
       case rel => exact ⟨_, (decide (a2 > 40)), (by first | rfl | (simp; done) | (simp [*]; done)), H', ⟨by first | omega | exact Nat.le_refl _⟩, ⟨by repeat (with_reducible first | exact HB.out | apply below_alloc | apply pw_below_drewN | apply below_drew1)⟩, ⟨fun _ => good_known A8.out A8.out⟩⟩
   ·
    replace c9 := Bool.eq_false_iff.mpr c9
    subst c9
    have H1 : (madrigallaw22_ResampOne.j0 k a0 a1 a2 true) = some r := by rw [if_neg (show ¬ (false = true) by decide)] at H; exact H
    clear H; have H := H1; clear H1; have H' := Aside0.mk H; clear H
    go_wp2_with (first | (go_at_call 12; (with_reducible refine (madrigalref10_Known.calls a0 false _ A8.out).mono ?_); rintro e w' ⟨rfl, ⟨nd, rfl⟩⟩; (try first | exact ⟨rfl, _, World.drewN_drewN _ _ _⟩ | exact ⟨rfl, _, Eq.trans (World.drewN_drewN _ _ _) (congrArg (World.drewN _) (Nat.add_assoc _ _ _))⟩)))
    repeat (go_quiet (first | (go_at_call 12; (with_reducible refine (madrigalref10_Known.calls a0 false _ A8.out).mono ?_); rintro e w' ⟨rfl, ⟨nd, rfl⟩⟩; (try first | exact ⟨rfl, _, World.drewN_drewN _ _ _⟩ | exact ⟨rfl, _, Eq.trans (World.drewN_drewN _ _ _) (congrArg (World.drewN _) (Nat.add_assoc _ _ _))⟩))); try go_wp2_with (first | (go_at_call 12; (with_reducible refine (madrigalref10_Known.calls a0 false _ A8.out).mono ?_); rintro e w' ⟨rfl, ⟨nd, rfl⟩⟩; (try first | exact ⟨rfl, _, World.drewN_drewN _ _ _⟩ | exact ⟨rfl, _, Eq.trans (World.drewN_drewN _ _ _) (congrArg (World.drewN _) (Nat.add_assoc _ _ _))⟩))))
    go_meet
    case rel => exact ⟨_, (true), (by first | rfl | (simp; done) | (simp [*]; done)), H', ⟨by first | omega | exact Nat.le_refl _⟩, ⟨by repeat (with_reducible first | exact HB.out | apply below_alloc | apply pw_below_drewN | apply below_drew1)⟩, ⟨fun h_ => absurd h_ (by decide)⟩⟩
  case rest =>
   clear HC6; (try clear c1); (try clear p2); (try clear c5); (try clear c7); (try clear c9); (try clear c10); (try clear c10b0); (try clear c10b0z0); (try clear c11); (try clear c11b0); (try clear c11b0z0); (try clear c12); (try clear c12b0); (try clear c12b0z0)
   obtain ⟨kq, x34_5, rfl, HA, HJ5, HB, HGX⟩ := hcut
   cases kq with
   | zero => exact absurd HA.out (by simp [madrigallaw22_ResampOne.j0])
   | succ kj5 =>
    have H := HA.out; clear HA
    simp only [madrigallaw22_ResampOne.j0] at H
    by_cases c13 : x34_5 = true
    ·
     subst c13
     have H1 : (some true) = some r := by rw [if_pos rfl] at H; exact H
     clear H; have H := H1; clear H1
     obtain rfl := Option.some.inj H
     go_wp2
     repeat (go_quiet (fail); try go_wp2)
     go_ret
     exact ⟨by first | rfl | (simp [errW_none, errW_some] <;> rfl) | (simp [*, errW_none, errW_some] <;> rfl), by repeat (with_reducible first | exact HB.out | apply below_alloc | apply pw_below_drewN | apply below_drew1)⟩
    ·
     replace c13 := Bool.eq_false_iff.mpr c13
     subst c13
     have HGD := Aside0.mk (HGX.out rfl); clear HGX
     have H1 : (if 16 ≤ 35184372088832 then (if 0 = 0 then (if 80 ≤ 35184372088832 then ((some (List.replicate 80 0 : List Int)).bind fun y275 => (if 0 ≤ a2 then (if a2 < (y275.length : Int) then ((resamp_Sampler_Run.f kj5 a0 a0 (List.replicate 16 0) (y275.set (a2 : Int).toNat a1)).bind fun bt279 => (if bt279.2.1 = 0 then (madrigallaw22_ResampOne.j1 kj5 a1 a2 bt279.1 ((bt279.1.length : Int) != 80)) else (madrigallaw22_ResampOne.j1 kj5 a1 a2 bt279.1 true))) else (none)) else (none))) else (none)) else (some false)) else (none)) = some r := by rw [if_neg (show ¬ (false = true) by decide)] at H; exact H
     clear H; have H := H1; clear H1
     by_cases c14 : 16 ≤ 35184372088832; rotate_left
     · rw [if_neg c14] at H; exact absurd H (by simp)
     rw [if_pos c14] at H; have c14b0 := eq_true c14; have c14b1 : decide (16 ≤ 35184372088832) = true := decide_eq_true c14; clear c14
     obtain ⟨y272, hy272⟩ : ∃ y_ : List Int, y_ = (List.replicate 16 0) := ⟨_, rfl⟩
     replace H : (if 0 = 0 then (if 80 ≤ 35184372088832 then ((some (List.replicate 80 0 : List Int)).bind fun y275 => (if 0 ≤ a2 then (if a2 < (y275.length : Int) then ((resamp_Sampler_Run.f kj5 a0 a0 y272 (y275.set (a2 : Int).toNat a1)).bind fun bt279 => (if bt279.2.1 = 0 then (madrigallaw22_ResampOne.j1 kj5 a1 a2 bt279.1 ((bt279.1.length : Int) != 80)) else (madrigallaw22_ResampOne.j1 kj5 a1 a2 bt279.1 true))) else (none)) else (none))) else (none)) else (some false)) = some r := by first | (rw [hy272]; with_reducible exact H) | (have H2_ := (Option.bind_some _ _).symm.trans H; rw [hy272]; with_reducible exact H2_) | (have H2_ := (Option.bind_some _ _).symm.trans H; with_reducible exact H2_) | with_reducible exact H | (rw [hy272]; exact H) | exact H
     have Ny272 := Aside0.mk hy272; clear hy272
     by_cases c15 : 0 = 0
     ·
      rw [if_pos c15] at H; have c15b0 : (0 == 0) = true := beq_iff_eq.mpr c15; have c15b1 : (0 != 0) = false := bne_eq_false_iff_eq.mpr c15; clear c15
      by_cases c16 : 80 ≤ 35184372088832; rotate_left
      · rw [if_neg c16] at H; exact absurd H (by simp)
      rw [if_pos c16] at H; have c16b0 := eq_true c16; have c16b1 : decide (80 ≤ 35184372088832) = true := decide_eq_true c16; clear c16
      obtain ⟨y275, hy275⟩ : ∃ y_ : List Int, y_ = (List.replicate 80 0) := ⟨_, rfl⟩
      replace H : (if 0 ≤ a2 then (if a2 < (y275.length : Int) then ((resamp_Sampler_Run.f kj5 a0 a0 y272 (y275.set (a2 : Int).toNat a1)).bind fun bt279 => (if bt279.2.1 = 0 then (madrigallaw22_ResampOne.j1 kj5 a1 a2 bt279.1 ((bt279.1.length : Int) != 80)) else (madrigallaw22_ResampOne.j1 kj5 a1 a2 bt279.1 true))) else (none)) else (none)) = some r := by first | (rw [hy275]; with_reducible exact H) | (have H2_ := (Option.bind_some _ _).symm.trans H; rw [hy275]; with_reducible exact H2_) | (have H2_ := (Option.bind_some _ _).symm.trans H; with_reducible exact H2_) | with_reducible exact H | (rw [hy275]; exact H) | exact H
      have Ny275 := Aside0.mk hy275; clear hy275
      by_cases c17 : 0 ≤ a2; rotate_left
      · rw [if_neg c17] at H; exact absurd H (by simp)
      rw [if_pos c17] at H; have c17b0 : decide (0 ≤ a2) = true := decide_eq_true c17; clear c17
      by_cases c18 : a2 < (y275.length : Int); rotate_left
      · rw [if_neg c18] at H; exact absurd H (by simp)
      rw [if_pos c18] at H; have c18b0 : decide (a2 < (y275.length : Int)) = true := decide_eq_true c18; clear c18
      obtain ⟨y278, hy278⟩ : ∃ y_ : List Int, y_ = (y275.set (a2 : Int).toNat a1) := ⟨_, rfl⟩
      replace H : ((resamp_Sampler_Run.f kj5 a0 a0 y272 y278).bind fun bt279 => (if bt279.2.1 = 0 then (madrigallaw22_ResampOne.j1 kj5 a1 a2 bt279.1 ((bt279.1.length : Int) != 80)) else (madrigallaw22_ResampOne.j1 kj5 a1 a2 bt279.1 true))) = some r := by first | (rw [hy278]; with_reducible exact H) | (have H2_ := (Option.bind_some _ _).symm.trans H; rw [hy278]; with_reducible exact H2_) | (have H2_ := (Option.bind_some _ _).symm.trans H; with_reducible exact H2_) | with_reducible exact H | (rw [hy278]; exact H) | exact H
      have Ny278 := Aside0.mk hy278; clear hy278; replace H := Option.bind_eq_some_iff.mp H; obtain ⟨⟨t279, t280, t281⟩, A200, H⟩ := H
      replace H : (if t280 = 0 then (madrigallaw22_ResampOne.j1 kj5 a1 a2 t279 ((t279.length : Int) != 80)) else (madrigallaw22_ResampOne.j1 kj5 a1 a2 t279 true)) = some r := H
      have A20 := Aside0.mk A200; clear A200; have HC21 := Aside0.mk H; clear H
      go_upto_region 11 with (first
       | ((with_reducible refine gate_callee (f := 9) rfl ?_); refine goesL_ (some 38) rfl rfl Try.func9 (by kernel_rfl) rfl #[.int .i64 a0, .int .i64 a0] rfl (by (try simp only [List.map_toArray, List.map_cons, List.map_nil]); first | done | rfl) ?_; (with_reducible refine (resamp_New.good a0 a0 _ HGD.out).mono ?_); rintro e w22 ⟨g, rfl, hge, hS, hb⟩; refine ⟨_, rfl, ?_⟩; have e_ : List.replicate 16 (0 : Int) = y272 := Ny272.out.symm; have HS := Aside0.mk (show SAt w22 g a0 a0 y272 from e_ ▸ hS); clear e_; have GE := Aside0.mk (Nat.le_trans HB.out.size hge); have n0_ := Aside0.mk (below_step (by repeat (with_reducible first | exact HB.out | apply below_alloc | apply pw_below_drewN | apply below_drew1)) hb); clear HB; have HB := n0_; clear n0_ hS hge hb)
       | ((with_reducible refine gate_dst (N := 43) rfl ?_); (try (refine gate_guard (by rfl) ?_; dsimp only)); refine Kd.R_make (Kd.int .i64) _ 2 rfl (N := 43) rfl 27 _ _ rfl 80 rfl rfl Try.underlying27 (.int .i64 0) 8 info2 rfl (by decide) (by omega) 0 (ok := fun _ => True) (okp := fun _ => True) rfl (fun _ hk => hk) trivial (by omega) (by omega) (Below.refl _ _) (Nat.le_refl _) ?_; intro v276 w24 ho25 hb hg_ hnew_; clear hg_ hnew_; (first | rw [← Ny275.out] at ho25 | (simp only [Int.reduceToNat] at ho25; rw [← Ny275.out] at ho25)); have n1_ := Aside0.mk (Kd.R_lower (Kd.R_mono (ok' := fun k_ => k_ ≠ g) (Kd.R_bound ho25) (fun k_ hk_ => by have h1_ := hk_.2.1; have h2_ := HS.out.lt; omega)) (below_size (by repeat (with_reducible first | exact HB.out | apply below_alloc | apply pw_below_drewN | apply below_drew1)))); have n2_ := Aside0.mk (below_step (by repeat (with_reducible first | exact HB.out | apply below_alloc | apply pw_below_drewN | apply below_drew1)) hb); have n0_ := Aside0.mk (HS.out.below hb); clear HB HS; have HS := n0_; have HO277 := n1_; have HB := n2_; clear n0_ n1_ n2_; clear hb ho25; have p19 : 0 ≤ (a2 : Int) := of_decide_eq_true (by first | (with_reducible assumption) | assumption); have q19 : (a2 : Int) < ((y275.length : Int) : Int) := of_decide_eq_true (by first | (with_reducible assumption) | assumption); obtain ⟨go19, co19, eo19, gb19, gl19, cl19, HG19⟩ := Kd.R_form HO277.out (by omega); (first | cases eo19 | (injection eo19 with ea_ en_ ec_; (first | subst ea_ | (injection ea_ with ea_; subst ea_)); subst ec_; clear en_)); have GB19 := Aside0.mk gb19; have GG19 := Aside0.mk HG19; clear gb19 gl19 HG19; obtain ⟨hx19_0, hf19_0⟩ := Kd.R_celln 0 HO277.out (a2 : Int) p19 q19; replace p19 := eq_true p19; replace q19 := eq_true q19; have HP26 := Kd.R_putg HO277.out (a2 : Int) a1)
       | ((with_reducible refine gate_store (t := 2) (p := 47) rfl ?_); refine store_event (t := 2) (p := 47) (v := ?vo_w27) (w1 := (w24.setCell ⟨go19, (a2 : Int).toNat, none⟩ (.int .i64 a1))) ?hg ?ho ?hn ?hr ?_; (case ho => rfl); (case hg => rfl); (case hn => rfl); (case hr => first | (go_simp; done) | (go_simp; rfl)); intro w27 hw; have hp_ : Kd.R (Kd.int .i64) 2 w27 w.heap.size (fun k_ => k_ ≠ g) (.slice (some ⟨go19, 0, none⟩) y275.length co19) y278 := (by rw [hw, Ny278.out]; exact HP26.1); clear HP26; have hne_ : go19 ≠ g := HO277.out.1 go19 rfl; have n0_ := Aside0.mk (show SAt w27 g a0 a0 y272 from HS.out.keep (by rw [hw]; exact Below.heap_setCell w24 ⟨go19, (a2 : Int).toNat, none⟩ _ g (fun e_ => hne_ e_.symm))); have n1_ := Aside0.mk (hp_); have n2_ := Aside0.mk ((by rw [hw]; exact below_set (HB.out) GB19.out : Below w.heap.size w w27)); clear HS; clear HO277; clear HB; have HS := n0_; have HO277 := n1_; have HB := n2_; clear n0_ n1_ n2_; clear hw hp_ hne_)
       | ((with_reducible refine gate_callee (f := 10) rfl ?_); refine goesL_ (some 51) rfl rfl Try.func10 (by kernel_rfl) rfl #[.pointer (some ⟨g, 0, none⟩), .slice (some ⟨go19, 0, none⟩) y275.length co19] rfl (by (try simp only [List.map_toArray, List.map_cons, List.map_nil]); first | done | rfl) ?_; refine calls_of_args (args' := #[.pointer (some ⟨g, 0, none⟩), .slice (some ⟨go19, 0, none⟩) y278.length co19]) (by first | (rw [show y278.length = y275.length from (Kd.R_reads' HO277.out).1.symm] <;> rfl) | rfl) ?_; (with_reducible refine (resamp_Sampler_Run.walk kj5 a0 a0 g y272 _ _ y278 t279 t280 t281 _ HS.out ?side3 ?side4 A20.out).mono ?_); (case side3 => repeat (first | exact (Kd.R_reads' HO277.out).2.2 | (with_reducible refine Kd.C_alloc ?_ _) | (with_reducible refine Kd.C_drewN ?_ _) | (with_reducible refine Kd.C_drew ?_))); (case side4 => rw [show y278.length = y275.length from (Kd.R_reads' HO277.out).1.symm]; exact (Kd.R_reads' HO277.out).2.1); rintro e w29 ⟨v282, rfl, ho0, hP⟩; refine ⟨_, rfl, ?_⟩; have n2_ := Aside0.mk (Kd.R_lower ho0 (below_size (by repeat (with_reducible first | exact HB.out | apply below_alloc | apply pw_below_drewN | apply below_drew1)))); have n4_ := Aside0.mk (below_keep HB.out hP.1 GE.out); clear HB; have HO283 := n2_; have HB := n4_; clear n2_ n4_; clear ho0 hP))
      (try simp only [Act.put, List.setIfInBounds_toArray, List.set_cons_zero, List.set_cons_succ])
      go_cut [60] (fun v60 wc => ∃ (kq : Nat) (x60_20 : Bool), v60 = .bool x60_20 ∧ Aside0 (madrigallaw22_ResampOne.j1 kq a1 a2 t279 x60_20 = some r) ∧ Aside0 (kq ≤ kj5) ∧ Aside0 (Kd.R (Kd.int .i64) 2 wc w.heap.size (fun _ => True) v282 t279) ∧ Aside0 (Below w.heap.size w wc))
      case first =>
       have H := HC21.out; clear HC21
       by_cases c30 : t280 = 0
       ·
        rw [if_pos c30] at H; have c30b0 : (t280 == 0) = true := beq_iff_eq.mpr c30; have c30b1 : (t280 != 0) = false := bne_eq_false_iff_eq.mpr c30; clear c30
        (first | rw [c30b0] | (simp only [i64_w, i32_w]; rw [c30b0]) | skip)
        have H' := Aside0.mk H; clear H
        obtain ⟨Ao31, co31, eo31⟩ := Kd.R_slice HO283.out
        subst eo31
        go_wp2
        repeat (go_quiet (fail); try go_wp2)
        go_meet
        case rel => exact ⟨_, (((t279.length : Int) != 80)), (by first | rfl | (simp; done) | (simp [*]; done)), H', ⟨by have := HJ5.out; first | omega | exact Nat.le_refl _⟩, ⟨by (with_reducible repeat first | apply Kd.R_alloc | apply Kd.R_drewN | apply Kd.R_drew); exact Kd.R_mono HO283.out (fun _ hk => trivial)⟩, ⟨by repeat (with_reducible first | exact HB.out | apply below_alloc | apply pw_below_drewN | apply below_drew1)⟩⟩
       ·
        rw [if_neg c30] at H; have c30b0 : (t280 == 0) = false := beq_eq_false_iff_ne.mpr c30; have c30b1 : (t280 != 0) = true := bne_iff_ne.mpr c30
        (first | rw [c30b0] | (simp only [i64_w, i32_w]; rw [c30b0]) | skip)
        have H' := Aside0.mk H; clear H
        go_wp2
        repeat (go_quiet (fail); try go_wp2)
        go_meet
        case rel => exact ⟨_, (true), (by first | rfl | (simp; done) | (simp [*]; done)), H', ⟨by have := HJ5.out; first | omega | exact Nat.le_refl _⟩, ⟨by (with_reducible repeat first | apply Kd.R_alloc | apply Kd.R_drewN | apply Kd.R_drew); exact Kd.R_mono HO283.out (fun _ hk => trivial)⟩, ⟨by repeat (with_reducible first | exact HB.out | apply below_alloc | apply pw_below_drewN | apply below_drew1)⟩⟩
      case rest =>
       clear HC21; (try clear c1); (try clear p1); (try clear q1); (try clear hx1); (try clear p2); (try clear c3); (try clear c5); (try clear c7); (try clear c9); (try clear c10); (try clear c10b0); (try clear c10b0z0); (try clear c11); (try clear c11b0); (try clear c11b0z0); (try clear c12); (try clear c12b0); (try clear c12b0z0); (try clear c13); (try clear c14); (try clear c14b0); (try clear c14b0z0); (try clear c14b1); (try clear c14b1z0); (try clear c15); (try clear c15b0); (try clear c15b0z0); (try clear c15b1); (try clear c15b1z0); (try clear c16); (try clear c16b0); (try clear c16b0z0); (try clear c16b1); (try clear c16b1z0); (try clear c17); (try clear c17b0); (try clear c17b0z0); (try clear c18); (try clear c18b0); (try clear c18b0z0); (try clear p19); (try clear q19); (try clear hx19); (try clear hf19); (try clear c30); (try clear c30b0); (try clear c30b0z0); (try clear c30b1); (try clear c30b1z0); (try clear hx19_0); (try clear p19); (try clear p2); (try clear q19)
       obtain ⟨kq, x60_20, rfl, HA, HJ20, HO_10, HB⟩ := hcut
       cases kq with
       | zero => exact absurd HA.out (by simp [madrigallaw22_ResampOne.j1])
       | succ kj20 =>
        have H := HA.out; clear HA
        simp only [madrigallaw22_ResampOne.j1] at H
        by_cases c32 : x60_20 = true
        ·
         subst c32
         have H1 : (some false) = some r := by rw [if_pos rfl] at H; exact H
         clear H; have H := H1; clear H1
         exact absurd ((Option.some.inj H).trans HRT.out) (by simp)
        ·
         replace c32 := Bool.eq_false_iff.mpr c32
         subst c32
         have H1 : (madrigallaw22_ResampOne.l0 kj20 a1 a2 t279 0 0) = some r := by rw [if_neg (show ¬ (false = true) by decide)] at H; exact H
         clear H; have H := H1; clear H1; have H' := Aside0.mk H; clear H
         go_wp2
         repeat (go_quiet (fail); try go_wp2)
         go_loopg [12, 13] kj20 (fun kq v12 v13 w' => ∃ (x12_3 : Int) (x13_3 : Int), v12 = .int .i64 x12_3 ∧ v13 = .int .i64 x13_3 ∧ Aside0 (madrigallaw22_ResampOne.l0 kq a1 a2 t279 x12_3 x13_3 = some r) ∧ Aside0 (kq ≤ kj20) ∧ Aside0 (Kd.R (Kd.int .i64) 2 w' w.heap.size (fun _ => True) v282 t279) ∧ Aside0 (Below w.heap.size w w'))
         case atStart => exact ⟨(0), (0), (by first | rfl | (simp; done) | (simp [*]; done)), (by first | rfl | (simp; done) | (simp [*]; done)), H', ⟨Nat.le_refl _⟩, ⟨by (with_reducible repeat first | apply Kd.R_alloc | apply Kd.R_drewN | apply Kd.R_drew); exact HO_10.out⟩, ⟨by repeat (with_reducible first | exact HB.out | apply below_alloc | apply pw_below_drewN | apply below_drew1)⟩⟩
         case round =>
          clear H'
          (try clear c1); (try clear p1); (try clear q1); (try clear hx1); (try clear p2); (try clear c3); (try clear c5); (try clear c7); (try clear c9); (try clear c10); (try clear c10b0); (try clear c10b0z0); (try clear c11); (try clear c11b0); (try clear c11b0z0); (try clear c12); (try clear c12b0); (try clear c12b0z0); (try clear c13); (try clear c14); (try clear c14b0); (try clear c14b0z0); (try clear c14b1); (try clear c14b1z0); (try clear c15); (try clear c15b0); (try clear c15b0z0); (try clear c15b1); (try clear c15b1z0); (try clear c16); (try clear c16b0); (try clear c16b0z0); (try clear c16b1); (try clear c16b1z0); (try clear c17); (try clear c17b0); (try clear c17b0z0); (try clear c18); (try clear c18b0); (try clear c18b0z0); (try clear p19); (try clear q19); (try clear hx19); (try clear hf19); (try clear c30); (try clear c30b0); (try clear c30b0z0); (try clear c30b1); (try clear c30b1z0); (try clear c32); (try clear hx19_0); (try clear p1); (try clear p19); (try clear p2); (try clear q1); (try clear q19)
          obtain ⟨x12_3, x13_3, rfl, rfl, HA, HK3, HO_10, HB⟩ := hrel
          cases gk with
          | zero => exact absurd HA.out (by simp [madrigallaw22_ResampOne.l0])
          | succ k3 =>
           have H := HA.out; clear HA
           simp only [madrigallaw22_ResampOne.l0] at H
           by_cases c33 : x13_3 < (t279.length : Int)
           ·
            rw [if_pos c33] at H; have c33b0 : decide (x13_3 < (t279.length : Int)) = true := decide_eq_true c33; clear c33
            by_cases c34 : 0 ≤ x13_3; rotate_left
            · rw [if_neg c34] at H; exact absurd H (by simp)
            rw [if_pos c34] at H; have c34b0 : decide (0 ≤ x13_3) = true := decide_eq_true c34; clear c34
            by_cases c35 : 0 ≤ x12_3; rotate_left
            · rw [if_neg c35] at H; exact absurd H (by simp)
            rw [if_pos c35] at H; have c35b0 : decide (0 ≤ x12_3) = true := decide_eq_true c35; clear c35
            by_cases c36 : x12_3 < (t279.length : Int); rotate_left
            · rw [if_neg c36] at H; exact absurd H (by simp)
            rw [if_pos c36] at H; have c36b0 : decide (x12_3 < (t279.length : Int)) = true := decide_eq_true c36; clear c36
            by_cases c37 : (rd t279 x13_3) > (rd t279 x12_3)
            ·
             rw [if_pos c37] at H; have c37b0 : decide ((rd t279 x12_3) < (rd t279 x13_3)) = true := decide_eq_true c37; clear c37; have H' := Aside0.mk H; clear H
             obtain ⟨Ao38, co38, eo38⟩ := Kd.R_slice HO_10.out
             subst eo38; have p286 : 0 ≤ (x13_3 : Int) := of_decide_eq_true (by first | (with_reducible assumption) | assumption); have q286 : x13_3 < (t279.length : Int) := of_decide_eq_true (by first | (with_reducible assumption) | assumption)
             obtain ⟨ad286, e286, hx286_0⟩ := Kd.at_int (Kd.R_reads' HO_10.out).2.2 x13_3 p286 q286
             cases e286; replace p286 := eq_true p286; replace q286 := eq_true q286; have p287 : 0 ≤ (x12_3 : Int) := of_decide_eq_true (by first | (with_reducible assumption) | assumption); have q287 : x12_3 < (t279.length : Int) := of_decide_eq_true (by first | (with_reducible assumption) | assumption)
             obtain ⟨ad287, e287, hx287_0⟩ := Kd.at_int (Kd.R_reads' HO_10.out).2.2 x12_3 p287 q287
             obtain rfl : ad286 = ad287 := (by injection e287)
             replace p287 := eq_true p287; replace q287 := eq_true q287
             go_wp2
             repeat (go_quiet (fail); try go_wp2)
             go_roundg k3
             case measure => have := HJ5.out; have := HJ20.out; have := HK3.out; omega
             case rel => exact ⟨(x13_3), (wrap64 (x13_3 + 1)), (by first | rfl | (simp; done) | (simp [*]; done)), (by first | rfl | (simp; done) | (simp [*]; done)), H', ⟨by have := HJ5.out; have := HJ20.out; have := HK3.out; omega⟩, ⟨by (with_reducible repeat first | apply Kd.R_alloc | apply Kd.R_drewN | apply Kd.R_drew); exact HO_10.out⟩, ⟨by repeat (with_reducible first | exact HB.out | apply below_alloc | apply pw_below_drewN | apply below_drew1)⟩⟩
            ·
             rw [if_neg c37] at H; have c37b0 : decide ((rd t279 x12_3) < (rd t279 x13_3)) = false := decide_eq_false c37; clear c37; have H' := Aside0.mk H; clear H
             obtain ⟨Ao39, co39, eo39⟩ := Kd.R_slice HO_10.out
             subst eo39; have p286 : 0 ≤ (x13_3 : Int) := of_decide_eq_true (by first | (with_reducible assumption) | assumption); have q286 : x13_3 < (t279.length : Int) := of_decide_eq_true (by first | (with_reducible assumption) | assumption)
             obtain ⟨ad286, e286, hx286_0⟩ := Kd.at_int (Kd.R_reads' HO_10.out).2.2 x13_3 p286 q286
             cases e286; replace p286 := eq_true p286; replace q286 := eq_true q286; have p287 : 0 ≤ (x12_3 : Int) := of_decide_eq_true (by first | (with_reducible assumption) | assumption); have q287 : x12_3 < (t279.length : Int) := of_decide_eq_true (by first | (with_reducible assumption) | assumption)
             obtain ⟨ad287, e287, hx287_0⟩ := Kd.at_int (Kd.R_reads' HO_10.out).2.2 x12_3 p287 q287
             obtain rfl : ad286 = ad287 := (by injection e287)
             replace p287 := eq_true p287; replace q287 := eq_true q287
             go_wp2
             repeat (go_quiet (fail); try go_wp2)
             go_roundg k3
             case measure => have := HJ5.out; have := HJ20.out; have := HK3.out; omega
             case rel => exact ⟨(x12_3), (wrap64 (x13_3 + 1)), (by first | rfl | (simp; done) | (simp [*]; done)), (by first | rfl | (simp; done) | (simp [*]; done)), H', ⟨by have := HJ5.out; have := HJ20.out; have := HK3.out; omega⟩, ⟨by (with_reducible repeat first | apply Kd.R_alloc | apply Kd.R_drewN | apply Kd.R_drew); exact HO_10.out⟩, ⟨by repeat (with_reducible first | exact HB.out | apply below_alloc | apply pw_below_drewN | apply below_drew1)⟩⟩
           ·
            rw [if_neg c33] at H; have c33b0 : decide (x13_3 < (t279.length : Int)) = false := decide_eq_false c33; clear c33
            by_cases c40 : x12_3 = (wrap64 (a2 + 8))
            ·
             rw [if_pos c40] at H; have c40b0 : (x12_3 == (wrap64 (a2 + 8))) = true := beq_iff_eq.mpr c40; have c40b1 : (x12_3 != (wrap64 (a2 + 8))) = false := bne_eq_false_iff_eq.mpr c40; clear c40
             by_cases c41 : 0 ≤ x12_3; rotate_left
             · rw [if_neg c41] at H; exact absurd H (by simp)
             rw [if_pos c41] at H; have c41b0 : decide (0 ≤ x12_3) = true := decide_eq_true c41; clear c41
             by_cases c42 : x12_3 < (t279.length : Int); rotate_left
             · rw [if_neg c42] at H; exact absurd H (by simp)
             rw [if_pos c42] at H; have c42b0 : decide (x12_3 < (t279.length : Int)) = true := decide_eq_true c42; clear c42
             obtain rfl := Option.some.inj H
             obtain ⟨Ao43, co43, eo43⟩ := Kd.R_slice HO_10.out
             subst eo43; have p288 : 0 ≤ (x12_3 : Int) := of_decide_eq_true (by first | (with_reducible assumption) | assumption); have q288 : x12_3 < (t279.length : Int) := of_decide_eq_true (by first | (with_reducible assumption) | assumption)
             obtain ⟨ad288, e288, hx288_0⟩ := Kd.at_int (Kd.R_reads' HO_10.out).2.2 x12_3 p288 q288
             cases e288; replace p288 := eq_true p288; replace q288 := eq_true q288
             go_wp2
             repeat (go_quiet (fail); try go_wp2)
             go_ret
             exact ⟨by first | rfl | (simp [errW_none, errW_some] <;> rfl) | (simp [*, errW_none, errW_some] <;> rfl), by repeat (with_reducible first | exact HB.out | apply below_alloc | apply pw_below_drewN | apply below_drew1)⟩
            ·
             rw [if_neg c40] at H; have c40b0 : (x12_3 == (wrap64 (a2 + 8))) = false := beq_eq_false_iff_ne.mpr c40; have c40b1 : (x12_3 != (wrap64 (a2 + 8))) = true := bne_iff_ne.mpr c40
             exact absurd ((Option.some.inj H).trans HRT.out) (by simp)
     ·
      rw [if_neg c15] at H; have c15b0 : (0 == 0) = false := beq_eq_false_iff_ne.mpr c15; have c15b1 : (0 != 0) = true := bne_iff_ne.mpr c15
      exact absurd ((Option.some.inj H).trans HRT.out) (by simp)
 ·
  replace c5 := Bool.eq_false_iff.mpr c5
  subst c5
  have H1 : (some false) = some r := by rw [if_neg (show ¬ (false = true) by decide)] at H; exact H
  clear H; have H := H1; clear H1
  exact absurd ((Option.some.inj H).trans HRT.out) (by simp)

/-- THE ONE PURE STATEMENT of madrigallaw22_ResampOne: yours. -/
def madrigallaw22_ResampOne.Pure : Prop := ∀ (a0 : Int) (a1 : Int) (a2 : Int), (Lit.int .i64 a0).wf = true → (Lit.int .i64 a1).wf = true → (Lit.int .i64 a2).wf = true → ∃ k, madrigallaw22_ResampOne.f k a0 a1 a2 = some true
theorem madrigallaw22_ResampOne.walk (P : madrigallaw22_ResampOne.Pure) (a0 : Int) (a1 : Int) (a2 : Int) (w : World) (w0 : (Lit.int .i64 a0).wf = true) (w1 : (Lit.int .i64 a1).wf = true) (w2 : (Lit.int .i64 a2).wf = true) :
  Calls Try.prog 7 #[.int .i64 a0, .int .i64 a1, .int .i64 a2] w fun e w' => e = .returned (.bool true) ∧ Below w.heap.size w w' := by
 obtain ⟨k, h⟩ := P a0 a1 a2 w0 w1 w2
 refine (madrigallaw22_ResampOne.calls k a0 a1 a2 true w rfl h).mono ?_
 rintro e w' ⟨rfl, hd⟩
 exact ⟨rfl, hd⟩

end Go.Proofs.Ytocnpnpedmapbaa.MA
