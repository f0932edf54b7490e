/- Functions of the program as plain Lean functions, and that the code comes to their answers. No condition. -/
import Derived.Test.YtnliianjljgcbaaMAx0
import Derived.Test.YtnliianjljgcbaaMAx1
import Derived.Test.YtnliianjljgcbaaMAx2
import Derived.Test.YtnliianjljgcbaaMAx3
import Derived.Test.YtnliianjljgcbaaMAx4
import Derived.Test.YtnliianjljgcbaaMAx5
import Derived.Test.YtnliianjljgcbaaMAx6
import Derived.Test.YtnliianjljgcbaaMAx7
import Derived.Test.YtnliianjljgcbaaMAx8
import Derived.Test.YtnliianjljgcbaaMAx9
namespace Go.Proofs.Ytnliianjljgcbaa.MA
open Go.RowKit Go.Proofs.YtnliianjljgcbaaW.PrintWords Go.Proofs.YtnliianjljgcbaaW.PrintLast Go.Proofs.YtnliianjljgcbaaW.PrintMore
attribute [local go_sem] max2_int min2_int max_two min_two max_three min_three max_four min_four
set_option linter.unusedVariables false
set_option linter.unusedSimpArgs false

/-! ### madrigallaw15_MdctSays: function 4 -/
mutual
def madrigallaw15_MdctSays.j0 : Nat → List Int → List Int → Int → Bool → Option (Bool)
 | 0, _, _, _, _ => none
 | k + 1, x0, x1, x2, x23 => if x23 = true then (some true) else (if ((x0.length : Int) % 2) = 0 then ((madrigalref10_GoodBlock.f (wrap64 ((x0.length : Int) / 2)) x2).bind fun t326 => (madrigallaw15_MdctSays.j1 k x0 x1 x2 (wrap64 ((x0.length : Int) / 2)) t326)) else (madrigallaw15_MdctSays.j1 k x0 x1 x2 (wrap64 ((x0.length : Int) / 2)) false))
def madrigallaw15_MdctSays.j1 : Nat → List Int → List Int → Int → Int → Bool → Option (Bool)
 | 0, _, _, _, _, _ => none
 | k + 1, x0, x1, x2, x7, x8 => (some (([] : List Int) : List Int)).bind fun y327 => (if y327.length + x0.length < 17592186044416 then ((mdct_Forward.f k (y327 ++ x0) x2).bind fun bt333 => ((mdct_Shape.f k x7 x2).bind fun bt337 => ((mdct_Good.f x7 x2).bind fun t341 => ((madrigalref10_GoodBlock.f x7 x2).bind fun t342 => (if (t341 != t342) = true then (madrigallaw15_MdctSays.j2 k x0 x1 x2 x8 bt333.1 bt333.2 true) else ((madrigalref10_GoodBlock.f x7 x2).bind fun t343 => (if ((bt337.2 == 0) != t343) = true then (madrigallaw15_MdctSays.j2 k x0 x1 x2 x8 bt333.1 bt333.2 true) else (if bt337.2 = 0 then ((madrigalref10_Shape.f k x7 x2).bind fun t344 => ((madrigallaw15_same.f k bt337.1 t344).bind fun t347 => (madrigallaw15_MdctSays.j2 k x0 x1 x2 x8 bt333.1 bt333.2 (!t347)))) else (madrigallaw15_MdctSays.j2 k x0 x1 x2 x8 bt333.1 bt333.2 false))))))))) else (none))
def madrigallaw15_MdctSays.j2 : Nat → List Int → List Int → Int → Bool → List Int → Int → Bool → Option (Bool)
 | 0, _, _, _, _, _, _, _ => none
 | k + 1, x0, x1, x2, x8, x9, x10, x76 => if x76 = true then (some false) else (if x8 = true then (if x10 = 0 then ((madrigalref10_Forward.f k x0 x2).bind fun t348 => ((madrigallaw15_same.f k x9 t348).bind fun t351 => (if t351 = true then (madrigallaw15_MdctSays.j3 k x1 x2) else (some false)))) else (some false)) else (if x10 = 1 then (if (x9.length : Int) = 0 then (madrigallaw15_MdctSays.j3 k x1 x2) else (some false)) else (some false)))
def madrigallaw15_MdctSays.j3 : Nat → List Int → Int → Option (Bool)
 | 0, _, _ => none
 | k + 1, x1, x2 => (some (([] : List Int) : List Int)).bind fun y352 => (if y352.length + x1.length < 17592186044416 then ((mdct_Inverse.f k (y352 ++ x1) x2).bind fun bt358 => ((madrigalref10_GoodBlock.f (x1.length : Int) x2).bind fun t362 => (if t362 = true then (if bt358.2 = 0 then ((madrigalref10_Inverse.f k x1 x2).bind fun t363 => ((madrigallaw15_same.f k bt358.1 t363).bind fun t366 => (some t366))) else (some false)) else (if bt358.2 = 1 then (some ((bt358.1.length : Int) == 0)) else (some false))))) else (none))
end
def madrigallaw15_MdctSays.f (k : Nat) (l0 : List Int) (l1 : List Int) (a2 : Int) : Option (Bool) := (madrigallaw15_awake.f).bind fun t325 => (if t325 = true then (if (l0.length : Int) > 320 then (madrigallaw15_MdctSays.j0 k l0 l1 a2 true) else (madrigallaw15_MdctSays.j0 k l0 l1 a2 (decide ((l1.length : Int) > 160)))) else (some false))
set_option maxHeartbeats 8000000 in
set_option maxRecDepth 100000 in
theorem madrigallaw15_MdctSays.calls (k : Nat) (A0 : Option Addr) (c0 : Nat) (l0 : List Int) (A1 : Option Addr) (c1 : Nat) (l1 : List Int) (a2 : Int) (r : Bool) (w : World) (hr0 : Kd.C (Kd.int .i64) w A0 l0.length l0) (hc0 : l0.length ≤ c0) (hr1 : Kd.C (Kd.int .i64) w A1 l1.length l1) (hc1 : l1.length ≤ c1) (hrt : r = true) (h : madrigallaw15_MdctSays.f k l0 l1 a2 = some r) :
  Calls Try.prog 4 #[.slice A0 l0.length c0, .slice A1 l1.length c1, .int .i64 a2] w fun e w' => e = .returned (.bool r) ∧ Below w.heap.size w w' := by
 have HRT := Aside0.mk hrt; clear hrt; have HR0 := Aside0.mk hr0; have HC0 := Aside0.mk hc0; clear hr0 hc0; have HR1 := Aside0.mk hr1; have HC1 := Aside0.mk hc1; clear hr1 hc1
 have HB := Aside0.mk (Below.refl w.heap.size w)
 have H : ((madrigallaw15_awake.f).bind fun t325 => (if t325 = true then (if (l0.length : Int) > 320 then (madrigallaw15_MdctSays.j0 k l0 l1 a2 true) else (madrigallaw15_MdctSays.j0 k l0 l1 a2 (decide ((l1.length : Int) > 160)))) else (some false))) = some r := h
 clear h; replace H := Option.bind_eq_some_iff.mp H; obtain ⟨t325, A40, H⟩ := H
 replace H : (if t325 = true then (if (l0.length : Int) > 320 then (madrigallaw15_MdctSays.j0 k l0 l1 a2 true) else (madrigallaw15_MdctSays.j0 k l0 l1 a2 (decide ((l1.length : Int) > 160)))) else (some false)) = some r := H
 have A4 := Aside0.mk A40; clear A40
 by_cases c5 : t325 = true
 ·
  subst c5
  have H1 : (if (l0.length : Int) > 320 then (madrigallaw15_MdctSays.j0 k l0 l1 a2 true) else (madrigallaw15_MdctSays.j0 k l0 l1 a2 (decide ((l1.length : Int) > 160)))) = some r := by rw [if_pos rfl] at H; exact H
  clear H; have H := H1; clear H1; have HC6 := Aside0.mk H; clear H
  go_enter Try.func4, Try.ntmps4
  go_upto_region 3 with (first | ((with_reducible refine gate_callee (f := 9) rfl ?_); refine goesL_ (some 14) rfl rfl Try.func9 (by kernel_rfl) rfl #[] rfl (by (try simp only [List.map_toArray, List.map_cons, List.map_nil]); first | done | rfl | (simp only [List.length_drop, List.length_take]; rfl)) ?_; (with_reducible refine (madrigallaw15_awake.calls  true _ A4.out).mono ?_); rintro e w7 ⟨rfl, hb⟩; refine ⟨_, rfl, ?_⟩; have n0_ := Aside0.mk (below_step (by repeat (with_reducible first | exact HB.out | apply below_alloc | apply pw_below_drewN | apply below_drew1)) hb); clear HB; have HB := n0_; clear n0_; (try clear hb); (try clear hb2); (try clear hk); (try clear hi)))
  (try simp only [Act.put, List.setIfInBounds_toArray, List.set_cons_zero, List.set_cons_succ])
  go_cut [23] (fun v23 wc => ∃ (kq : Nat) (x23_5 : Bool), v23 = .bool x23_5 ∧ Aside0 (madrigallaw15_MdctSays.j0 kq l0 l1 a2 x23_5 = some r) ∧ Aside0 (kq ≤ k) ∧ Aside0 (Below w.heap.size w wc))
  case first =>
   have H := HC6.out; clear HC6
   by_cases c8 : (l0.length : Int) > 320
   ·
    rw [if_pos c8] at H; have c8b0 : decide (320 < (l0.length : Int)) = true := decide_eq_true c8; have c8b1 : decide (320 < l0.length) = true := decide_eq_true (by omega); clear c8
    (first | rw [c8b0] | (simp only [i64_w, i32_w]; rw [c8b0]) | skip)
    have H' := Aside0.mk H; clear H
    go_wp2
    go_meet
    case rel => exact ⟨_, (true), (by first | rfl | (simp; done) | (simp [*]; done)), H', ⟨by first | omega | exact Nat.le_refl _⟩, ⟨by repeat (with_reducible first | exact HB.out | apply below_alloc | apply pw_below_drewN | apply below_drew1)⟩⟩
   ·
    rw [if_neg c8] at H; have c8b0 : decide (320 < (l0.length : Int)) = false := decide_eq_false c8; have c8b1 : decide (320 < l0.length) = false := decide_eq_false (by omega); clear c8
    (first | rw [c8b0] | (simp only [i64_w, i32_w]; rw [c8b0]) | skip)
    have H' := Aside0.mk H; clear H
    go_wp2
    go_meet
    case rel => exact ⟨_, (decide ((l1.length : Int) > 160)), (by first | rfl | (simp; done) | (simp [*]; done)), H', ⟨by first | omega | exact Nat.le_refl _⟩, ⟨by repeat (with_reducible first | exact HB.out | apply below_alloc | apply pw_below_drewN | apply below_drew1)⟩⟩
  case rest =>
   clear HC6; (try clear c1); (try clear p2); (try clear c4); (try clear c5); (try clear c8); (try clear c8b0); (try clear c8b0z0); (try clear c8b1); (try clear c8b1z0)
   obtain ⟨kq, x23_5, rfl, HA, HJ5, HB⟩ := hcut
   cases kq with
   | zero => exact absurd HA.out (by simp [madrigallaw15_MdctSays.j0])
   | succ kj5 =>
    have H := HA.out; clear HA
    simp only [madrigallaw15_MdctSays.j0] at H
    by_cases c9 : x23_5 = true
    ·
     subst c9
     have H1 : (some true) = some r := by rw [if_pos rfl] at H; exact H
     clear H; have H := H1; clear H1
     obtain rfl := Option.some.inj H
     go_wp2
     go_ret
     exact ⟨by first | rfl | (simp [errW_none, errW_some] <;> rfl) | (simp [*, errW_none, errW_some] <;> rfl), by repeat (with_reducible first | exact HB.out | apply below_alloc | apply pw_below_drewN | apply below_drew1)⟩
    ·
     replace c9 := Bool.eq_false_iff.mpr c9
     subst c9
     have H1 : (if ((l0.length : Int) % 2) = 0 then ((madrigalref10_GoodBlock.f (wrap64 ((l0.length : Int) / 2)) a2).bind fun t326 => (madrigallaw15_MdctSays.j1 kj5 l0 l1 a2 (wrap64 ((l0.length : Int) / 2)) t326)) else (madrigallaw15_MdctSays.j1 kj5 l0 l1 a2 (wrap64 ((l0.length : Int) / 2)) false)) = some r := by rw [if_neg (show ¬ (false = true) by decide)] at H; exact H
     clear H; have H := H1; clear H1; have HC10 := Aside0.mk H; clear H
     go_upto_region 6 with (fail)
     go_cut [8] (fun v8 wc => ∃ (kq : Nat) (x8_9 : Bool), v8 = .bool x8_9 ∧ Aside0 (madrigallaw15_MdctSays.j1 kq l0 l1 a2 (wrap64 ((l0.length : Int) / 2)) x8_9 = some r) ∧ Aside0 (kq ≤ kj5) ∧ Aside0 (Below w.heap.size w wc))
     case first =>
      have H := HC10.out; clear HC10
      by_cases c11 : ((l0.length : Int) % 2) = 0
      ·
       rw [if_pos c11] at H; have c11b0 : (((l0.length : Int) % 2) == 0) = true := beq_iff_eq.mpr c11; have c11b1 : (((l0.length : Int) % 2) != 0) = false := bne_eq_false_iff_eq.mpr c11; clear c11
       (first | rw [c11b0] | (simp only [i64_w, i32_w]; rw [c11b0]) | skip)
       replace H := Option.bind_eq_some_iff.mp H; obtain ⟨t326, A120, H⟩ := H
       replace H : (madrigallaw15_MdctSays.j1 kj5 l0 l1 a2 (wrap64 ((l0.length : Int) / 2)) t326) = some r := H
       have A12 := Aside0.mk A120; clear A120; have H' := Aside0.mk H; clear H
       go_wp2_with (first | (go_at_call 15; (with_reducible refine (madrigalref10_GoodBlock.calls (wrap64 ((l0.length : Int) / 2)) a2 t326 _ A12.out).mono ?_); rintro e w' ⟨rfl, ⟨nd, rfl⟩⟩))
       go_meet
       case rel => exact ⟨_, (t326), (by first | rfl | (simp; done) | (simp [*]; done)), H', ⟨by have := HJ5.out; first | omega | exact Nat.le_refl _⟩, ⟨by repeat (with_reducible first | exact HB.out | apply below_alloc | apply pw_below_drewN | apply below_drew1)⟩⟩
      ·
       rw [if_neg c11] at H; have c11b0 : (((l0.length : Int) % 2) == 0) = false := beq_eq_false_iff_ne.mpr c11; have c11b1 : (((l0.length : Int) % 2) != 0) = true := bne_iff_ne.mpr c11
       (first | rw [c11b0] | (simp only [i64_w, i32_w]; rw [c11b0]) | skip)
       have H' := Aside0.mk H; clear H
       go_wp2
       go_meet
       case rel => exact ⟨_, (false), (by first | rfl | (simp; done) | (simp [*]; done)), H', ⟨by have := HJ5.out; first | omega | exact Nat.le_refl _⟩, ⟨by repeat (with_reducible first | exact HB.out | apply below_alloc | apply pw_below_drewN | apply below_drew1)⟩⟩
     case rest =>
      clear HC10; (try clear c1); (try clear p2); (try clear c4); (try clear c5); (try clear p6); (try clear c8); (try clear c8b0); (try clear c8b0z0); (try clear c8b1); (try clear c8b1z0); (try clear c9); (try clear c11); (try clear c11b0); (try clear c11b0z0); (try clear c11b1); (try clear c11b1z0); (try clear p2)
      obtain ⟨kq, x8_9, rfl, HA, HJ9, HB⟩ := hcut
      cases kq with
      | zero => exact absurd HA.out (by simp [madrigallaw15_MdctSays.j1])
      | succ kj9 =>
       have H := HA.out; clear HA
       simp only [madrigallaw15_MdctSays.j1] at H
       obtain ⟨y327, hy327⟩ : ∃ y_ : List Int, y_ = (([] : List Int)) := ⟨_, rfl⟩
       replace H : (if y327.length + l0.length < 17592186044416 then ((mdct_Forward.f kj9 (y327 ++ l0) a2).bind fun bt333 => ((mdct_Shape.f kj9 (wrap64 ((l0.length : Int) / 2)) a2).bind fun bt337 => ((mdct_Good.f (wrap64 ((l0.length : Int) / 2)) a2).bind fun t341 => ((madrigalref10_GoodBlock.f (wrap64 ((l0.length : Int) / 2)) a2).bind fun t342 => (if (t341 != t342) = true then (madrigallaw15_MdctSays.j2 kj9 l0 l1 a2 x8_9 bt333.1 bt333.2 true) else ((madrigalref10_GoodBlock.f (wrap64 ((l0.length : Int) / 2)) a2).bind fun t343 => (if ((bt337.2 == 0) != t343) = true then (madrigallaw15_MdctSays.j2 kj9 l0 l1 a2 x8_9 bt333.1 bt333.2 true) else (if bt337.2 = 0 then ((madrigalref10_Shape.f kj9 (wrap64 ((l0.length : Int) / 2)) a2).bind fun t344 => ((madrigallaw15_same.f kj9 bt337.1 t344).bind fun t347 => (madrigallaw15_MdctSays.j2 kj9 l0 l1 a2 x8_9 bt333.1 bt333.2 (!t347)))) else (madrigallaw15_MdctSays.j2 kj9 l0 l1 a2 x8_9 bt333.1 bt333.2 false))))))))) else (none)) = some r := by first | (rw [hy327]; with_reducible exact H) | (have H2_ := (Option.bind_some _ _).symm.trans H; rw [hy327]; with_reducible exact H2_) | (have H2_ := (Option.bind_some _ _).symm.trans H; with_reducible exact H2_) | with_reducible exact H | (rw [hy327]; exact H) | exact H
       have Ny327 := Aside0.mk hy327; clear hy327
       by_cases c13 : y327.length + l0.length < 17592186044416; rotate_left
       · rw [if_neg c13] at H; exact absurd H (by simp)
       rw [if_pos c13] at H; have LMc13 := Aside0.mk c13; clear c13
       obtain ⟨y330, hy330⟩ : ∃ y_ : List Int, y_ = (y327 ++ l0) := ⟨_, rfl⟩
       replace H : ((mdct_Forward.f kj9 y330 a2).bind fun bt333 => ((mdct_Shape.f kj9 (wrap64 ((l0.length : Int) / 2)) a2).bind fun bt337 => ((mdct_Good.f (wrap64 ((l0.length : Int) / 2)) a2).bind fun t341 => ((madrigalref10_GoodBlock.f (wrap64 ((l0.length : Int) / 2)) a2).bind fun t342 => (if (t341 != t342) = true then (madrigallaw15_MdctSays.j2 kj9 l0 l1 a2 x8_9 bt333.1 bt333.2 true) else ((madrigalref10_GoodBlock.f (wrap64 ((l0.length : Int) / 2)) a2).bind fun t343 => (if ((bt337.2 == 0) != t343) = true then (madrigallaw15_MdctSays.j2 kj9 l0 l1 a2 x8_9 bt333.1 bt333.2 true) else (if bt337.2 = 0 then ((madrigalref10_Shape.f kj9 (wrap64 ((l0.length : Int) / 2)) a2).bind fun t344 => ((madrigallaw15_same.f kj9 bt337.1 t344).bind fun t347 => (madrigallaw15_MdctSays.j2 kj9 l0 l1 a2 x8_9 bt333.1 bt333.2 (!t347)))) else (madrigallaw15_MdctSays.j2 kj9 l0 l1 a2 x8_9 bt333.1 bt333.2 false))))))))) = some r := by first | (rw [hy330]; with_reducible exact H) | (have H2_ := (Option.bind_some _ _).symm.trans H; rw [hy330]; with_reducible exact H2_) | (have H2_ := (Option.bind_some _ _).symm.trans H; with_reducible exact H2_) | with_reducible exact H | (rw [hy330]; exact H) | exact H
       have Ny330 := Aside0.mk hy330; clear hy330; replace H := Option.bind_eq_some_iff.mp H; obtain ⟨⟨t333, t334⟩, A140, H⟩ := H
       replace H : ((mdct_Shape.f kj9 (wrap64 ((l0.length : Int) / 2)) a2).bind fun bt337 => ((mdct_Good.f (wrap64 ((l0.length : Int) / 2)) a2).bind fun t341 => ((madrigalref10_GoodBlock.f (wrap64 ((l0.length : Int) / 2)) a2).bind fun t342 => (if (t341 != t342) = true then (madrigallaw15_MdctSays.j2 kj9 l0 l1 a2 x8_9 t333 t334 true) else ((madrigalref10_GoodBlock.f (wrap64 ((l0.length : Int) / 2)) a2).bind fun t343 => (if ((bt337.2 == 0) != t343) = true then (madrigallaw15_MdctSays.j2 kj9 l0 l1 a2 x8_9 t333 t334 true) else (if bt337.2 = 0 then ((madrigalref10_Shape.f kj9 (wrap64 ((l0.length : Int) / 2)) a2).bind fun t344 => ((madrigallaw15_same.f kj9 bt337.1 t344).bind fun t347 => (madrigallaw15_MdctSays.j2 kj9 l0 l1 a2 x8_9 t333 t334 (!t347)))) else (madrigallaw15_MdctSays.j2 kj9 l0 l1 a2 x8_9 t333 t334 false)))))))) = some r := H
       have A14 := Aside0.mk A140; clear A140; replace H := Option.bind_eq_some_iff.mp H; obtain ⟨⟨t337, t338⟩, A150, H⟩ := H
       replace H : ((mdct_Good.f (wrap64 ((l0.length : Int) / 2)) a2).bind fun t341 => ((madrigalref10_GoodBlock.f (wrap64 ((l0.length : Int) / 2)) a2).bind fun t342 => (if (t341 != t342) = true then (madrigallaw15_MdctSays.j2 kj9 l0 l1 a2 x8_9 t333 t334 true) else ((madrigalref10_GoodBlock.f (wrap64 ((l0.length : Int) / 2)) a2).bind fun t343 => (if ((t338 == 0) != t343) = true then (madrigallaw15_MdctSays.j2 kj9 l0 l1 a2 x8_9 t333 t334 true) else (if t338 = 0 then ((madrigalref10_Shape.f kj9 (wrap64 ((l0.length : Int) / 2)) a2).bind fun t344 => ((madrigallaw15_same.f kj9 t337 t344).bind fun t347 => (madrigallaw15_MdctSays.j2 kj9 l0 l1 a2 x8_9 t333 t334 (!t347)))) else (madrigallaw15_MdctSays.j2 kj9 l0 l1 a2 x8_9 t333 t334 false))))))) = some r := H
       have A15 := Aside0.mk A150; clear A150; have HC16 := Aside0.mk H; clear H
       go_upto_region 9 with (first | ((with_reducible refine gate_dst (N := 37) rfl ?_); (try (refine gate_guard (by rfl) ?_; dsimp only)); refine Kd.R_lit (Kd.int .i64) _ 2 ?hg (N := 37) ?hd (xs := ([] : List Int)) (inner := []) (ok := fun _ => True) (okp := fun _ => True) ?hr ?hp (fun _ hk => hk) trivial (Below.refl _ _) (Nat.le_refl _) (by simp) ?_; (case hd => rfl); (case hg => rfl); (case hr => first | (go_simp; done) | (go_simp; rfl)); (case hp => exact (Reps.none _ _)); intro v328 w17 ho18 hb hg_ hnew_; clear hg_ hnew_; (first | rw [← Ny327.out] at ho18 | (simp only [Int.reduceToNat] at ho18; rw [← Ny327.out] at ho18)); have n0_ := Aside0.mk (Kd.R_lower ho18 (below_size (by repeat (with_reducible first | exact HB.out | apply below_alloc | apply pw_below_drewN | apply below_drew1)))); have n1_ := Aside0.mk (below_step (by repeat (with_reducible first | exact HB.out | apply below_alloc | apply pw_below_drewN | apply below_drew1)) hb); clear HB; have HO329 := n0_; have HB := n1_; clear n0_ n1_; clear hb ho18) | ((with_reducible refine gate_builtin (b := .append) (xs := #[.tmp 37, .tmp 38]) rfl ?_); (try (refine gate_guard (by rfl) ?_; dsimp only)); at_builtin; refine Kd.R_append_rows (Kd.int .i64) (w0 := w) w.heap.size rfl (.tmp 37) (.tmp 38) 23 2 (.int .i64 0) 8 rfl Try.underlying23 info2 rfl (by decide) (by omega) v328 y327 l0 _ _ _ (fun _ => True) (fun _ => False) rfl rfl ?aO ?aR (fun _ _ h => h) (fun _ h => h.elim) ?aF ?aB ?aS ?aL ?_; (case aR => repeat (first | exact (Kd.C_below HR0.out HB.out) | (with_reducible refine Kd.C_alloc ?_ _) | (with_reducible refine Kd.C_drewN ?_ _) | (with_reducible refine Kd.C_drew ?_))); (case aB => exact (by repeat (with_reducible first | exact HB.out | apply below_alloc | apply pw_below_drewN | apply below_drew1))); (case aF => exact (fun _ _ => trivial)); (case aO => exact (by (with_reducible repeat first | apply Kd.R_alloc | apply Kd.R_drewN | apply Kd.R_drew); exact HO329.out)); (case aS => exact (below_size (by repeat (with_reducible first | exact HB.out | apply below_alloc | apply pw_below_drewN | apply below_drew1)))); (case aL => have := LMc13.out; omega); intro v331 w19 ho hb hg hat; rw [← Ny330.out] at ho; have n0_ := Aside0.mk (hb); have n1_ := Aside0.mk (ho); clear HB; clear HO329; have HB := n0_; have HO332 := n1_; clear n0_ n1_; clear ho hb hg hat; obtain ⟨Ao20, co20, eo20⟩ := Kd.R_slice HO332.out; subst eo20) | ((with_reducible refine gate_callee (f := 11) rfl ?_); refine goesL_ (some 41) rfl rfl Try.func11 (by kernel_rfl) rfl #[.slice Ao20 y330.length co20, .int .i64 a2] rfl (by (try simp only [List.map_toArray, List.map_cons, List.map_nil]); first | done | rfl | (simp only [List.length_drop, List.length_take]; rfl)) ?_; (with_reducible refine (mdct_Forward.calls kj9 _ _ y330 a2 t333 t334 _ ?side1 ?side2 A14.out).mono ?_); (case side1 => repeat (first | exact (Kd.R_reads' HO332.out).2.2 | (with_reducible refine Kd.C_alloc ?_ _) | (with_reducible refine Kd.C_drewN ?_ _) | (with_reducible refine Kd.C_drew ?_))); (case side2 => exact (Kd.R_reads' HO332.out).2.1); rintro e w21 ⟨v335, rfl, ho0, hb⟩; refine ⟨_, rfl, ?_⟩; have n0_ := Aside0.mk (Kd.R_elder' (by (with_reducible repeat first | apply Kd.R_alloc | apply Kd.R_drewN | apply Kd.R_drew); exact HO332.out) (Kd.R_base ho0) hb); have n1_ := Aside0.mk (Kd.R_lower (Kd.R_new' ho0 (Kd.R_lt (by (with_reducible repeat first | apply Kd.R_alloc | apply Kd.R_drewN | apply Kd.R_drew); exact HO332.out))) (below_size (by repeat (with_reducible first | exact HB.out | apply below_alloc | apply pw_below_drewN | apply below_drew1)))); have n2_ := Aside0.mk (below_step (by repeat (with_reducible first | exact HB.out | apply below_alloc | apply pw_below_drewN | apply below_drew1)) hb); clear HO332; clear HB; have HO332 := n0_; have HO336 := n1_; have HB := n2_; clear n0_ n1_ n2_; (try clear hb); (try clear hb2); (try clear hk); (try clear hi); (try clear ho0)) | ((with_reducible refine gate_callee (f := 10) rfl ?_); refine goesL_ (some 47) rfl rfl Try.func10 (by kernel_rfl) rfl #[.int .i64 (wrap64 ((l0.length : Int) / 2)), .int .i64 a2] rfl (by (try simp only [List.map_toArray, List.map_cons, List.map_nil]); first | done | rfl | (simp only [List.length_drop, List.length_take]; rfl)) ?_; (with_reducible refine (mdct_Shape.calls kj9 (wrap64 ((l0.length : Int) / 2)) a2 t337 t338 _ A15.out).mono ?_); rintro e w22 ⟨v339, rfl, ho0, hb⟩; refine ⟨_, rfl, ?_⟩; have n0_ := Aside0.mk (Kd.R_elder' (by (with_reducible repeat first | apply Kd.R_alloc | apply Kd.R_drewN | apply Kd.R_drew); exact HO332.out) (Kd.R_base ho0) hb); have n1_ := Aside0.mk (Kd.R_elder' (by (with_reducible repeat first | apply Kd.R_alloc | apply Kd.R_drewN | apply Kd.R_drew); exact HO336.out) (Kd.R_base ho0) hb); have n2_ := Aside0.mk (Kd.R_lower (Kd.R_new' (Kd.R_new' ho0 (Kd.R_lt (by (with_reducible repeat first | apply Kd.R_alloc | apply Kd.R_drewN | apply Kd.R_drew); exact HO332.out))) (Kd.R_lt (by (with_reducible repeat first | apply Kd.R_alloc | apply Kd.R_drewN | apply Kd.R_drew); exact HO336.out))) (below_size (by repeat (with_reducible first | exact HB.out | apply below_alloc | apply pw_below_drewN | apply below_drew1)))); have n3_ := Aside0.mk (below_step (by repeat (with_reducible first | exact HB.out | apply below_alloc | apply pw_below_drewN | apply below_drew1)) hb); clear HO332; clear HO336; clear HB; have HO332 := n0_; have HO336 := n1_; have HO340 := n2_; have HB := n3_; clear n0_ n1_ n2_ n3_; (try clear hb); (try clear hb2); (try clear hk); (try clear hi); (try clear ho0)))
       (try simp only [Act.put, List.setIfInBounds_toArray, List.set_cons_zero, List.set_cons_succ])
       go_cut [76] (fun v76 wc => ∃ (kq : Nat) (x76_15 : Bool), v76 = .bool x76_15 ∧ Aside0 (madrigallaw15_MdctSays.j2 kq l0 l1 a2 x8_9 t333 t334 x76_15 = some r) ∧ Aside0 (kq ≤ kj9) ∧ Aside0 (Kd.R (Kd.int .i64) 2 wc w.heap.size (fun _ => True) v335 t333) ∧ Aside0 (Below w.heap.size w wc))
       case first =>
        have H := HC16.out; clear HC16; replace H := Option.bind_eq_some_iff.mp H; obtain ⟨t341, A230, H⟩ := H
        replace H : ((madrigalref10_GoodBlock.f (wrap64 ((l0.length : Int) / 2)) a2).bind fun t342 => (if (t341 != t342) = true then (madrigallaw15_MdctSays.j2 kj9 l0 l1 a2 x8_9 t333 t334 true) else ((madrigalref10_GoodBlock.f (wrap64 ((l0.length : Int) / 2)) a2).bind fun t343 => (if ((t338 == 0) != t343) = true then (madrigallaw15_MdctSays.j2 kj9 l0 l1 a2 x8_9 t333 t334 true) else (if t338 = 0 then ((madrigalref10_Shape.f kj9 (wrap64 ((l0.length : Int) / 2)) a2).bind fun t344 => ((madrigallaw15_same.f kj9 t337 t344).bind fun t347 => (madrigallaw15_MdctSays.j2 kj9 l0 l1 a2 x8_9 t333 t334 (!t347)))) else (madrigallaw15_MdctSays.j2 kj9 l0 l1 a2 x8_9 t333 t334 false)))))) = some r := H
        have A23 := Aside0.mk A230; clear A230; replace H := Option.bind_eq_some_iff.mp H; obtain ⟨t342, A240, H⟩ := H
        replace H : (if (t341 != t342) = true then (madrigallaw15_MdctSays.j2 kj9 l0 l1 a2 x8_9 t333 t334 true) else ((madrigalref10_GoodBlock.f (wrap64 ((l0.length : Int) / 2)) a2).bind fun t343 => (if ((t338 == 0) != t343) = true then (madrigallaw15_MdctSays.j2 kj9 l0 l1 a2 x8_9 t333 t334 true) else (if t338 = 0 then ((madrigalref10_Shape.f kj9 (wrap64 ((l0.length : Int) / 2)) a2).bind fun t344 => ((madrigallaw15_same.f kj9 t337 t344).bind fun t347 => (madrigallaw15_MdctSays.j2 kj9 l0 l1 a2 x8_9 t333 t334 (!t347)))) else (madrigallaw15_MdctSays.j2 kj9 l0 l1 a2 x8_9 t333 t334 false))))) = some r := H
        have A24 := Aside0.mk A240; clear A240
        by_cases c25 : (t341 != t342) = true
        ·
         rw [if_pos c25] at H
         have c25b0 : (t341 != t342) = true := c25
         (try (have c25b1 : decide (t341 = t342) = false := by simpa using c25)); (try (have c25b2 : (t341 == t342) = false := by simpa using c25)); (try (have c25b3 : ¬ (t341 = t342) := by simpa using c25)); clear c25
         (first | rw [c25b0] | (simp only [i64_w, i32_w]; rw [c25b0]) | skip)
         have H' := Aside0.mk H; clear H
         go_wp2_with (first | ((with_reducible refine gate_callee (f := 16) rfl ?_); refine goesL_ (some 52) rfl rfl Try.func16 (by kernel_rfl) rfl #[.int .i64 (wrap64 ((l0.length : Int) / 2)), .int .i64 a2] rfl (by (try simp only [List.map_toArray, List.map_cons, List.map_nil]); first | done | rfl | (simp only [List.length_drop, List.length_take]; rfl)) ?_; (with_reducible refine (mdct_Good.calls (wrap64 ((l0.length : Int) / 2)) a2 t341 _ A23.out).mono ?_); rintro e w' ⟨rfl, ⟨nd, rfl⟩⟩; refine ⟨_, rfl, ?_⟩) | ((with_reducible refine gate_callee (f := 15) rfl ?_); refine goesL_ (some 55) rfl rfl Try.func15 (by kernel_rfl) rfl #[.int .i64 (wrap64 ((l0.length : Int) / 2)), .int .i64 a2] rfl (by (try simp only [List.map_toArray, List.map_cons, List.map_nil]); first | done | rfl | (simp only [List.length_drop, List.length_take]; rfl)) ?_; (with_reducible refine (madrigalref10_GoodBlock.calls (wrap64 ((l0.length : Int) / 2)) a2 t342 _ A24.out).mono ?_); rintro e w' ⟨rfl, ⟨nd, rfl⟩⟩; refine ⟨_, rfl, ?_⟩))
         go_meet
         case rel => exact ⟨_, (true), (by first | rfl | (simp; done) | (simp [*]; done)), H', ⟨by have := HJ5.out; have := HJ9.out; first | omega | exact Nat.le_refl _⟩, ⟨by (with_reducible repeat first | apply Kd.R_alloc | apply Kd.R_drewN | apply Kd.R_drew); exact Kd.R_mono HO336.out (fun _ hk => trivial)⟩, ⟨by repeat (with_reducible first | exact HB.out | apply below_alloc | apply pw_below_drewN | apply below_drew1)⟩⟩
        ·
         rw [if_neg c25] at H
         have c25b0 : (t341 != t342) = false := by simpa using c25
         (try (have c25b1 : decide (t341 = t342) = true := by simpa using c25)); (try (have c25b2 : (t341 == t342) = true := by simpa using c25)); clear c25
         (first | rw [c25b0] | (simp only [i64_w, i32_w]; rw [c25b0]) | skip)
         replace H := Option.bind_eq_some_iff.mp H; obtain ⟨t343, A260, H⟩ := H
         replace H : (if ((t338 == 0) != t343) = true then (madrigallaw15_MdctSays.j2 kj9 l0 l1 a2 x8_9 t333 t334 true) else (if t338 = 0 then ((madrigalref10_Shape.f kj9 (wrap64 ((l0.length : Int) / 2)) a2).bind fun t344 => ((madrigallaw15_same.f kj9 t337 t344).bind fun t347 => (madrigallaw15_MdctSays.j2 kj9 l0 l1 a2 x8_9 t333 t334 (!t347)))) else (madrigallaw15_MdctSays.j2 kj9 l0 l1 a2 x8_9 t333 t334 false))) = some r := H
         have A26 := Aside0.mk A260; clear A260
         by_cases c27 : ((t338 == 0) != t343) = true
         ·
          rw [if_pos c27] at H
          have c27b0 : ((t338 == 0) != t343) = true := c27
          (try (have c27b1 : decide ((t338 == 0) = t343) = false := by simpa using c27)); (try (have c27b2 : ((t338 == 0) == t343) = false := by simpa using c27)); (try (have c27b3 : ¬ ((t338 == 0) = t343) := by simpa using c27)); clear c27; have H' := Aside0.mk H; clear H
          go_wp2_with (first | ((with_reducible refine gate_callee (f := 16) rfl ?_); refine goesL_ (some 52) rfl rfl Try.func16 (by kernel_rfl) rfl #[.int .i64 (wrap64 ((l0.length : Int) / 2)), .int .i64 a2] rfl (by (try simp only [List.map_toArray, List.map_cons, List.map_nil]); first | done | rfl | (simp only [List.length_drop, List.length_take]; rfl)) ?_; (with_reducible refine (mdct_Good.calls (wrap64 ((l0.length : Int) / 2)) a2 t341 _ A23.out).mono ?_); rintro e w' ⟨rfl, ⟨nd, rfl⟩⟩; refine ⟨_, rfl, ?_⟩) | ((with_reducible refine gate_callee (f := 15) rfl ?_); refine goesL_ (some 55) rfl rfl Try.func15 (by kernel_rfl) rfl #[.int .i64 (wrap64 ((l0.length : Int) / 2)), .int .i64 a2] rfl (by (try simp only [List.map_toArray, List.map_cons, List.map_nil]); first | done | rfl | (simp only [List.length_drop, List.length_take]; rfl)) ?_; (with_reducible refine (madrigalref10_GoodBlock.calls (wrap64 ((l0.length : Int) / 2)) a2 t342 _ A24.out).mono ?_); rintro e w' ⟨rfl, ⟨nd, rfl⟩⟩; refine ⟨_, rfl, ?_⟩) | (go_at_call 15; (with_reducible refine (madrigalref10_GoodBlock.calls (wrap64 ((l0.length : Int) / 2)) a2 t343 _ A26.out).mono ?_); rintro e w' ⟨rfl, ⟨nd, rfl⟩⟩))
          go_meet
          case rel => exact ⟨_, (true), (by first | rfl | (simp; done) | (simp [*]; done)), H', ⟨by have := HJ5.out; have := HJ9.out; first | omega | exact Nat.le_refl _⟩, ⟨by (with_reducible repeat first | apply Kd.R_alloc | apply Kd.R_drewN | apply Kd.R_drew); exact Kd.R_mono HO336.out (fun _ hk => trivial)⟩, ⟨by repeat (with_reducible first | exact HB.out | apply below_alloc | apply pw_below_drewN | apply below_drew1)⟩⟩
         ·
          rw [if_neg c27] at H
          have c27b0 : ((t338 == 0) != t343) = false := by simpa using c27
          (try (have c27b1 : decide ((t338 == 0) = t343) = true := by simpa using c27)); (try (have c27b2 : ((t338 == 0) == t343) = true := by simpa using c27)); clear c27
          by_cases c28 : t338 = 0
          ·
           rw [if_pos c28] at H; have c28b0 : (t338 == 0) = true := beq_iff_eq.mpr c28; have c28b1 : (t338 != 0) = false := bne_eq_false_iff_eq.mpr c28; clear c28; replace H := Option.bind_eq_some_iff.mp H; obtain ⟨t344, A290, H⟩ := H
           replace H : ((madrigallaw15_same.f kj9 t337 t344).bind fun t347 => (madrigallaw15_MdctSays.j2 kj9 l0 l1 a2 x8_9 t333 t334 (!t347))) = some r := H
           have A29 := Aside0.mk A290; clear A290; replace H := Option.bind_eq_some_iff.mp H; obtain ⟨t347, A300, H⟩ := H
           replace H : (madrigallaw15_MdctSays.j2 kj9 l0 l1 a2 x8_9 t333 t334 (!t347)) = some r := H
           have A30 := Aside0.mk A300; clear A300; have H' := Aside0.mk H; clear H
           obtain rfl : t343 = true := (eq_of_beq c27b2).symm.trans c28b0 -- ht343
           go_wp2_with (first | ((with_reducible refine gate_callee (f := 16) rfl ?_); refine goesL_ (some 52) rfl rfl Try.func16 (by kernel_rfl) rfl #[.int .i64 (wrap64 ((l0.length : Int) / 2)), .int .i64 a2] rfl (by (try simp only [List.map_toArray, List.map_cons, List.map_nil]); first | done | rfl | (simp only [List.length_drop, List.length_take]; rfl)) ?_; (with_reducible refine (mdct_Good.calls (wrap64 ((l0.length : Int) / 2)) a2 t341 _ A23.out).mono ?_); rintro e w' ⟨rfl, ⟨nd, rfl⟩⟩; refine ⟨_, rfl, ?_⟩) | ((with_reducible refine gate_callee (f := 15) rfl ?_); refine goesL_ (some 55) rfl rfl Try.func15 (by kernel_rfl) rfl #[.int .i64 (wrap64 ((l0.length : Int) / 2)), .int .i64 a2] rfl (by (try simp only [List.map_toArray, List.map_cons, List.map_nil]); first | done | rfl | (simp only [List.length_drop, List.length_take]; rfl)) ?_; (with_reducible refine (madrigalref10_GoodBlock.calls (wrap64 ((l0.length : Int) / 2)) a2 t342 _ A24.out).mono ?_); rintro e w' ⟨rfl, ⟨nd, rfl⟩⟩; refine ⟨_, rfl, ?_⟩) | (go_at_call 15; (with_reducible refine (madrigalref10_GoodBlock.calls (wrap64 ((l0.length : Int) / 2)) a2 true _ A26.out).mono ?_); rintro e w' ⟨rfl, ⟨nd, rfl⟩⟩) | (go_at_call 18; (with_reducible refine (madrigalref10_Shape.calls kj9 (wrap64 ((l0.length : Int) / 2)) a2 t344 _ A29.out).mono ?_); rintro e w31 ⟨v345, rfl, ho0, hb⟩; have n0_ := Aside0.mk (Kd.R_elder' (by (with_reducible repeat first | apply Kd.R_alloc | apply Kd.R_drewN | apply Kd.R_drew); exact HO332.out) (Kd.R_base ho0) hb); have n1_ := Aside0.mk (Kd.R_elder' (by (with_reducible repeat first | apply Kd.R_alloc | apply Kd.R_drewN | apply Kd.R_drew); exact HO336.out) (Kd.R_base ho0) hb); have n2_ := Aside0.mk (Kd.R_elder' (by (with_reducible repeat first | apply Kd.R_alloc | apply Kd.R_drewN | apply Kd.R_drew); exact HO340.out) (Kd.R_base ho0) hb); have n3_ := Aside0.mk (Kd.R_lower (Kd.R_new' (Kd.R_new' (Kd.R_new' ho0 (Kd.R_lt (by (with_reducible repeat first | apply Kd.R_alloc | apply Kd.R_drewN | apply Kd.R_drew); exact HO332.out))) (Kd.R_lt (by (with_reducible repeat first | apply Kd.R_alloc | apply Kd.R_drewN | apply Kd.R_drew); exact HO336.out))) (Kd.R_lt (by (with_reducible repeat first | apply Kd.R_alloc | apply Kd.R_drewN | apply Kd.R_drew); exact HO340.out))) (below_size (by repeat (with_reducible first | exact HB.out | apply below_alloc | apply pw_below_drewN | apply below_drew1)))); have n4_ := Aside0.mk (below_step (by repeat (with_reducible first | exact HB.out | apply below_alloc | apply pw_below_drewN | apply below_drew1)) hb); clear HO332; clear HO336; clear HO340; clear HB; have HO332 := n0_; have HO336 := n1_; have HO340 := n2_; have HO346 := n3_; have HB := n4_; clear n0_ n1_ n2_ n3_ n4_; (try clear hb); (try clear hb2); (try clear hk); (try clear hi); (try clear ho0); obtain ⟨Ao32, co32, eo32⟩ := Kd.R_slice HO340.out; subst eo32; obtain ⟨Ao33, co33, eo33⟩ := Kd.R_slice HO346.out; subst eo33) | (go_at_call 17; (with_reducible refine (madrigallaw15_same.calls kj9 _ _ t337 _ _ t344 t347 _ ?side1 ?side2 ?side3 ?side4 A30.out).mono ?_); (case side1 => repeat (first | exact (Kd.R_reads' HO340.out).2.2 | (with_reducible refine Kd.C_alloc ?_ _) | (with_reducible refine Kd.C_drewN ?_ _) | (with_reducible refine Kd.C_drew ?_))); (case side2 => exact (Kd.R_reads' HO340.out).2.1); (case side3 => repeat (first | exact (Kd.R_reads' HO346.out).2.2 | (with_reducible refine Kd.C_alloc ?_ _) | (with_reducible refine Kd.C_drewN ?_ _) | (with_reducible refine Kd.C_drew ?_))); (case side4 => exact (Kd.R_reads' HO346.out).2.1); rintro e w' ⟨rfl, ⟨nd, rfl⟩⟩))
           go_meet
           case rel => exact ⟨_, (!t347), (by first | rfl | (simp; done) | (simp [*]; done)), H', ⟨by have := HJ5.out; have := HJ9.out; first | omega | exact Nat.le_refl _⟩, ⟨by (with_reducible repeat first | apply Kd.R_alloc | apply Kd.R_drewN | apply Kd.R_drew); exact Kd.R_mono HO336.out (fun _ hk => trivial)⟩, ⟨by repeat (with_reducible first | exact HB.out | apply below_alloc | apply pw_below_drewN | apply below_drew1)⟩⟩
          ·
           rw [if_neg c28] at H; have c28b0 : (t338 == 0) = false := beq_eq_false_iff_ne.mpr c28; have c28b1 : (t338 != 0) = true := bne_iff_ne.mpr c28; have H' := Aside0.mk H; clear H
           obtain rfl : t343 = false := (eq_of_beq c27b2).symm.trans c28b0 -- ht343
           go_wp2_with (first | ((with_reducible refine gate_callee (f := 16) rfl ?_); refine goesL_ (some 52) rfl rfl Try.func16 (by kernel_rfl) rfl #[.int .i64 (wrap64 ((l0.length : Int) / 2)), .int .i64 a2] rfl (by (try simp only [List.map_toArray, List.map_cons, List.map_nil]); first | done | rfl | (simp only [List.length_drop, List.length_take]; rfl)) ?_; (with_reducible refine (mdct_Good.calls (wrap64 ((l0.length : Int) / 2)) a2 t341 _ A23.out).mono ?_); rintro e w' ⟨rfl, ⟨nd, rfl⟩⟩; refine ⟨_, rfl, ?_⟩) | ((with_reducible refine gate_callee (f := 15) rfl ?_); refine goesL_ (some 55) rfl rfl Try.func15 (by kernel_rfl) rfl #[.int .i64 (wrap64 ((l0.length : Int) / 2)), .int .i64 a2] rfl (by (try simp only [List.map_toArray, List.map_cons, List.map_nil]); first | done | rfl | (simp only [List.length_drop, List.length_take]; rfl)) ?_; (with_reducible refine (madrigalref10_GoodBlock.calls (wrap64 ((l0.length : Int) / 2)) a2 t342 _ A24.out).mono ?_); rintro e w' ⟨rfl, ⟨nd, rfl⟩⟩; refine ⟨_, rfl, ?_⟩) | (go_at_call 15; (with_reducible refine (madrigalref10_GoodBlock.calls (wrap64 ((l0.length : Int) / 2)) a2 false _ A26.out).mono ?_); rintro e w' ⟨rfl, ⟨nd, rfl⟩⟩))
           go_meet
           case rel => exact ⟨_, (false), (by first | rfl | (simp; done) | (simp [*]; done)), H', ⟨by have := HJ5.out; have := HJ9.out; first | omega | exact Nat.le_refl _⟩, ⟨by (with_reducible repeat first | apply Kd.R_alloc | apply Kd.R_drewN | apply Kd.R_drew); exact Kd.R_mono HO336.out (fun _ hk => trivial)⟩, ⟨by repeat (with_reducible first | exact HB.out | apply below_alloc | apply pw_below_drewN | apply below_drew1)⟩⟩
       case rest =>
        clear HC16; (try clear c1); (try clear c2); (try clear p2); (try clear c4); (try clear c5); (try clear p6); (try clear c8); (try clear c8b0); (try clear c8b0z0); (try clear c8b1); (try clear c8b1z0); (try clear c9); (try clear c10); (try clear c11); (try clear c11b0); (try clear c11b0z0); (try clear c11b1); (try clear c11b1z0); (try clear c13); (try clear c15); (try clear c16); (try clear c25); (try clear c25b0); (try clear c25b0z0); (try clear c25b1); (try clear c25b1z0); (try clear c25b2); (try clear c25b2z0); (try clear c27); (try clear c27b0); (try clear c27b0z0); (try clear c27b1); (try clear c27b1z0); (try clear c27b2); (try clear c27b2z0); (try clear c28); (try clear c28b0); (try clear c28b0z0); (try clear c28b1); (try clear c28b1z0); (try clear p2); (try clear p6)
        obtain ⟨kq, x76_15, rfl, HA, HJ15, HO_9, HB⟩ := hcut
        cases kq with
        | zero => exact absurd HA.out (by simp [madrigallaw15_MdctSays.j2])
        | succ kj15 =>
         have H := HA.out; clear HA
         simp only [madrigallaw15_MdctSays.j2] at H
         by_cases c34 : x76_15 = true
         ·
          subst c34
          have H1 : (some false) = some r := by rw [if_pos rfl] at H; exact H
          clear H; have H := H1; clear H1
          exact absurd ((Option.some.inj H).trans HRT.out) (by simp)
         ·
          replace c34 := Bool.eq_false_iff.mpr c34
          subst c34
          have H1 : (if x8_9 = true then (if t334 = 0 then ((madrigalref10_Forward.f kj15 l0 a2).bind fun t348 => ((madrigallaw15_same.f kj15 t333 t348).bind fun t351 => (if t351 = true then (madrigallaw15_MdctSays.j3 kj15 l1 a2) else (some false)))) else (some false)) else (if t334 = 1 then (if (t333.length : Int) = 0 then (madrigallaw15_MdctSays.j3 kj15 l1 a2) else (some false)) else (some false))) = some r := by rw [if_neg (show ¬ (false = true) by decide)] at H; exact H
          clear H; have H := H1; clear H1; have HC35 := Aside0.mk H; clear H
          go_upto_if 78 with (fail)
          go_cut [] (fun wc => ∃ (kq : Nat), Aside0 (madrigallaw15_MdctSays.j3 kq l1 a2 = some r) ∧ Aside0 (kq ≤ kj15) ∧ Aside0 (Below w.heap.size w wc))
          case first =>
           have H := HC35.out; clear HC35
           by_cases c36 : x8_9 = true
           ·
            subst c36
            have H1 : (if t334 = 0 then ((madrigalref10_Forward.f kj15 l0 a2).bind fun t348 => ((madrigallaw15_same.f kj15 t333 t348).bind fun t351 => (if t351 = true then (madrigallaw15_MdctSays.j3 kj15 l1 a2) else (some false)))) else (some false)) = some r := by rw [if_pos rfl] at H; exact H
            clear H; have H := H1; clear H1
            by_cases c37 : t334 = 0
            ·
             rw [if_pos c37] at H; have c37b0 : (t334 == 0) = true := beq_iff_eq.mpr c37; have c37b1 : (t334 != 0) = false := bne_eq_false_iff_eq.mpr c37; clear c37
             (first | rw [c37b0] | (simp only [i64_w, i32_w]; rw [c37b0]) | skip)
             replace H := Option.bind_eq_some_iff.mp H; obtain ⟨t348, A380, H⟩ := H
             replace H : ((madrigallaw15_same.f kj15 t333 t348).bind fun t351 => (if t351 = true then (madrigallaw15_MdctSays.j3 kj15 l1 a2) else (some false))) = some r := H
             have A38 := Aside0.mk A380; clear A380; replace H := Option.bind_eq_some_iff.mp H; obtain ⟨t351, A390, H⟩ := H
             replace H : (if t351 = true then (madrigallaw15_MdctSays.j3 kj15 l1 a2) else (some false)) = some r := H
             have A39 := Aside0.mk A390; clear A390
             by_cases c40 : t351 = true
             ·
              subst c40
              have H1 : (madrigallaw15_MdctSays.j3 kj15 l1 a2) = some r := by rw [if_pos rfl] at H; exact H
              clear H; have H := H1; clear H1; have H' := Aside0.mk H; clear H
              go_wp2_with (first | (go_at_call 19; (with_reducible refine (madrigalref10_Forward.calls kj15 _ _ l0 a2 t348 _ ?side1 ?side2 A38.out).mono ?_); (case side1 => repeat (first | exact (Kd.C_below HR0.out HB.out) | (with_reducible refine Kd.C_alloc ?_ _) | (with_reducible refine Kd.C_drewN ?_ _) | (with_reducible refine Kd.C_drew ?_))); (case side2 => exact HC0.out); rintro e w41 ⟨v349, rfl, ho0, hb⟩; have n0_ := Aside0.mk (Kd.R_elder' (by (with_reducible repeat first | apply Kd.R_alloc | apply Kd.R_drewN | apply Kd.R_drew); exact HO_9.out) (Kd.R_base ho0) hb); have n1_ := Aside0.mk (Kd.R_lower (Kd.R_new' ho0 (Kd.R_lt (by (with_reducible repeat first | apply Kd.R_alloc | apply Kd.R_drewN | apply Kd.R_drew); exact HO_9.out))) (below_size (by repeat (with_reducible first | exact HB.out | apply below_alloc | apply pw_below_drewN | apply below_drew1)))); have n2_ := Aside0.mk (below_step (by repeat (with_reducible first | exact HB.out | apply below_alloc | apply pw_below_drewN | apply below_drew1)) hb); clear HO_9; clear HB; have HO_9 := n0_; have HO350 := n1_; have HB := n2_; clear n0_ n1_ n2_; (try clear hb); (try clear hb2); (try clear hk); (try clear hi); (try clear ho0); obtain ⟨Ao42, co42, eo42⟩ := Kd.R_slice HO_9.out; subst eo42; obtain ⟨Ao43, co43, eo43⟩ := Kd.R_slice HO350.out; subst eo43) | (go_at_call 17; (with_reducible refine (madrigallaw15_same.calls kj15 _ _ t333 _ _ t348 true _ ?side1 ?side2 ?side3 ?side4 A39.out).mono ?_); (case side1 => repeat (first | exact (Kd.R_reads' HO_9.out).2.2 | (with_reducible refine Kd.C_alloc ?_ _) | (with_reducible refine Kd.C_drewN ?_ _) | (with_reducible refine Kd.C_drew ?_))); (case side2 => exact (Kd.R_reads' HO_9.out).2.1); (case side3 => repeat (first | exact (Kd.R_reads' HO350.out).2.2 | (with_reducible refine Kd.C_alloc ?_ _) | (with_reducible refine Kd.C_drewN ?_ _) | (with_reducible refine Kd.C_drew ?_))); (case side4 => exact (Kd.R_reads' HO350.out).2.1); rintro e w' ⟨rfl, ⟨nd, rfl⟩⟩))
              go_meet
              case rel => exact ⟨_, H', ⟨by have := HJ5.out; have := HJ9.out; have := HJ15.out; first | omega | exact Nat.le_refl _⟩, ⟨by repeat (with_reducible first | exact HB.out | apply below_alloc | apply pw_below_drewN | apply below_drew1)⟩⟩
             ·
              replace c40 := Bool.eq_false_iff.mpr c40
              subst c40
              have H1 : (some false) = some r := by rw [if_neg (show ¬ (false = true) by decide)] at H; exact H
              clear H; have H := H1; clear H1
              exact absurd ((Option.some.inj H).trans HRT.out) (by simp)
            ·
             rw [if_neg c37] at H; have c37b0 : (t334 == 0) = false := beq_eq_false_iff_ne.mpr c37; have c37b1 : (t334 != 0) = true := bne_iff_ne.mpr c37
             (first | rw [c37b0] | (simp only [i64_w, i32_w]; rw [c37b0]) | skip)
             exact absurd ((Option.some.inj H).trans HRT.out) (by simp)
           ·
            replace c36 := Bool.eq_false_iff.mpr c36
            subst c36
            have H1 : (if t334 = 1 then (if (t333.length : Int) = 0 then (madrigallaw15_MdctSays.j3 kj15 l1 a2) else (some false)) else (some false)) = some r := by rw [if_neg (show ¬ (false = true) by decide)] at H; exact H
            clear H; have H := H1; clear H1
            by_cases c44 : t334 = 1
            ·
             rw [if_pos c44] at H; have c44b0 : (t334 == 1) = true := beq_iff_eq.mpr c44; have c44b1 : (t334 != 1) = false := bne_eq_false_iff_eq.mpr c44; clear c44
             by_cases c45 : (t333.length : Int) = 0
             ·
              rw [if_pos c45] at H; have c45b0 : ((t333.length : Int) == 0) = true := beq_iff_eq.mpr c45; have c45b1 : ((t333.length : Int) != 0) = false := bne_eq_false_iff_eq.mpr c45; clear c45; have H' := Aside0.mk H; clear H
              obtain ⟨Ao46, co46, eo46⟩ := Kd.R_slice HO_9.out
              subst eo46
              go_wp2
              go_meet
              case rel => exact ⟨_, H', ⟨by have := HJ5.out; have := HJ9.out; have := HJ15.out; first | omega | exact Nat.le_refl _⟩, ⟨by repeat (with_reducible first | exact HB.out | apply below_alloc | apply pw_below_drewN | apply below_drew1)⟩⟩
             ·
              rw [if_neg c45] at H; have c45b0 : ((t333.length : Int) == 0) = false := beq_eq_false_iff_ne.mpr c45; have c45b1 : ((t333.length : Int) != 0) = true := bne_iff_ne.mpr c45
              have c45b2 : ¬ (t333 = []) := fun h_ => c45 (by rw [h_]; rfl)
              exact absurd ((Option.some.inj H).trans HRT.out) (by simp)
            ·
             rw [if_neg c44] at H; have c44b0 : (t334 == 1) = false := beq_eq_false_iff_ne.mpr c44; have c44b1 : (t334 != 1) = true := bne_iff_ne.mpr c44
             exact absurd ((Option.some.inj H).trans HRT.out) (by simp)
          case rest =>
           clear HC35; (try clear c1); (try clear c2); (try clear p2); (try clear c3); (try clear c4); (try clear c5); (try clear p6); (try clear c8); (try clear c8b0); (try clear c8b0z0); (try clear c8b1); (try clear c8b1z0); (try clear c9); (try clear c10); (try clear c11); (try clear c11b0); (try clear c11b0z0); (try clear c11b1); (try clear c11b1z0); (try clear c13); (try clear c15); (try clear c16); (try clear c25); (try clear c25b0); (try clear c25b0z0); (try clear c25b1); (try clear c25b1z0); (try clear c25b2); (try clear c25b2z0); (try clear c27); (try clear c27b0); (try clear c27b0z0); (try clear c27b1); (try clear c27b1z0); (try clear c27b2); (try clear c27b2z0); (try clear c28); (try clear c28b0); (try clear c28b0z0); (try clear c28b1); (try clear c28b1z0); (try clear c34); (try clear c36); (try clear c37); (try clear c37b0); (try clear c37b0z0); (try clear c37b1); (try clear c37b1z0); (try clear c40); (try clear c44); (try clear c44b0); (try clear c44b0z0); (try clear c44b1); (try clear c44b1z0); (try clear c45); (try clear c45b0); (try clear c45b0z0); (try clear c45b1); (try clear c45b1z0); (try clear c45b2); (try clear c45b2z0); (try clear p2); (try clear p6)
           obtain ⟨kq, HA, HJ34, HB⟩ := hcut
           cases kq with
           | zero => exact absurd HA.out (by simp [madrigallaw15_MdctSays.j3])
           | succ kj34 =>
            have H := HA.out; clear HA
            simp only [madrigallaw15_MdctSays.j3] at H
            obtain ⟨y352, hy352⟩ : ∃ y_ : List Int, y_ = (([] : List Int)) := ⟨_, rfl⟩
            replace H : (if y352.length + l1.length < 17592186044416 then ((mdct_Inverse.f kj34 (y352 ++ l1) a2).bind fun bt358 => ((madrigalref10_GoodBlock.f (l1.length : Int) a2).bind fun t362 => (if t362 = true then (if bt358.2 = 0 then ((madrigalref10_Inverse.f kj34 l1 a2).bind fun t363 => ((madrigallaw15_same.f kj34 bt358.1 t363).bind fun t366 => (some t366))) else (some false)) else (if bt358.2 = 1 then (some ((bt358.1.length : Int) == 0)) else (some false))))) else (none)) = some r := by first | (rw [hy352]; with_reducible exact H) | (have H2_ := (Option.bind_some _ _).symm.trans H; rw [hy352]; with_reducible exact H2_) | (have H2_ := (Option.bind_some _ _).symm.trans H; with_reducible exact H2_) | with_reducible exact H | (rw [hy352]; exact H) | exact H
            have Ny352 := Aside0.mk hy352; clear hy352
            by_cases c47 : y352.length + l1.length < 17592186044416; rotate_left
            · rw [if_neg c47] at H; exact absurd H (by simp)
            rw [if_pos c47] at H; have LMc47 := Aside0.mk c47; clear c47
            obtain ⟨y355, hy355⟩ : ∃ y_ : List Int, y_ = (y352 ++ l1) := ⟨_, rfl⟩
            replace H : ((mdct_Inverse.f kj34 y355 a2).bind fun bt358 => ((madrigalref10_GoodBlock.f (l1.length : Int) a2).bind fun t362 => (if t362 = true then (if bt358.2 = 0 then ((madrigalref10_Inverse.f kj34 l1 a2).bind fun t363 => ((madrigallaw15_same.f kj34 bt358.1 t363).bind fun t366 => (some t366))) else (some false)) else (if bt358.2 = 1 then (some ((bt358.1.length : Int) == 0)) else (some false))))) = some r := by first | (rw [hy355]; with_reducible exact H) | (have H2_ := (Option.bind_some _ _).symm.trans H; rw [hy355]; with_reducible exact H2_) | (have H2_ := (Option.bind_some _ _).symm.trans H; with_reducible exact H2_) | with_reducible exact H | (rw [hy355]; exact H) | exact H
            have Ny355 := Aside0.mk hy355; clear hy355; replace H := Option.bind_eq_some_iff.mp H; obtain ⟨⟨t358, t359⟩, A480, H⟩ := H
            replace H : ((madrigalref10_GoodBlock.f (l1.length : Int) a2).bind fun t362 => (if t362 = true then (if t359 = 0 then ((madrigalref10_Inverse.f kj34 l1 a2).bind fun t363 => ((madrigallaw15_same.f kj34 t358 t363).bind fun t366 => (some t366))) else (some false)) else (if t359 = 1 then (some ((t358.length : Int) == 0)) else (some false)))) = some r := H
            have A48 := Aside0.mk A480; clear A480; replace H := Option.bind_eq_some_iff.mp H; obtain ⟨t362, A490, H⟩ := H
            replace H : (if t362 = true then (if t359 = 0 then ((madrigalref10_Inverse.f kj34 l1 a2).bind fun t363 => ((madrigallaw15_same.f kj34 t358 t363).bind fun t366 => (some t366))) else (some false)) else (if t359 = 1 then (some ((t358.length : Int) == 0)) else (some false))) = some r := H
            have A49 := Aside0.mk A490; clear A490
            by_cases c50 : t362 = true
            ·
             subst c50
             have H1 : (if t359 = 0 then ((madrigalref10_Inverse.f kj34 l1 a2).bind fun t363 => ((madrigallaw15_same.f kj34 t358 t363).bind fun t366 => (some t366))) else (some false)) = some r := by rw [if_pos rfl] at H; exact H
             clear H; have H := H1; clear H1
             by_cases c51 : t359 = 0
             ·
              rw [if_pos c51] at H; have c51b0 : (t359 == 0) = true := beq_iff_eq.mpr c51; have c51b1 : (t359 != 0) = false := bne_eq_false_iff_eq.mpr c51; clear c51; replace H := Option.bind_eq_some_iff.mp H; obtain ⟨t363, A520, H⟩ := H
              replace H : ((madrigallaw15_same.f kj34 t358 t363).bind fun t366 => (some t366)) = some r := H
              have A52 := Aside0.mk A520; clear A520; replace H := Option.bind_eq_some_iff.mp H; obtain ⟨t366, A530, H⟩ := H
              replace H : (some t366) = some r := H
              have A53 := Aside0.mk A530; clear A530
              obtain rfl := Option.some.inj H
              go_wp2_with (first | ((with_reducible refine gate_dst (N := 97) rfl ?_); (try (refine gate_guard (by rfl) ?_; dsimp only)); refine Kd.R_lit (Kd.int .i64) _ 2 ?hg (N := 97) ?hd (xs := ([] : List Int)) (inner := []) (ok := fun _ => True) (okp := fun _ => True) ?hr ?hp (fun _ hk => hk) trivial (Below.refl _ _) (Nat.le_refl _) (by simp) ?_; (case hd => rfl); (case hg => rfl); (case hr => first | (go_simp; done) | (go_simp; rfl)); (case hp => exact (Reps.none _ _)); intro v353 w54 ho55 hb hg_ hnew_; clear hg_ hnew_; (first | rw [← Ny352.out] at ho55 | (simp only [Int.reduceToNat] at ho55; rw [← Ny352.out] at ho55)); have n0_ := Aside0.mk (Kd.R_lower ho55 (below_size (by repeat (with_reducible first | exact HB.out | apply below_alloc | apply pw_below_drewN | apply below_drew1)))); have n1_ := Aside0.mk (below_step (by repeat (with_reducible first | exact HB.out | apply below_alloc | apply pw_below_drewN | apply below_drew1)) hb); clear HB; have HO354 := n0_; have HB := n1_; clear n0_ n1_; clear hb ho55) | ((with_reducible refine gate_builtin (b := .append) (xs := #[.tmp 97, .tmp 98]) rfl ?_); (try (refine gate_guard (by rfl) ?_; dsimp only)); at_builtin; refine Kd.R_append_rows (Kd.int .i64) (w0 := w) w.heap.size rfl (.tmp 97) (.tmp 98) 23 2 (.int .i64 0) 8 rfl Try.underlying23 info2 rfl (by decide) (by omega) v353 y352 l1 _ _ _ (fun _ => True) (fun _ => False) rfl rfl ?aO ?aR (fun _ _ h => h) (fun _ h => h.elim) ?aF ?aB ?aS ?aL ?_; (case aR => repeat (first | exact (Kd.C_below HR1.out HB.out) | (with_reducible refine Kd.C_alloc ?_ _) | (with_reducible refine Kd.C_drewN ?_ _) | (with_reducible refine Kd.C_drew ?_))); (case aB => exact (by repeat (with_reducible first | exact HB.out | apply below_alloc | apply pw_below_drewN | apply below_drew1))); (case aF => exact (fun _ _ => trivial)); (case aO => exact (by (with_reducible repeat first | apply Kd.R_alloc | apply Kd.R_drewN | apply Kd.R_drew); exact HO354.out)); (case aS => exact (below_size (by repeat (with_reducible first | exact HB.out | apply below_alloc | apply pw_below_drewN | apply below_drew1)))); (case aL => have := LMc47.out; omega); intro v356 w56 ho hb hg hat; rw [← Ny355.out] at ho; have n0_ := Aside0.mk (hb); have n1_ := Aside0.mk (ho); clear HB; clear HO354; have HB := n0_; have HO357 := n1_; clear n0_ n1_; clear ho hb hg hat; obtain ⟨Ao57, co57, eo57⟩ := Kd.R_slice HO357.out; subst eo57) | ((with_reducible refine gate_callee (f := 12) rfl ?_); refine goesL_ (some 101) rfl rfl Try.func12 (by kernel_rfl) rfl #[.slice Ao57 y355.length co57, .int .i64 a2] rfl (by (try simp only [List.map_toArray, List.map_cons, List.map_nil]); first | done | rfl | (simp only [List.length_drop, List.length_take]; rfl)) ?_; (with_reducible refine (mdct_Inverse.calls kj34 _ _ y355 a2 t358 t359 _ ?side1 ?side2 A48.out).mono ?_); (case side1 => repeat (first | exact (Kd.R_reads' HO357.out).2.2 | (with_reducible refine Kd.C_alloc ?_ _) | (with_reducible refine Kd.C_drewN ?_ _) | (with_reducible refine Kd.C_drew ?_))); (case side2 => exact (Kd.R_reads' HO357.out).2.1); rintro e w58 ⟨v360, rfl, ho0, hb⟩; refine ⟨_, rfl, ?_⟩; have n0_ := Aside0.mk (Kd.R_elder' (by (with_reducible repeat first | apply Kd.R_alloc | apply Kd.R_drewN | apply Kd.R_drew); exact HO357.out) (Kd.R_base ho0) hb); have n1_ := Aside0.mk (Kd.R_lower (Kd.R_new' ho0 (Kd.R_lt (by (with_reducible repeat first | apply Kd.R_alloc | apply Kd.R_drewN | apply Kd.R_drew); exact HO357.out))) (below_size (by repeat (with_reducible first | exact HB.out | apply below_alloc | apply pw_below_drewN | apply below_drew1)))); have n2_ := Aside0.mk (below_step (by repeat (with_reducible first | exact HB.out | apply below_alloc | apply pw_below_drewN | apply below_drew1)) hb); clear HO357; clear HB; have HO357 := n0_; have HO361 := n1_; have HB := n2_; clear n0_ n1_ n2_; (try clear hb); (try clear hb2); (try clear hk); (try clear hi); (try clear ho0)) | ((with_reducible refine gate_callee (f := 15) rfl ?_); refine goesL_ (some 107) rfl rfl Try.func15 (by kernel_rfl) rfl #[.int .i64 (l1.length : Int), .int .i64 a2] rfl (by (try simp only [List.map_toArray, List.map_cons, List.map_nil]); first | done | rfl | (simp only [List.length_drop, List.length_take]; rfl)) ?_; (with_reducible refine (madrigalref10_GoodBlock.calls (l1.length : Int) a2 true _ A49.out).mono ?_); rintro e w' ⟨rfl, ⟨nd, rfl⟩⟩; refine ⟨_, rfl, ?_⟩) | (go_at_call 20; (with_reducible refine (madrigalref10_Inverse.calls kj34 _ _ l1 a2 t363 _ ?side1 ?side2 A52.out).mono ?_); (case side1 => repeat (first | exact (Kd.C_below HR1.out (by repeat (with_reducible first | exact HB.out | apply below_alloc | apply pw_below_drewN | apply below_drew1))) | (with_reducible refine Kd.C_alloc ?_ _) | (with_reducible refine Kd.C_drewN ?_ _) | (with_reducible refine Kd.C_drew ?_))); (case side2 => exact HC1.out); rintro e w59 ⟨v364, rfl, ho0, hb⟩; have n0_ := Aside0.mk (Kd.R_elder' (by (with_reducible repeat first | apply Kd.R_alloc | apply Kd.R_drewN | apply Kd.R_drew); exact HO357.out) (Kd.R_base ho0) hb); have n1_ := Aside0.mk (Kd.R_elder' (by (with_reducible repeat first | apply Kd.R_alloc | apply Kd.R_drewN | apply Kd.R_drew); exact HO361.out) (Kd.R_base ho0) hb); have n2_ := Aside0.mk (Kd.R_lower (Kd.R_new' (Kd.R_new' ho0 (Kd.R_lt (by (with_reducible repeat first | apply Kd.R_alloc | apply Kd.R_drewN | apply Kd.R_drew); exact HO357.out))) (Kd.R_lt (by (with_reducible repeat first | apply Kd.R_alloc | apply Kd.R_drewN | apply Kd.R_drew); exact HO361.out))) (below_size (by repeat (with_reducible first | exact HB.out | apply below_alloc | apply pw_below_drewN | apply below_drew1)))); have n3_ := Aside0.mk (below_step (by repeat (with_reducible first | exact HB.out | apply below_alloc | apply pw_below_drewN | apply below_drew1)) hb); clear HO357; clear HO361; clear HB; have HO357 := n0_; have HO361 := n1_; have HO365 := n2_; have HB := n3_; clear n0_ n1_ n2_ n3_; (try clear hb); (try clear hb2); (try clear hk); (try clear hi); (try clear ho0); obtain ⟨Ao60, co60, eo60⟩ := Kd.R_slice HO361.out; subst eo60; obtain ⟨Ao61, co61, eo61⟩ := Kd.R_slice HO365.out; subst eo61) | (go_at_call 17; (with_reducible refine (madrigallaw15_same.calls kj34 _ _ t358 _ _ t363 t366 _ ?side1 ?side2 ?side3 ?side4 A53.out).mono ?_); (case side1 => repeat (first | exact (Kd.R_reads' HO361.out).2.2 | (with_reducible refine Kd.C_alloc ?_ _) | (with_reducible refine Kd.C_drewN ?_ _) | (with_reducible refine Kd.C_drew ?_))); (case side2 => exact (Kd.R_reads' HO361.out).2.1); (case side3 => repeat (first | exact (Kd.R_reads' HO365.out).2.2 | (with_reducible refine Kd.C_alloc ?_ _) | (with_reducible refine Kd.C_drewN ?_ _) | (with_reducible refine Kd.C_drew ?_))); (case side4 => exact (Kd.R_reads' HO365.out).2.1); rintro e w' ⟨rfl, ⟨nd, rfl⟩⟩))
              go_ret
              exact ⟨by first | rfl | (simp [errW_none, errW_some] <;> rfl) | (simp [*, errW_none, errW_some] <;> rfl), by repeat (with_reducible first | exact HB.out | apply below_alloc | apply pw_below_drewN | apply below_drew1)⟩
             ·
              rw [if_neg c51] at H; have c51b0 : (t359 == 0) = false := beq_eq_false_iff_ne.mpr c51; have c51b1 : (t359 != 0) = true := bne_iff_ne.mpr c51
              exact absurd ((Option.some.inj H).trans HRT.out) (by simp)
            ·
             replace c50 := Bool.eq_false_iff.mpr c50
             subst c50
             have H1 : (if t359 = 1 then (some ((t358.length : Int) == 0)) else (some false)) = some r := by rw [if_neg (show ¬ (false = true) by decide)] at H; exact H
             clear H; have H := H1; clear H1
             by_cases c62 : t359 = 1
             ·
              rw [if_pos c62] at H; have c62b0 : (t359 == 1) = true := beq_iff_eq.mpr c62; have c62b1 : (t359 != 1) = false := bne_eq_false_iff_eq.mpr c62; clear c62
              obtain rfl := Option.some.inj H
              go_wp2_with (first | ((with_reducible refine gate_dst (N := 97) rfl ?_); (try (refine gate_guard (by rfl) ?_; dsimp only)); refine Kd.R_lit (Kd.int .i64) _ 2 ?hg (N := 97) ?hd (xs := ([] : List Int)) (inner := []) (ok := fun _ => True) (okp := fun _ => True) ?hr ?hp (fun _ hk => hk) trivial (Below.refl _ _) (Nat.le_refl _) (by simp) ?_; (case hd => rfl); (case hg => rfl); (case hr => first | (go_simp; done) | (go_simp; rfl)); (case hp => exact (Reps.none _ _)); intro v353 w63 ho64 hb hg_ hnew_; clear hg_ hnew_; (first | rw [← Ny352.out] at ho64 | (simp only [Int.reduceToNat] at ho64; rw [← Ny352.out] at ho64)); have n0_ := Aside0.mk (Kd.R_lower ho64 (below_size (by repeat (with_reducible first | exact HB.out | apply below_alloc | apply pw_below_drewN | apply below_drew1)))); have n1_ := Aside0.mk (below_step (by repeat (with_reducible first | exact HB.out | apply below_alloc | apply pw_below_drewN | apply below_drew1)) hb); clear HB; have HO354 := n0_; have HB := n1_; clear n0_ n1_; clear hb ho64) | ((with_reducible refine gate_builtin (b := .append) (xs := #[.tmp 97, .tmp 98]) rfl ?_); (try (refine gate_guard (by rfl) ?_; dsimp only)); at_builtin; refine Kd.R_append_rows (Kd.int .i64) (w0 := w) w.heap.size rfl (.tmp 97) (.tmp 98) 23 2 (.int .i64 0) 8 rfl Try.underlying23 info2 rfl (by decide) (by omega) v353 y352 l1 _ _ _ (fun _ => True) (fun _ => False) rfl rfl ?aO ?aR (fun _ _ h => h) (fun _ h => h.elim) ?aF ?aB ?aS ?aL ?_; (case aR => repeat (first | exact (Kd.C_below HR1.out HB.out) | (with_reducible refine Kd.C_alloc ?_ _) | (with_reducible refine Kd.C_drewN ?_ _) | (with_reducible refine Kd.C_drew ?_))); (case aB => exact (by repeat (with_reducible first | exact HB.out | apply below_alloc | apply pw_below_drewN | apply below_drew1))); (case aF => exact (fun _ _ => trivial)); (case aO => exact (by (with_reducible repeat first | apply Kd.R_alloc | apply Kd.R_drewN | apply Kd.R_drew); exact HO354.out)); (case aS => exact (below_size (by repeat (with_reducible first | exact HB.out | apply below_alloc | apply pw_below_drewN | apply below_drew1)))); (case aL => have := LMc47.out; omega); intro v356 w65 ho hb hg hat; rw [← Ny355.out] at ho; have n0_ := Aside0.mk (hb); have n1_ := Aside0.mk (ho); clear HB; clear HO354; have HB := n0_; have HO357 := n1_; clear n0_ n1_; clear ho hb hg hat; obtain ⟨Ao66, co66, eo66⟩ := Kd.R_slice HO357.out; subst eo66) | ((with_reducible refine gate_callee (f := 12) rfl ?_); refine goesL_ (some 101) rfl rfl Try.func12 (by kernel_rfl) rfl #[.slice Ao66 y355.length co66, .int .i64 a2] rfl (by (try simp only [List.map_toArray, List.map_cons, List.map_nil]); first | done | rfl | (simp only [List.length_drop, List.length_take]; rfl)) ?_; (with_reducible refine (mdct_Inverse.calls kj34 _ _ y355 a2 t358 t359 _ ?side1 ?side2 A48.out).mono ?_); (case side1 => repeat (first | exact (Kd.R_reads' HO357.out).2.2 | (with_reducible refine Kd.C_alloc ?_ _) | (with_reducible refine Kd.C_drewN ?_ _) | (with_reducible refine Kd.C_drew ?_))); (case side2 => exact (Kd.R_reads' HO357.out).2.1); rintro e w67 ⟨v360, rfl, ho0, hb⟩; refine ⟨_, rfl, ?_⟩; have n0_ := Aside0.mk (Kd.R_elder' (by (with_reducible repeat first | apply Kd.R_alloc | apply Kd.R_drewN | apply Kd.R_drew); exact HO357.out) (Kd.R_base ho0) hb); have n1_ := Aside0.mk (Kd.R_lower (Kd.R_new' ho0 (Kd.R_lt (by (with_reducible repeat first | apply Kd.R_alloc | apply Kd.R_drewN | apply Kd.R_drew); exact HO357.out))) (below_size (by repeat (with_reducible first | exact HB.out | apply below_alloc | apply pw_below_drewN | apply below_drew1)))); have n2_ := Aside0.mk (below_step (by repeat (with_reducible first | exact HB.out | apply below_alloc | apply pw_below_drewN | apply below_drew1)) hb); clear HO357; clear HB; have HO357 := n0_; have HO361 := n1_; have HB := n2_; clear n0_ n1_ n2_; (try clear hb); (try clear hb2); (try clear hk); (try clear hi); (try clear ho0)) | ((with_reducible refine gate_callee (f := 15) rfl ?_); refine goesL_ (some 107) rfl rfl Try.func15 (by kernel_rfl) rfl #[.int .i64 (l1.length : Int), .int .i64 a2] rfl (by (try simp only [List.map_toArray, List.map_cons, List.map_nil]); first | done | rfl | (simp only [List.length_drop, List.length_take]; rfl)) ?_; (with_reducible refine (madrigalref10_GoodBlock.calls (l1.length : Int) a2 false _ A49.out).mono ?_); rintro e w' ⟨rfl, ⟨nd, rfl⟩⟩; refine ⟨_, rfl, ?_⟩; obtain ⟨Ao68, co68, eo68⟩ := Kd.R_slice HO361.out; subst eo68))
              go_ret
              exact ⟨by first | rfl | (simp [errW_none, errW_some] <;> rfl) | (simp [*, errW_none, errW_some] <;> rfl), by repeat (with_reducible first | exact HB.out | apply below_alloc | apply pw_below_drewN | apply below_drew1)⟩
             ·
              rw [if_neg c62] at H; have c62b0 : (t359 == 1) = false := beq_eq_false_iff_ne.mpr c62; have c62b1 : (t359 != 1) = true := bne_iff_ne.mpr c62
              exact absurd ((Option.some.inj H).trans HRT.out) (by simp)
 ·
  replace c5 := Bool.eq_false_iff.mpr c5
  subst c5
  have H1 : (some false) = some r := by rw [if_neg (show ¬ (false = true) by decide)] at H; exact H
  clear H; have H := H1; clear H1
  exact absurd ((Option.some.inj H).trans HRT.out) (by simp)

/-- THE ONE PURE STATEMENT of madrigallaw15_MdctSays: yours. -/
def madrigallaw15_MdctSays.Pure : Prop := ∀ (l0 : List Int) (l1 : List Int) (a2 : Int), l0.length ≤ maxLen → l0.length * 8 ≤ 140737488351232 → (∀ x ∈ l0, (Lit.int .i64 x).wf = true) → l1.length ≤ maxLen → l1.length * 8 ≤ 140737488351232 → (∀ x ∈ l1, (Lit.int .i64 x).wf = true) → (Lit.int .i64 a2).wf = true → ∃ k, madrigallaw15_MdctSays.f k l0 l1 a2 = some true
theorem madrigallaw15_MdctSays.walk (P : madrigallaw15_MdctSays.Pure) (a0 : Option Addr) (len0 cap0 : Nat) (z0 : List Int) (a1 : Option Addr) (len1 cap1 : Nat) (z1 : List Int) (a2 : Int) (w : World) (w0 : (a0 = none ∧ len0 = 0 ∧ cap0 = 0 ∧ z0 = []) ∨ ∃ x, a0 = some x ∧ len0 ≤ cap0 ∧ cap0 ≤ maxLen ∧ z0.length = cap0 ∧ (∀ i, i < z0.length → w.cell? (x.add i) = some (.int .i64 (z0.getD i 0))) ∧ ∀ n ∈ z0, (Lit.int .i64 n).wf = true) (y0 : len0 * 8 ≤ 140737488351232) (w1 : (a1 = none ∧ len1 = 0 ∧ cap1 = 0 ∧ z1 = []) ∨ ∃ x, a1 = some x ∧ len1 ≤ cap1 ∧ cap1 ≤ maxLen ∧ z1.length = cap1 ∧ (∀ i, i < z1.length → w.cell? (x.add i) = some (.int .i64 (z1.getD i 0))) ∧ ∀ n ∈ z1, (Lit.int .i64 n).wf = true) (y1 : len1 * 8 ≤ 140737488351232) (w2 : (Lit.int .i64 a2).wf = true) :
  Calls Try.prog 4 #[.slice a0 len0 cap0, .slice a1 len1 cap1, .int .i64 a2] w fun e w' => e = .returned (.bool true) ∧ Below w.heap.size w w' := by
 obtain ⟨l0, rfl, hr0, hm0, hw0, hc0⟩ := ReadsInt.ofRowC w0
 obtain ⟨l1, rfl, hr1, hm1, hw1, hc1⟩ := ReadsInt.ofRowC w1
 obtain ⟨k, h⟩ := P l0 l1 a2 hm0 y0 hw0 hm1 y1 hw1 w2
 refine (madrigallaw15_MdctSays.calls k _ _ l0 _ _ l1 a2 true w (Kd.C_of_reads (d := (0 : Int)) (h1 := fun _ => rfl) hr0) hc0 (Kd.C_of_reads (d := (0 : Int)) (h1 := fun _ => rfl) hr1) hc1 rfl h).mono ?_
 rintro e w' ⟨rfl, hd⟩
 exact ⟨rfl, hd⟩

end Go.Proofs.Ytnliianjljgcbaa.MA
