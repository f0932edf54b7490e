/- Functions of the program as plain Lean functions, and that the code comes to their answers. No condition. -/
import Derived.Test.YtocnpnpedmapbaaMAx0
import Derived.Test.YtocnpnpedmapbaaMAx4
namespace Go.Proofs.Ytocnpnpedmapbaa.MA
open Go.RowKit Go.Proofs.YtocnpnpedmapbaaW.PrintWords Go.Proofs.YtocnpnpedmapbaaW.PrintLast Go.Proofs.YtocnpnpedmapbaaW.PrintMore
attribute [local go_sem] max2_int min2_int max_two min_two max_three min_three max_four min_four
set_option linter.unusedVariables false
set_option linter.unusedSimpArgs false

/-! ### madrigalref10_Phase: function 16 -/
mutual
def madrigalref10_Phase.j0 : Nat → Int → Int → Int → Int → Option (List Int)
 | 0, _, _, _, _ => none
 | k + 1, x0, x2, x7, x9 => madrigalref10_Phase.l0 k x0 x2 x7 x9 ([] : List Int) 0 (-7)
def madrigalref10_Phase.l0 : Nat → Int → Int → Int → Int → List Int → Int → Int → Option (List Int)
 | 0, _, _, _, _, _, _, _ => none
 | k + 1, x0, x2, x7, x9, x10, x11, x12 => if x12 ≤ 8 then (if x0 = 0 then (none) else (if (wrap64 ((wrap64 (x12 * x7)) - x2)) = 0 then (madrigalref10_Phase.j2 k x0 x2 x7 x9 x10 x11 x12 (wrap64 ((wrap64 (x12 * x7)) - x2)) (wrap64 (Int.tdiv (wrap64 (32768 * x9)) x0))) else ((madrigalref1_Down.f (wrap64 ((wrap64 (32768 * x9)) * (wrap64 ((wrap64 (x12 * x7)) - x2)))) (wrap64 (x0 * x7))).bind fun t227 => ((madrigalref1_Sin.f k t227).bind fun t228 => ((madrigalref10_quotient.f (wrap64 ((wrap64 (t228 * x7)) * 32768)) (wrap64 (102944 * (wrap64 ((wrap64 (x12 * x7)) - x2))))).bind fun t229 => (madrigalref10_Phase.j2 k x0 x2 x7 x9 x10 x11 x12 (wrap64 ((wrap64 (x12 * x7)) - x2)) t229)))))) else (if 7 < (x10.length : Int) then (some (x10.set (7 : Int).toNat (wrap64 ((wrap64 ((rd x10 7) + 32768)) - x11)))) else (none))
def madrigalref10_Phase.j2 : Nat → Int → Int → Int → Int → List Int → Int → Int → Int → Int → Option (List Int)
 | 0, _, _, _, _, _, _, _, _, _ => none
 | k + 1, x0, x2, x7, x9, x10, x11, x12, x13, x14 => (madrigalref1_Down.f (wrap64 (4096 * x13)) x7).bind fun t230 => ((madrigalref1_Cos.f k t230).bind fun t231 => ((madrigalref1_Mul.f k t231 1 1).bind fun t232 => ((madrigalref1_Mul.f k x14 (wrap64 (16384 + t232)) 15).bind fun t233 => (if x10.length < 17592186044416 then (madrigalref10_Phase.l0 k x0 x2 x7 x9 (x10 ++ [t233]) (wrap64 (x11 + t233)) (wrap64 (x12 + 1))) else (none)))))
end
def madrigalref10_Phase.f (k : Nat) (a0 : Int) (a1 : Int) (a2 : Int) : Option (List Int) := (madrigalref10_Parts.f k a0 a1).bind fun bt223 => (if a1 < a0 then (madrigalref10_Phase.j0 k a0 a2 bt223.1 a1) else (madrigalref10_Phase.j0 k a0 a2 bt223.1 a0))
set_option maxHeartbeats 8000000 in
set_option maxRecDepth 100000 in
theorem madrigalref10_Phase.calls (k : Nat) (a0 : Int) (a1 : Int) (a2 : Int) (r : List Int) (w : World) (h : madrigalref10_Phase.f k a0 a1 a2 = some r) :
  Calls Try.prog 16 #[.int .i64 a0, .int .i64 a1, .int .i64 a2] w fun e w' => ∃ v0_ : Value, e = .returned (v0_) ∧ Kd.R (Kd.int .i64) 2 w' w.heap.size (fun _ => True) v0_ r ∧ Below w.heap.size w w' := by
 have HB := Aside0.mk (Below.refl w.heap.size w)
 have H : ((madrigalref10_Parts.f k a0 a1).bind fun bt223 => (if a1 < a0 then (madrigalref10_Phase.j0 k a0 a2 bt223.1 a1) else (madrigalref10_Phase.j0 k a0 a2 bt223.1 a0))) = some r := h
 clear h; replace H := Option.bind_eq_some_iff.mp H; obtain ⟨⟨t223, t224⟩, A40, H⟩ := H
 replace H : (if a1 < a0 then (madrigalref10_Phase.j0 k a0 a2 t223 a1) else (madrigalref10_Phase.j0 k a0 a2 t223 a0)) = some r := H
 have A4 := Aside0.mk A40; clear A40; have HC5 := Aside0.mk H; clear H
 go_enter Try.func16, Try.ntmps16
 go_upto_if 26 with (first | ((with_reducible refine gate_callee (f := 14) rfl ?_); refine goesL_ (some 20) rfl rfl Try.func14 (by kernel_rfl) rfl #[.int .i64 a0, .int .i64 a1] rfl (by (try simp only [List.map_toArray, List.map_cons, List.map_nil]); first | done | rfl | (simp only [List.length_drop, List.length_take]; rfl)) ?_; (with_reducible refine (madrigalref10_Parts.calls k a0 a1 t223 t224 _ A4.out).mono ?_); rintro e w' ⟨rfl, ⟨nd, rfl⟩⟩; refine ⟨_, rfl, ?_⟩))
 (try simp only [Act.put, List.setIfInBounds_toArray, List.set_cons_zero, List.set_cons_succ])
 go_cut [9] (fun v9 wc => ∃ (kq : Nat) (x9_4 : Int), v9 = .int .i64 x9_4 ∧ Aside0 (madrigalref10_Phase.j0 kq a0 a2 t223 x9_4 = some r) ∧ Aside0 (kq ≤ k) ∧ Aside0 (Below w.heap.size w wc))
 case first =>
  have H := HC5.out; clear HC5
  by_cases c6 : a1 < a0
  ·
   rw [if_pos c6] at H; have c6b0 : decide (a1 < a0) = true := decide_eq_true c6; clear c6
   (first | rw [c6b0] | (simp only [i64_w, i32_w]; rw [c6b0]) | skip)
   have H' := Aside0.mk H; clear H
   go_wp2
   go_meet
   case rel => exact ⟨_, (a1), (by first | rfl | (simp; done) | (simp [*]; done)), H', ⟨by first | omega | exact Nat.le_refl _⟩, ⟨by repeat (with_reducible first | exact HB.out | apply below_alloc | apply pw_below_drewN | apply below_drew1)⟩⟩
  ·
   rw [if_neg c6] at H; have c6b0 : decide (a1 < a0) = false := decide_eq_false c6; clear c6
   (first | rw [c6b0] | (simp only [i64_w, i32_w]; rw [c6b0]) | skip)
   have H' := Aside0.mk H; clear H
   go_wp2
   go_meet
   case rel => exact ⟨_, (a0), (by first | rfl | (simp; done) | (simp [*]; done)), H', ⟨by first | omega | exact Nat.le_refl _⟩, ⟨by repeat (with_reducible first | exact HB.out | apply below_alloc | apply pw_below_drewN | apply below_drew1)⟩⟩
 case rest =>
  clear HC5; (try clear c1); (try clear p2); (try clear c6); (try clear c6b0); (try clear c6b0z0)
  obtain ⟨kq, x9_4, rfl, HA, HJ4, HB⟩ := hcut
  cases kq with
  | zero => exact absurd HA.out (by simp [madrigalref10_Phase.j0])
  | succ kj4 =>
   have H := HA.out; clear HA
   simp only [madrigalref10_Phase.j0] at H
   have H' := Aside0.mk H; clear H
   go_wp2
   go_loopg [10, 11, 12] kj4 (fun kq v10 v11 v12 w' => ∃ (x10_2 : List Int) (x11_2 : Int) (x12_2 : Int), v11 = .int .i64 x11_2 ∧ v12 = .int .i64 x12_2 ∧ Aside0 (madrigalref10_Phase.l0 kq a0 a2 t223 x9_4 x10_2 x11_2 x12_2 = some r) ∧ Aside0 (kq ≤ kj4) ∧ Aside0 (Kd.R (Kd.int .i64) 2 w' w.heap.size (fun _ => True) v10 x10_2) ∧ Aside0 (Below w.heap.size w w'))
   case atStart => exact ⟨(([] : List Int)), (0), ((-7)), (by first | rfl | (simp; done) | (simp [*]; done)), (by first | rfl | (simp; done) | (simp [*]; done)), H', ⟨Nat.le_refl _⟩, ⟨by first | exact Kd.R_nil _ _ _ _ _ | exact Kd.N_nil _ _ _ _ _ | exact Kd.V_nil _ _ _ _ _ | exact Kd.Q_nil _ _ _ _ _ | exact Kd.S_nil _ _ _ _ _⟩, ⟨by repeat (with_reducible first | exact HB.out | apply below_alloc | apply pw_below_drewN | apply below_drew1)⟩⟩
   case round =>
    clear H'
    (try clear c1); (try clear p2); (try clear c6); (try clear c6b0); (try clear c6b0z0); (try clear p2)
    obtain ⟨x10_2, x11_2, x12_2, rfl, rfl, HA, HK2, HO_10, HB⟩ := hrel
    cases gk with
    | zero => exact absurd HA.out (by simp [madrigalref10_Phase.l0])
    | succ k2 =>
     have H := HA.out; clear HA
     simp only [madrigalref10_Phase.l0] at H
     by_cases c7 : x12_2 ≤ 8
     ·
      rw [if_pos c7] at H; have c7b0 : decide (x12_2 ≤ 8) = true := decide_eq_true c7; clear c7
      by_cases c8 : a0 = 0
      ·
       rw [if_pos c8] at H; exact absurd H (by simp)
      ·
       rw [if_neg c8] at H; have c8b0 : (a0 == 0) = false := beq_eq_false_iff_ne.mpr c8; have c8b1 : (a0 != 0) = true := bne_iff_ne.mpr c8; have HC9 := Aside0.mk H; clear H
       go_upto_if 42 with (fail)
       go_cut [14] (fun v14 wc => ∃ (kq : Nat) (x14_8 : Int), v14 = .int .i64 x14_8 ∧ Aside0 (madrigalref10_Phase.j2 kq a0 a2 t223 x9_4 x10_2 x11_2 x12_2 (wrap64 ((wrap64 (x12_2 * t223)) - a2)) x14_8 = some r) ∧ Aside0 (kq ≤ k2) ∧ Aside0 (Kd.R (Kd.int .i64) 2 wc w.heap.size (fun _ => True) u10 x10_2) ∧ Aside0 (Below w.heap.size w wc))
       case first =>
        have H := HC9.out; clear HC9
        by_cases c10 : (wrap64 ((wrap64 (x12_2 * t223)) - a2)) = 0
        ·
         rw [if_pos c10] at H; have c10b0 : ((wrap64 ((wrap64 (x12_2 * t223)) - a2)) == 0) = true := beq_iff_eq.mpr c10; have c10b1 : ((wrap64 ((wrap64 (x12_2 * t223)) - a2)) != 0) = false := bne_eq_false_iff_eq.mpr c10; clear c10
         (first | rw [c10b0] | (simp only [i64_w, i32_w]; rw [c10b0]) | skip)
         have H' := Aside0.mk H; clear H
         go_wp2
         go_meet
         case rel => exact ⟨_, (wrap64 (Int.tdiv (wrap64 (32768 * x9_4)) a0)), (by first | rfl | (simp; done) | (simp [*]; done)), H', ⟨by have := HJ4.out; have := HK2.out; first | omega | exact Nat.le_refl _⟩, ⟨by (with_reducible repeat first | apply Kd.R_alloc | apply Kd.R_drewN | apply Kd.R_drew); exact HO_10.out⟩, ⟨by repeat (with_reducible first | exact HB.out | apply below_alloc | apply pw_below_drewN | apply below_drew1)⟩⟩
        ·
         rw [if_neg c10] at H; have c10b0 : ((wrap64 ((wrap64 (x12_2 * t223)) - a2)) == 0) = false := beq_eq_false_iff_ne.mpr c10; have c10b1 : ((wrap64 ((wrap64 (x12_2 * t223)) - a2)) != 0) = true := bne_iff_ne.mpr c10
         (first | rw [c10b0] | (simp only [i64_w, i32_w]; rw [c10b0]) | skip)
         replace H := Option.bind_eq_some_iff.mp H; obtain ⟨t227, A110, H⟩ := H
         replace H : ((madrigalref1_Sin.f k2 t227).bind fun t228 => ((madrigalref10_quotient.f (wrap64 ((wrap64 (t228 * t223)) * 32768)) (wrap64 (102944 * (wrap64 ((wrap64 (x12_2 * t223)) - a2))))).bind fun t229 => (madrigalref10_Phase.j2 k2 a0 a2 t223 x9_4 x10_2 x11_2 x12_2 (wrap64 ((wrap64 (x12_2 * t223)) - a2)) t229))) = some r := H
         have A11 := Aside0.mk A110; clear A110; replace H := Option.bind_eq_some_iff.mp H; obtain ⟨t228, A120, H⟩ := H
         replace H : ((madrigalref10_quotient.f (wrap64 ((wrap64 (t228 * t223)) * 32768)) (wrap64 (102944 * (wrap64 ((wrap64 (x12_2 * t223)) - a2))))).bind fun t229 => (madrigalref10_Phase.j2 k2 a0 a2 t223 x9_4 x10_2 x11_2 x12_2 (wrap64 ((wrap64 (x12_2 * t223)) - a2)) t229)) = some r := H
         have A12 := Aside0.mk A120; clear A120; replace H := Option.bind_eq_some_iff.mp H; obtain ⟨t229, A130, H⟩ := H
         replace H : (madrigalref10_Phase.j2 k2 a0 a2 t223 x9_4 x10_2 x11_2 x12_2 (wrap64 ((wrap64 (x12_2 * t223)) - a2)) t229) = some r := H
         have A13 := Aside0.mk A130; clear A130; have H' := Aside0.mk H; clear H
         go_wp2_with (first | ((with_reducible refine gate_callee (f := 30) rfl ?_); refine goesL_ (some 50) rfl rfl Try.func30 (by kernel_rfl) rfl #[.int .i64 (wrap64 ((wrap64 (32768 * x9_4)) * (wrap64 ((wrap64 (x12_2 * t223)) - a2)))), .int .i64 (wrap64 (a0 * t223))] rfl (by (try simp only [List.map_toArray, List.map_cons, List.map_nil]); first | done | rfl | (simp only [List.length_drop, List.length_take]; rfl)) ?_; (with_reducible refine (madrigalref1_Down.calls (wrap64 ((wrap64 (32768 * x9_4)) * (wrap64 ((wrap64 (x12_2 * t223)) - a2)))) (wrap64 (a0 * t223)) t227 _ A11.out).mono ?_); rintro e w' ⟨rfl, ⟨nd, rfl⟩⟩; refine ⟨_, rfl, ?_⟩) | ((with_reducible refine gate_callee (f := 29) rfl ?_); refine goesL_ (some 51) rfl rfl Try.func29 (by kernel_rfl) rfl #[.int .i64 t227] rfl (by (try simp only [List.map_toArray, List.map_cons, List.map_nil]); first | done | rfl | (simp only [List.length_drop, List.length_take]; rfl)) ?_; (with_reducible refine (madrigalref1_Sin.calls k2 t227 t228 _ A12.out).mono ?_); rintro e w14 ⟨rfl, hb⟩; refine ⟨_, rfl, ?_⟩; have n0_ := Aside0.mk (Kd.R_below (by (with_reducible repeat first | apply Kd.R_alloc | apply Kd.R_drewN | apply Kd.R_drew); exact HO_10.out) hb); have n1_ := Aside0.mk (below_step (by repeat (with_reducible first | exact HB.out | apply below_alloc | apply pw_below_drewN | apply below_drew1)) hb); clear HO_10; clear HB; have HO_10 := n0_; have HB := n1_; clear n0_ n1_; (try clear hb); (try clear hb2); (try clear hk); (try clear hi)) | ((with_reducible refine gate_callee (f := 31) rfl ?_); refine goesL_ (some 58) rfl rfl Try.func31 (by kernel_rfl) rfl #[.int .i64 (wrap64 ((wrap64 (t228 * t223)) * 32768)), .int .i64 (wrap64 (102944 * (wrap64 ((wrap64 (x12_2 * t223)) - a2))))] rfl (by (try simp only [List.map_toArray, List.map_cons, List.map_nil]); first | done | rfl | (simp only [List.length_drop, List.length_take]; rfl)) ?_; (with_reducible refine (madrigalref10_quotient.calls (wrap64 ((wrap64 (t228 * t223)) * 32768)) (wrap64 (102944 * (wrap64 ((wrap64 (x12_2 * t223)) - a2)))) t229 _ A13.out).mono ?_); rintro e w' ⟨rfl, ⟨nd, rfl⟩⟩; refine ⟨_, rfl, ?_⟩))
         go_meet
         case rel => exact ⟨_, (t229), (by first | rfl | (simp; done) | (simp [*]; done)), H', ⟨by have := HJ4.out; have := HK2.out; first | omega | exact Nat.le_refl _⟩, ⟨by (with_reducible repeat first | apply Kd.R_alloc | apply Kd.R_drewN | apply Kd.R_drew); exact HO_10.out⟩, ⟨by repeat (with_reducible first | exact HB.out | apply below_alloc | apply pw_below_drewN | apply below_drew1)⟩⟩
       case rest =>
        clear HC9; (try clear c1); (try clear c2); (try clear p2); (try clear c3); (try clear c6); (try clear c6b0); (try clear c6b0z0); (try clear p6); (try clear c7); (try clear c7b0); (try clear c7b0z0); (try clear c8); (try clear c8b0); (try clear c8b0z0); (try clear c8b1); (try clear c8b1z0); (try clear c10); (try clear c10b0); (try clear c10b0z0); (try clear c10b1); (try clear c10b1z0); (try clear c14); (try clear p2)
        obtain ⟨kq, x14_8, rfl, HA, HJ8, HO_10, HB⟩ := hcut
        cases kq with
        | zero => exact absurd HA.out (by simp [madrigalref10_Phase.j2])
        | succ kj8 =>
         have H := HA.out; clear HA
         simp only [madrigalref10_Phase.j2] at H
         replace H := Option.bind_eq_some_iff.mp H; obtain ⟨t230, A150, H⟩ := H
         replace H : ((madrigalref1_Cos.f kj8 t230).bind fun t231 => ((madrigalref1_Mul.f kj8 t231 1 1).bind fun t232 => ((madrigalref1_Mul.f kj8 x14_8 (wrap64 (16384 + t232)) 15).bind fun t233 => (if x10_2.length < 17592186044416 then (madrigalref10_Phase.l0 kj8 a0 a2 t223 x9_4 (x10_2 ++ [t233]) (wrap64 (x11_2 + t233)) (wrap64 (x12_2 + 1))) else (none))))) = some r := H
         have A15 := Aside0.mk A150; clear A150; replace H := Option.bind_eq_some_iff.mp H; obtain ⟨t231, A160, H⟩ := H
         replace H : ((madrigalref1_Mul.f kj8 t231 1 1).bind fun t232 => ((madrigalref1_Mul.f kj8 x14_8 (wrap64 (16384 + t232)) 15).bind fun t233 => (if x10_2.length < 17592186044416 then (madrigalref10_Phase.l0 kj8 a0 a2 t223 x9_4 (x10_2 ++ [t233]) (wrap64 (x11_2 + t233)) (wrap64 (x12_2 + 1))) else (none)))) = some r := H
         have A16 := Aside0.mk A160; clear A160; replace H := Option.bind_eq_some_iff.mp H; obtain ⟨t232, A170, H⟩ := H
         replace H : ((madrigalref1_Mul.f kj8 x14_8 (wrap64 (16384 + t232)) 15).bind fun t233 => (if x10_2.length < 17592186044416 then (madrigalref10_Phase.l0 kj8 a0 a2 t223 x9_4 (x10_2 ++ [t233]) (wrap64 (x11_2 + t233)) (wrap64 (x12_2 + 1))) else (none))) = some r := H
         have A17 := Aside0.mk A170; clear A170; replace H := Option.bind_eq_some_iff.mp H; obtain ⟨t233, A180, H⟩ := H
         replace H : (if x10_2.length < 17592186044416 then (madrigalref10_Phase.l0 kj8 a0 a2 t223 x9_4 (x10_2 ++ [t233]) (wrap64 (x11_2 + t233)) (wrap64 (x12_2 + 1))) else (none)) = some r := H
         have A18 := Aside0.mk A180; clear A180
         by_cases c19 : x10_2.length < 17592186044416; rotate_left
         · rw [if_neg c19] at H; exact absurd H (by simp)
         rw [if_pos c19] at H; have LMc19 := Aside0.mk c19; clear c19
         obtain ⟨y234, hy234⟩ : ∃ y_ : List Int, y_ = (x10_2 ++ [t233]) := ⟨_, rfl⟩
         replace H : (madrigalref10_Phase.l0 kj8 a0 a2 t223 x9_4 y234 (wrap64 (x11_2 + t233)) (wrap64 (x12_2 + 1))) = some r := by first | (rw [hy234]; with_reducible exact H) | (have H2_ := (Option.bind_some _ _).symm.trans H; rw [hy234]; with_reducible exact H2_) | (have H2_ := (Option.bind_some _ _).symm.trans H; with_reducible exact H2_) | with_reducible exact H | (rw [hy234]; exact H) | exact H
         have Ny234 := Aside0.mk hy234; clear hy234; have H' := Aside0.mk H; clear H
         go_wp2_with (first | ((with_reducible refine gate_callee (f := 30) rfl ?_); refine goesL_ (some 62) rfl rfl Try.func30 (by kernel_rfl) rfl #[.int .i64 (wrap64 (4096 * (wrap64 ((wrap64 (x12_2 * t223)) - a2)))), .int .i64 t223] rfl (by (try simp only [List.map_toArray, List.map_cons, List.map_nil]); first | done | rfl | (simp only [List.length_drop, List.length_take]; rfl)) ?_; (with_reducible refine (madrigalref1_Down.calls (wrap64 (4096 * (wrap64 ((wrap64 (x12_2 * t223)) - a2)))) t223 t230 _ A15.out).mono ?_); rintro e w' ⟨rfl, ⟨nd, rfl⟩⟩; refine ⟨_, rfl, ?_⟩) | ((with_reducible refine gate_callee (f := 33) rfl ?_); refine goesL_ (some 63) rfl rfl Try.func33 (by kernel_rfl) rfl #[.int .i64 t230] rfl (by (try simp only [List.map_toArray, List.map_cons, List.map_nil]); first | done | rfl | (simp only [List.length_drop, List.length_take]; rfl)) ?_; (with_reducible refine (madrigalref1_Cos.calls kj8 t230 t231 _ A16.out).mono ?_); rintro e w20 ⟨rfl, hb⟩; refine ⟨_, rfl, ?_⟩; have n0_ := Aside0.mk (Kd.R_below (by (with_reducible repeat first | apply Kd.R_alloc | apply Kd.R_drewN | apply Kd.R_drew); exact HO_10.out) hb); have n1_ := Aside0.mk (below_step (by repeat (with_reducible first | exact HB.out | apply below_alloc | apply pw_below_drewN | apply below_drew1)) hb); clear HO_10; clear HB; have HO_10 := n0_; have HB := n1_; clear n0_ n1_; (try clear hb); (try clear hb2); (try clear hk); (try clear hi)) | ((with_reducible refine gate_callee (f := 32) rfl ?_); refine goesL_ (some 64) rfl rfl Try.func32 (by kernel_rfl) rfl #[.int .i64 t231, .int .i64 1, .int .i64 1] rfl (by (try simp only [List.map_toArray, List.map_cons, List.map_nil]); first | done | rfl | (simp only [List.length_drop, List.length_take]; rfl)) ?_; (with_reducible refine (madrigalref1_Mul.calls kj8 t231 1 1 t232 _ A17.out).mono ?_); rintro e w' ⟨rfl, ⟨nd, rfl⟩⟩; refine ⟨_, rfl, ?_⟩) | ((with_reducible refine gate_callee (f := 32) rfl ?_); refine goesL_ (some 68) rfl rfl Try.func32 (by kernel_rfl) rfl #[.int .i64 x14_8, .int .i64 (wrap64 (16384 + t232)), .int .i64 15] rfl (by (try simp only [List.map_toArray, List.map_cons, List.map_nil]); first | done | rfl | (simp only [List.length_drop, List.length_take]; rfl)) ?_; (with_reducible refine (madrigalref1_Mul.calls kj8 x14_8 (wrap64 (16384 + t232)) 15 t233 _ A18.out).mono ?_); rintro e w' ⟨rfl, ⟨nd, rfl⟩⟩; refine ⟨_, rfl, ?_⟩) | ((with_reducible refine gate_builtin (b := .append) (xs := #[.tmp 69, .tmp 71]) rfl ?_); at_builtin; refine Kd.R_append (Kd.int .i64) (w0 := w) w.heap.size rfl (.tmp 69) (.tmp 71) 27 2 (.int .i64 0) 8 rfl Try.underlying27 info2 rfl (by decide) (by omega) u10 x10_2 t233 [.int .i64 t233] (fun _ => True) (fun _ => False) rfl rfl ?aP (fun _ hk => hk.elim) ?aF ?aO ?aB ?aS ?aL ?_; (case aP => exact rfl); (case aB => exact (by repeat (with_reducible first | exact HB.out | apply below_alloc | apply pw_below_drewN | apply below_drew1))); (case aF => exact (fun _ _ => trivial)); (case aO => exact (by (with_reducible repeat first | apply Kd.R_alloc | apply Kd.R_drewN | apply Kd.R_drew); exact HO_10.out)); (case aS => exact (below_size (by repeat (with_reducible first | exact HB.out | apply below_alloc | apply pw_below_drewN | apply below_drew1)))); (case aL => have := LMc19.out; omega); intro v235 w21 ho hb hg hat; rw [← Ny234.out] at ho; have n0_ := Aside0.mk (hb); have n1_ := Aside0.mk (ho); clear HB; clear HO_10; have HB := n0_; have HO236 := n1_; clear n0_ n1_; clear ho hb hg hat))
         go_roundg kj8
         case measure => have := HJ4.out; have := HK2.out; have := HJ8.out; omega
         case rel => exact ⟨(y234), (wrap64 (x11_2 + t233)), (wrap64 (x12_2 + 1)), (by first | rfl | (simp; done) | (simp [*]; done)), (by first | rfl | (simp; done) | (simp [*]; done)), H', ⟨by have := HJ4.out; have := HK2.out; have := HJ8.out; omega⟩, ⟨by (with_reducible repeat first | apply Kd.R_alloc | apply Kd.R_drewN | apply Kd.R_drew); exact HO236.out⟩, ⟨by repeat (with_reducible first | exact HB.out | apply below_alloc | apply pw_below_drewN | apply below_drew1)⟩⟩
     ·
      rw [if_neg c7] at H; have c7b0 : decide (x12_2 ≤ 8) = false := decide_eq_false c7; clear c7
      by_cases c22 : 7 < (x10_2.length : Int); rotate_left
      · rw [if_neg c22] at H; exact absurd H (by simp)
      rw [if_pos c22] at H; have c22b0 : decide (7 < (x10_2.length : Int)) = true := decide_eq_true c22; have c22b1 : decide (7 < x10_2.length) = true := decide_eq_true (by omega); clear c22
      obtain ⟨y226, hy226⟩ : ∃ y_ : List Int, y_ = (x10_2.set (7 : Int).toNat (wrap64 ((wrap64 ((rd x10_2 7) + 32768)) - x11_2))) := ⟨_, rfl⟩
      replace H : (some y226) = some r := by first | (rw [hy226]; with_reducible exact H) | (have H2_ := (Option.bind_some _ _).symm.trans H; rw [hy226]; with_reducible exact H2_) | (have H2_ := (Option.bind_some _ _).symm.trans H; with_reducible exact H2_) | with_reducible exact H | (rw [hy226]; exact H) | exact H
      have Ny226 := Aside0.mk hy226; clear hy226
      obtain rfl := Option.some.inj H
      obtain ⟨Ao24, co24, eo24⟩ := Kd.R_slice HO_10.out
      subst eo24
      have p225 : 0 ≤ (7 : Int) := (by omega)
      have q225 : 7 < (x10_2.length : Int) := of_decide_eq_true (by first | (with_reducible assumption) | assumption)
      obtain ⟨ad225, e225, hx225_0⟩ := Kd.at_int (Kd.R_reads' HO_10.out).2.2 7 p225 q225
      cases e225; (try simp only [show (7 : Int).toNat = 7 from rfl, Nat.reduceMul, Nat.reduceEqDiff, Go.Addr.add, ↓reduceIte] at hx225_0)
      have qi225 : (7 < x10_2.length) = True := eq_true (by omega)
      (try rw [show ((7 : Int)).toNat = 7 from rfl] at hx225_0); replace p225 := eq_true p225; replace q225 := eq_true q225
      have p23 : 0 ≤ (7 : Int) := (by omega)
      have q23 : (7 : Int) < ((x10_2.length : Int) : Int) := of_decide_eq_true (by first | (with_reducible assumption) | assumption)
      have qi23 : (7 < x10_2.length) = True := eq_true (by omega)
      obtain ⟨go23, co23, eo23, gb23, gl23, cl23, HG23⟩ := Kd.R_form HO_10.out (by omega)
      (first | cases eo23 | (injection eo23 with ea_ en_ ec_; (first | subst ea_ | (injection ea_ with ea_; subst ea_)); subst ec_; clear en_))
      have GB23 := Aside0.mk gb23; have GG23 := Aside0.mk HG23; clear gb23 gl23 HG23
      (first | simp only [add_plain] at hx225_0 | skip)
      obtain ⟨hx23_0, hf23_0⟩ := Kd.R_celln 0 HO_10.out (7 : Int) p23 q23
      (try rw [show ((7 : Int)).toNat = 7 from rfl] at hx23_0); (try simp only [Nat.reduceMul, Nat.zero_mul, Nat.zero_add, Nat.reduceAdd] at hx23_0); (try rw [show ((7 : Int)).toNat = 7 from rfl] at hf23_0); (try simp only [Nat.reduceMul, Nat.zero_mul, Nat.zero_add, Nat.reduceAdd] at hf23_0); replace p23 := eq_true p23; replace q23 := eq_true q23
      have HP25 := Kd.R_putg HO_10.out (7 : Int) (wrap64 ((wrap64 ((rd x10_2 7) + 32768)) - x11_2))
      go_wp2_with (first | ((with_reducible refine gate_store (t := 2) (p := 83) rfl ?_); refine store_event (t := 2) (p := 83) (v := ?vo_w26) (w1 := (wr.setCell ⟨go23, (7 : Int).toNat, none⟩ (.int .i64 (wrap64 ((wrap64 ((rd x10_2 7) + 32768)) - x11_2))))) ?hg ?ho ?hn ?hr ?_; (case ho => rfl); (case hg => rfl); (case hn => rfl); (case hr => first | (go_simp; done) | (go_simp; rfl)); intro w26 hw; have hg : wr.grownBy w26 (some go23) := (by rw [hw]; exact HP25.2); have hp_ : Kd.R (Kd.int .i64) 2 w26 w.heap.size (fun _ => True) (.slice (some ⟨go23, 0, none⟩) x10_2.length co24) y226 := (by rw [hw, Ny226.out]; exact HP25.1); clear HP25; have n0_ := Aside0.mk (hp_); have n1_ := Aside0.mk ((by rw [hw]; exact below_set (HB.out) GB23.out : Below w.heap.size w w26)); clear HO_10; clear HB; have HO_10 := n0_; have HB := n1_; clear n0_ n1_; clear hg hw hp_))
      go_ret
      exact ⟨_, by first | rfl | (simp [errW_none, errW_some] <;> rfl) | (simp [*, errW_none, errW_some] <;> rfl), by (with_reducible repeat first | apply Kd.R_alloc | apply Kd.R_drewN | apply Kd.R_drew); exact HO_10.out, by repeat (with_reducible first | exact HB.out | apply below_alloc | apply pw_below_drewN | apply below_drew1)⟩

-- NOT PRINTED: function 4 (madrigallaw22_ResampFilters)

-- NOT PRINTED: function 5 (madrigallaw22_ResampCuts)

/-! ### madrigalref1_Sat16: function 19 -/
def madrigalref1_Sat16.f (k : Nat) (a0 : Int) : Option (Int) := (madrigalref1_Clamp.f k a0 (-32768) 32767).bind fun t237 => (some t237)
set_option maxHeartbeats 8000000 in
set_option maxRecDepth 100000 in
theorem madrigalref1_Sat16.calls (k : Nat) (a0 : Int) (r : Int) (w : World) (h : madrigalref1_Sat16.f k a0 = some r) :
  Calls Try.prog 19 #[.int .i64 a0] w fun e w' => e = .returned (.int .i64 r) ∧ Drawn0 w w' := by
 have H : ((madrigalref1_Clamp.f k a0 (-32768) 32767).bind fun t237 => (some t237)) = some r := h
 clear h; replace H := Option.bind_eq_some_iff.mp H; obtain ⟨t237, A20, H⟩ := H
 replace H : (some t237) = some r := H
 have A2 := Aside0.mk A20; clear A20
 obtain rfl := Option.some.inj H
 go_enter Try.func19, Try.ntmps19
 go_wp2_with (first | ((with_reducible refine gate_callee (f := 34) rfl ?_); refine goesL_ (some 4) rfl rfl Try.func34 (by kernel_rfl) rfl #[.int .i64 a0, .int .i64 (-32768), .int .i64 32767] rfl (by (try simp only [List.map_toArray, List.map_cons, List.map_nil]); first | done | rfl | (simp only [List.length_drop, List.length_take]; rfl)) ?_; (with_reducible refine (madrigalref1_Clamp.calls k a0 (-32768) 32767 t237 _ A2.out).mono ?_); rintro e w' ⟨rfl, ⟨nd, rfl⟩⟩; refine ⟨_, rfl, ?_⟩))
 go_ret
 exact ⟨by first | rfl | (simp; done) | (simp [*]; done), by repeat (first | exact Drawn0.refl _ | apply Drawn0.step)⟩

-- NOT PRINTED: function 6 (madrigallaw22_ResampConstant)

-- NOT PRINTED: function 7 (madrigallaw22_ResampOne)

end Go.Proofs.Ytocnpnpedmapbaa.MA
