/- Functions of the program as plain Lean functions, and that the code comes to their answers. No condition. -/
import Derived.Test.YtmfjmbdicjeooaaMAx0
import Derived.Test.YtmfjmbdicjeooaaMAx3
import Derived.Test.YtmfjmbdicjeooaaMAx5
namespace Go.Proofs.Ytmfjmbdicjeooaa.MA
open Go.RowKit Go.Proofs.YtmfjmbdicjeooaaW.PrintWords Go.Proofs.YtmfjmbdicjeooaaW.PrintLast Go.Proofs.YtmfjmbdicjeooaaW.PrintMore
attribute [local go_sem] max2_int min2_int max_two min_two max_three min_three max_four min_four
set_option linter.unusedVariables false
set_option linter.unusedSimpArgs false

/-! ### madrigalref1_Window: function 17 -/
mutual
def madrigalref1_Window.l0 : Nat → Int → List Int → Int → Option (List Int)
 | 0, _, _, _ => none
 | k + 1, x0, x3, x4 => if x4 < x0 then (madrigalref1_Window.j1 k x0 x3 x4 (decide (x0 ≤ 480))) else (madrigalref1_Window.j1 k x0 x3 x4 false)
def madrigalref1_Window.j1 : Nat → Int → List Int → Int → Bool → Option (List Int)
 | 0, _, _, _, _ => none
 | k + 1, x0, x3, x4, x12 => if x12 = true then (if x0 = 0 then (none) else ((madrigalref1_Sin.f k (wrap64 (Int.tdiv (wrap64 ((wrap64 (Int.tdiv (wrap64 ((wrap64 ((wrap64 (2 * x4)) + 1)) * 16384)) x0)) + 1)) 2))).bind fun t290 => ((madrigalref1_Mul.f k t290 t290 15).bind fun t291 => ((madrigalref1_Sin.f k (wrap64 (Int.tdiv (wrap64 (t291 + 1)) 2))).bind fun t292 => (if x3.length < 17592186044416 then (madrigalref1_Window.l0 k x0 (x3 ++ [t292]) (wrap64 (x4 + 1))) else (none)))))) else (some x3)
end
def madrigalref1_Window.f (k : Nat) (a0 : Int) : Option (List Int) := madrigalref1_Window.l0 k a0 ([] : List Int) 0
set_option maxHeartbeats 8000000 in
set_option maxRecDepth 100000 in
theorem madrigalref1_Window.calls (k : Nat) (a0 : Int) (r : List Int) (w : World) (h : madrigalref1_Window.f k a0 = some r) :
  Calls Try.prog 17 #[.int .i64 a0] w fun e w' => ∃ v0_ : Value, e = .returned (v0_) ∧ Kd.R (Kd.int .i64) 2 w' w.heap.size (fun _ => True) v0_ r ∧ Below w.heap.size w w' := by
 have HB := Aside0.mk (Below.refl w.heap.size w)
 have H : (madrigalref1_Window.l0 k a0 ([] : List Int) 0) = some r := h
 clear h; have H' := Aside0.mk H; clear H
 go_enter Try.func17, Try.ntmps17
 go_wp2
 go_loopg [3, 4] k (fun kq v3 v4 w' => ∃ (x3_1 : List Int) (x4_1 : Int), v4 = .int .i64 x4_1 ∧ Aside0 (madrigalref1_Window.l0 kq a0 x3_1 x4_1 = some r) ∧ Aside0 (kq ≤ k) ∧ Aside0 (Kd.R (Kd.int .i64) 2 w' w.heap.size (fun _ => True) v3 x3_1) ∧ Aside0 (Below w.heap.size w w'))
 case atStart => exact ⟨(([] : List Int)), (0), (by first | rfl | (simp; done) | (simp [*]; done)), H', ⟨Nat.le_refl _⟩, ⟨by first | exact Kd.R_nil _ _ _ _ _ | exact Kd.N_nil _ _ _ _ _ | exact Kd.V_nil _ _ _ _ _ | exact Kd.Q_nil _ _ _ _ _ | exact Kd.S_nil _ _ _ _ _⟩, ⟨by repeat (with_reducible first | exact HB.out | apply below_alloc | apply pw_below_drewN | apply below_drew1)⟩⟩
 case round =>
  clear H'
  try clear c1
  obtain ⟨x3_1, x4_1, rfl, HA, HK1, HO_3, HB⟩ := hrel
  cases gk with
  | zero => exact absurd HA.out (by simp [madrigalref1_Window.l0])
  | succ k1 =>
   have H := HA.out; clear HA
   simp only [madrigalref1_Window.l0] at H
   have HC2 := Aside0.mk H; clear H
   go_upto_region 3 with (fail)
   go_cut [12] (fun v12 wc => ∃ (kq : Nat) (x12_1 : Bool), v12 = .bool x12_1 ∧ Aside0 (madrigalref1_Window.j1 kq a0 x3_1 x4_1 x12_1 = some r) ∧ Aside0 (kq ≤ k1) ∧ Aside0 (Kd.R (Kd.int .i64) 2 wc w.heap.size (fun _ => True) u3 x3_1) ∧ Aside0 (Below w.heap.size w wc))
   case first =>
    have H := HC2.out; clear HC2
    by_cases c3 : x4_1 < a0
    ·
     rw [if_pos c3] at H; have c3b0 : decide (x4_1 < a0) = true := decide_eq_true c3; clear c3
     (first | rw [c3b0] | (simp only [i64_w, i32_w]; rw [c3b0]) | skip)
     have H' := Aside0.mk H; clear H
     go_wp2
     go_meet
     case rel => exact ⟨_, (decide (a0 ≤ 480)), (by first | rfl | (simp; done) | (simp [*]; done)), H', ⟨by have := HK1.out; first | omega | exact Nat.le_refl _⟩, ⟨by (with_reducible repeat first | apply Kd.R_alloc | apply Kd.R_drewN | apply Kd.R_drew); exact HO_3.out⟩, ⟨by repeat (with_reducible first | exact HB.out | apply below_alloc | apply pw_below_drewN | apply below_drew1)⟩⟩
    ·
     rw [if_neg c3] at H; have c3b0 : decide (x4_1 < a0) = false := decide_eq_false c3; clear c3
     (first | rw [c3b0] | (simp only [i64_w, i32_w]; rw [c3b0]) | skip)
     have H' := Aside0.mk H; clear H
     go_wp2
     go_meet
     case rel => exact ⟨_, (false), (by first | rfl | (simp; done) | (simp [*]; done)), H', ⟨by have := HK1.out; first | omega | exact Nat.le_refl _⟩, ⟨by (with_reducible repeat first | apply Kd.R_alloc | apply Kd.R_drewN | apply Kd.R_drew); exact HO_3.out⟩, ⟨by repeat (with_reducible first | exact HB.out | apply below_alloc | apply pw_below_drewN | apply below_drew1)⟩⟩
   case rest =>
    clear HC2; (try clear c1); (try clear p2); (try clear c3); (try clear c3b0); (try clear c3b0z0)
    obtain ⟨kq, x12_1, rfl, HA, HJ1, HO_3, HB⟩ := hcut
    cases kq with
    | zero => exact absurd HA.out (by simp [madrigalref1_Window.j1])
    | succ kj1 =>
     have H := HA.out; clear HA
     simp only [madrigalref1_Window.j1] at H
     by_cases c4 : x12_1 = true
     ·
      subst c4
      have H1 : (if a0 = 0 then (none) else ((madrigalref1_Sin.f kj1 (wrap64 (Int.tdiv (wrap64 ((wrap64 (Int.tdiv (wrap64 ((wrap64 ((wrap64 (2 * x4_1)) + 1)) * 16384)) a0)) + 1)) 2))).bind fun t290 => ((madrigalref1_Mul.f kj1 t290 t290 15).bind fun t291 => ((madrigalref1_Sin.f kj1 (wrap64 (Int.tdiv (wrap64 (t291 + 1)) 2))).bind fun t292 => (if x3_1.length < 17592186044416 then (madrigalref1_Window.l0 kj1 a0 (x3_1 ++ [t292]) (wrap64 (x4_1 + 1))) else (none)))))) = some r := by rw [if_pos rfl] at H; exact H
      clear H; have H := H1; clear H1
      by_cases c5 : a0 = 0
      ·
       rw [if_pos c5] at H; exact absurd H (by simp)
      ·
       rw [if_neg c5] at H; have c5b0 : (a0 == 0) = false := beq_eq_false_iff_ne.mpr c5; have c5b1 : (a0 != 0) = true := bne_iff_ne.mpr c5; replace H := Option.bind_eq_some_iff.mp H; obtain ⟨t290, A60, H⟩ := H
       replace H : ((madrigalref1_Mul.f kj1 t290 t290 15).bind fun t291 => ((madrigalref1_Sin.f kj1 (wrap64 (Int.tdiv (wrap64 (t291 + 1)) 2))).bind fun t292 => (if x3_1.length < 17592186044416 then (madrigalref1_Window.l0 kj1 a0 (x3_1 ++ [t292]) (wrap64 (x4_1 + 1))) else (none)))) = some r := H
       have A6 := Aside0.mk A60; clear A60; replace H := Option.bind_eq_some_iff.mp H; obtain ⟨t291, A70, H⟩ := H
       replace H : ((madrigalref1_Sin.f kj1 (wrap64 (Int.tdiv (wrap64 (t291 + 1)) 2))).bind fun t292 => (if x3_1.length < 17592186044416 then (madrigalref1_Window.l0 kj1 a0 (x3_1 ++ [t292]) (wrap64 (x4_1 + 1))) else (none))) = some r := H
       have A7 := Aside0.mk A70; clear A70; replace H := Option.bind_eq_some_iff.mp H; obtain ⟨t292, A80, H⟩ := H
       replace H : (if x3_1.length < 17592186044416 then (madrigalref1_Window.l0 kj1 a0 (x3_1 ++ [t292]) (wrap64 (x4_1 + 1))) else (none)) = some r := H
       have A8 := Aside0.mk A80; clear A80
       by_cases c9 : x3_1.length < 17592186044416; rotate_left
       · rw [if_neg c9] at H; exact absurd H (by simp)
       rw [if_pos c9] at H; have LMc9 := Aside0.mk c9; clear c9
       obtain ⟨y293, hy293⟩ : ∃ y_ : List Int, y_ = (x3_1 ++ [t292]) := ⟨_, rfl⟩
       replace H : (madrigalref1_Window.l0 kj1 a0 y293 (wrap64 (x4_1 + 1))) = some r := by first | (rw [hy293]; with_reducible exact H) | (have H2_ := (Option.bind_some _ _).symm.trans H; rw [hy293]; with_reducible exact H2_) | (have H2_ := (Option.bind_some _ _).symm.trans H; with_reducible exact H2_) | with_reducible exact H | (rw [hy293]; exact H) | exact H
       have Ny293 := Aside0.mk hy293; clear hy293; have H' := Aside0.mk H; clear H
       go_wp2_with (first | ((with_reducible refine gate_callee (f := 26) rfl ?_); refine goesL_ (some 23) rfl rfl Try.func26 (by kernel_rfl) rfl #[.int .i64 (wrap64 (Int.tdiv (wrap64 ((wrap64 (Int.tdiv (wrap64 ((wrap64 ((wrap64 (2 * x4_1)) + 1)) * 16384)) a0)) + 1)) 2))] rfl (by (try simp only [List.map_toArray, List.map_cons, List.map_nil]); first | done | rfl | (simp only [List.length_drop, List.length_take]; rfl)) ?_; (with_reducible refine (madrigalref1_Sin.calls kj1 (wrap64 (Int.tdiv (wrap64 ((wrap64 (Int.tdiv (wrap64 ((wrap64 ((wrap64 (2 * x4_1)) + 1)) * 16384)) a0)) + 1)) 2)) t290 _ A6.out).mono ?_); rintro e w10 ⟨rfl, hb⟩; refine ⟨_, rfl, ?_⟩; have n0_ := Aside0.mk (Kd.R_below (by (with_reducible repeat first | apply Kd.R_alloc | apply Kd.R_drewN | apply Kd.R_drew); exact HO_3.out) hb); have n1_ := Aside0.mk (below_step (by repeat (with_reducible first | exact HB.out | apply below_alloc | apply pw_below_drewN | apply below_drew1)) hb); clear HO_3; clear HB; have HO_3 := n0_; have HB := n1_; clear n0_ n1_; (try clear hb); (try clear hb2); (try clear hk); (try clear hi)) | ((with_reducible refine gate_callee (f := 27) rfl ?_); refine goesL_ (some 27) rfl rfl Try.func27 (by kernel_rfl) rfl #[.int .i64 t290, .int .i64 t290, .int .i64 15] rfl (by (try simp only [List.map_toArray, List.map_cons, List.map_nil]); first | done | rfl | (simp only [List.length_drop, List.length_take]; rfl)) ?_; (with_reducible refine (madrigalref1_Mul.calls kj1 t290 t290 15 t291 _ A7.out).mono ?_); rintro e w' ⟨rfl, ⟨nd, rfl⟩⟩; refine ⟨_, rfl, ?_⟩) | ((with_reducible refine gate_callee (f := 26) rfl ?_); refine goesL_ (some 30) rfl rfl Try.func26 (by kernel_rfl) rfl #[.int .i64 (wrap64 (Int.tdiv (wrap64 (t291 + 1)) 2))] rfl (by (try simp only [List.map_toArray, List.map_cons, List.map_nil]); first | done | rfl | (simp only [List.length_drop, List.length_take]; rfl)) ?_; (with_reducible refine (madrigalref1_Sin.calls kj1 (wrap64 (Int.tdiv (wrap64 (t291 + 1)) 2)) t292 _ A8.out).mono ?_); rintro e w11 ⟨rfl, hb⟩; refine ⟨_, rfl, ?_⟩; have n0_ := Aside0.mk (Kd.R_below (by (with_reducible repeat first | apply Kd.R_alloc | apply Kd.R_drewN | apply Kd.R_drew); exact HO_3.out) hb); have n1_ := Aside0.mk (below_step (by repeat (with_reducible first | exact HB.out | apply below_alloc | apply pw_below_drewN | apply below_drew1)) hb); clear HO_3; clear HB; have HO_3 := n0_; have HB := n1_; clear n0_ n1_; (try clear hb); (try clear hb2); (try clear hk); (try clear hi)) | ((with_reducible refine gate_builtin (b := .append) (xs := #[.tmp 24, .tmp 31]) rfl ?_); at_builtin; refine Kd.R_append (Kd.int .i64) (w0 := w) w.heap.size rfl (.tmp 24) (.tmp 31) 30 2 (.int .i64 0) 8 rfl Try.underlying30 info2 rfl (by decide) (by omega) u3 x3_1 t292 [.int .i64 t292] (fun _ => True) (fun _ => False) rfl rfl ?aP (fun _ hk => hk.elim) ?aF ?aO ?aB ?aS ?aL ?_; (case aP => exact rfl); (case aB => exact (by repeat (with_reducible first | exact HB.out | apply below_alloc | apply pw_below_drewN | apply below_drew1))); (case aF => exact (fun _ _ => trivial)); (case aO => exact (by (with_reducible repeat first | apply Kd.R_alloc | apply Kd.R_drewN | apply Kd.R_drew); exact HO_3.out)); (case aS => exact (below_size (by repeat (with_reducible first | exact HB.out | apply below_alloc | apply pw_below_drewN | apply below_drew1)))); (case aL => have := LMc9.out; omega); intro v294 w12 ho hb hg hat; rw [← Ny293.out] at ho; have n0_ := Aside0.mk (hb); have n1_ := Aside0.mk (ho); clear HB; clear HO_3; have HB := n0_; have HO295 := n1_; clear n0_ n1_; clear ho hb hg hat))
       go_roundg kj1
       case measure => have := HK1.out; have := HJ1.out; omega
       case rel => exact ⟨(y293), (wrap64 (x4_1 + 1)), (by first | rfl | (simp; done) | (simp [*]; done)), H', ⟨by have := HK1.out; have := HJ1.out; omega⟩, ⟨by (with_reducible repeat first | apply Kd.R_alloc | apply Kd.R_drewN | apply Kd.R_drew); exact HO295.out⟩, ⟨by repeat (with_reducible first | exact HB.out | apply below_alloc | apply pw_below_drewN | apply below_drew1)⟩⟩
     ·
      replace c4 := Bool.eq_false_iff.mpr c4
      subst c4
      have H1 : (some x3_1) = some r := by rw [if_neg (show ¬ (false = true) by decide)] at H; exact H
      clear H; have H := H1; clear H1
      obtain rfl := Option.some.inj H
      go_wp2
      go_ret
      exact ⟨_, by first | rfl | (simp [errW_none, errW_some] <;> rfl) | (simp [*, errW_none, errW_some] <;> rfl), by (with_reducible repeat first | apply Kd.R_alloc | apply Kd.R_drewN | apply Kd.R_drew); exact HO_3.out, by repeat (with_reducible first | exact HB.out | apply below_alloc | apply pw_below_drewN | apply below_drew1)⟩

/-! ### madrigalref1_Lsf: function 19 -/
mutual
def madrigalref1_Lsf.j0 : Nat → Int → Int → Bool → Option (List Int)
 | 0, _, _, _ => none
 | k + 1, x0, x1, x21 => if x21 = true then (some ([] : List Int)) else (if x0 = 16 then (madrigalref1_Lsf.j1 k x0 x1 14) else (madrigalref1_Lsf.j1 k x0 x1 24))
def madrigalref1_Lsf.j1 : Nat → Int → Int → Int → Option (List Int)
 | 0, _, _, _ => none
 | k + 1, x0, x1, x5 => madrigalref1_Lsf.l0 k x0 x1 x5 ([] : List Int) 0
def madrigalref1_Lsf.l0 : Nat → Int → Int → Int → List Int → Int → Option (List Int)
 | 0, _, _, _, _, _ => none
 | k + 1, x0, x1, x5, x6, x7 => if x7 < x0 then (if (wrap64 (x0 + 1)) = 0 then (none) else (if x6.length < 17592186044416 then (madrigalref1_Lsf.l0 k x0 x1 x5 (x6 ++ [wrap64 ((wrap64 (Int.tdiv (wrap64 (32768 * (wrap64 (x7 + 1)))) (wrap64 (x0 + 1)))) + (wrap64 (x5 * (wrap64 ((Int.tmod (wrap64 ((wrap64 (37 * x1)) + (wrap64 (53 * x7)))) 64) - 32)))))]) (wrap64 (x7 + 1))) else (none))) else (some x6)
end
def madrigalref1_Lsf.f (k : Nat) (a0 : Int) (a1 : Int) : Option (List Int) := if a0 = 10 then (if a1 < 0 then (madrigalref1_Lsf.j0 k a0 a1 true) else (madrigalref1_Lsf.j0 k a0 a1 (decide (a1 > 15)))) else (if a0 = 16 then (if a1 < 0 then (madrigalref1_Lsf.j0 k a0 a1 true) else (madrigalref1_Lsf.j0 k a0 a1 (decide (a1 > 15)))) else (madrigalref1_Lsf.j0 k a0 a1 true))
set_option maxHeartbeats 8000000 in
set_option maxRecDepth 100000 in
theorem madrigalref1_Lsf.calls (k : Nat) (a0 : Int) (a1 : Int) (r : List Int) (w : World) (h : madrigalref1_Lsf.f k a0 a1 = some r) :
  Calls Try.prog 19 #[.int .i64 a0, .int .i64 a1] w fun e w' => ∃ v0_ : Value, e = .returned (v0_) ∧ Kd.R (Kd.int .i64) 2 w' w.heap.size (fun _ => True) v0_ r ∧ Below w.heap.size w w' := by
 have HB := Aside0.mk (Below.refl w.heap.size w)
 have H : (if a0 = 10 then (if a1 < 0 then (madrigalref1_Lsf.j0 k a0 a1 true) else (madrigalref1_Lsf.j0 k a0 a1 (decide (a1 > 15)))) else (if a0 = 16 then (if a1 < 0 then (madrigalref1_Lsf.j0 k a0 a1 true) else (madrigalref1_Lsf.j0 k a0 a1 (decide (a1 > 15)))) else (madrigalref1_Lsf.j0 k a0 a1 true))) = some r := h
 clear h; have HC3 := Aside0.mk H; clear H
 go_enter Try.func19, Try.ntmps19
 go_upto_region 1 with (fail)
 go_cut [21] (fun v21 wc => ∃ (kq : Nat) (x21_2 : Bool), v21 = .bool x21_2 ∧ Aside0 (madrigalref1_Lsf.j0 kq a0 a1 x21_2 = some r) ∧ Aside0 (kq ≤ k) ∧ Aside0 (Below w.heap.size w wc))
 case first =>
  have H := HC3.out; clear HC3
  by_cases c4 : a0 = 10
  ·
   rw [if_pos c4] at H; have c4b0 : (a0 == 10) = true := beq_iff_eq.mpr c4; have c4b1 : (a0 != 10) = false := bne_eq_false_iff_eq.mpr c4; clear c4
   (first | rw [c4b0] | (simp only [i64_w, i32_w]; rw [c4b0]) | skip)
   by_cases c5 : a1 < 0
   ·
    rw [if_pos c5] at H; have c5b0 : decide (a1 < 0) = true := decide_eq_true c5; clear c5; have H' := Aside0.mk H; clear H
    go_wp2
    go_meet
    case rel => exact ⟨_, (true), (by first | rfl | (simp; done) | (simp [*]; done)), H', ⟨by first | omega | exact Nat.le_refl _⟩, ⟨by repeat (with_reducible first | exact HB.out | apply below_alloc | apply pw_below_drewN | apply below_drew1)⟩⟩
   ·
    rw [if_neg c5] at H; have c5b0 : decide (a1 < 0) = false := decide_eq_false c5; clear c5; have H' := Aside0.mk H; clear H
    go_wp2
    go_meet
    case rel => exact ⟨_, (decide (a1 > 15)), (by first | rfl | (simp; done) | (simp [*]; done)), H', ⟨by first | omega | exact Nat.le_refl _⟩, ⟨by repeat (with_reducible first | exact HB.out | apply below_alloc | apply pw_below_drewN | apply below_drew1)⟩⟩
  ·
   rw [if_neg c4] at H; have c4b0 : (a0 == 10) = false := beq_eq_false_iff_ne.mpr c4; have c4b1 : (a0 != 10) = true := bne_iff_ne.mpr c4
   (first | rw [c4b0] | (simp only [i64_w, i32_w]; rw [c4b0]) | skip)
   by_cases c6 : a0 = 16
   ·
    rw [if_pos c6] at H; have c6b0 : (a0 == 16) = true := beq_iff_eq.mpr c6; have c6b1 : (a0 != 16) = false := bne_eq_false_iff_eq.mpr c6; clear c6
    by_cases c7 : a1 < 0
    ·
     rw [if_pos c7] at H; have c7b0 : decide (a1 < 0) = true := decide_eq_true c7; clear c7; have H' := Aside0.mk H; clear H
     go_wp2
     go_meet
     case rel => exact ⟨_, (true), (by first | rfl | (simp; done) | (simp [*]; done)), H', ⟨by first | omega | exact Nat.le_refl _⟩, ⟨by repeat (with_reducible first | exact HB.out | apply below_alloc | apply pw_below_drewN | apply below_drew1)⟩⟩
    ·
     rw [if_neg c7] at H; have c7b0 : decide (a1 < 0) = false := decide_eq_false c7; clear c7; have H' := Aside0.mk H; clear H
     go_wp2
     go_meet
     case rel => exact ⟨_, (decide (a1 > 15)), (by first | rfl | (simp; done) | (simp [*]; done)), H', ⟨by first | omega | exact Nat.le_refl _⟩, ⟨by repeat (with_reducible first | exact HB.out | apply below_alloc | apply pw_below_drewN | apply below_drew1)⟩⟩
   ·
    rw [if_neg c6] at H; have c6b0 : (a0 == 16) = false := beq_eq_false_iff_ne.mpr c6; have c6b1 : (a0 != 16) = true := bne_iff_ne.mpr c6; have H' := Aside0.mk H; clear H
    go_wp2
    go_meet
    case rel => exact ⟨_, (true), (by first | rfl | (simp; done) | (simp [*]; done)), H', ⟨by first | omega | exact Nat.le_refl _⟩, ⟨by repeat (with_reducible first | exact HB.out | apply below_alloc | apply pw_below_drewN | apply below_drew1)⟩⟩
 case rest =>
  clear HC3; (try clear c1); (try clear p2); (try clear c4); (try clear c4b0); (try clear c4b0z0); (try clear c4b1); (try clear c4b1z0); (try clear c5); (try clear c5b0); (try clear c5b0z0); (try clear c6); (try clear c6b0); (try clear c6b0z0); (try clear c6b1); (try clear c6b1z0); (try clear c7); (try clear c7b0); (try clear c7b0z0)
  obtain ⟨kq, x21_2, rfl, HA, HJ2, HB⟩ := hcut
  cases kq with
  | zero => exact absurd HA.out (by simp [madrigalref1_Lsf.j0])
  | succ kj2 =>
   have H := HA.out; clear HA
   simp only [madrigalref1_Lsf.j0] at H
   by_cases c8 : x21_2 = true
   ·
    subst c8
    have H1 : (some ([] : List Int)) = some r := by rw [if_pos rfl] at H; exact H
    clear H; have H := H1; clear H1
    obtain rfl := Option.some.inj H
    go_wp2
    go_ret
    exact ⟨_, by first | rfl | (simp [errW_none, errW_some] <;> rfl) | (simp [*, errW_none, errW_some] <;> rfl), by first | exact Kd.R_nil _ _ _ _ _ | exact Kd.N_nil _ _ _ _ _ | exact Kd.V_nil _ _ _ _ _ | exact Kd.Q_nil _ _ _ _ _ | exact Kd.S_nil _ _ _ _ _, by repeat (with_reducible first | exact HB.out | apply below_alloc | apply pw_below_drewN | apply below_drew1)⟩
   ·
    replace c8 := Bool.eq_false_iff.mpr c8
    subst c8
    have H1 : (if a0 = 16 then (madrigalref1_Lsf.j1 kj2 a0 a1 14) else (madrigalref1_Lsf.j1 kj2 a0 a1 24)) = some r := by rw [if_neg (show ¬ (false = true) by decide)] at H; exact H
    clear H; have H := H1; clear H1; have HC9 := Aside0.mk H; clear H
    go_upto_if 23 with (fail)
    go_cut [5] (fun v5 wc => ∃ (kq : Nat) (x5_8 : Int), v5 = .int .i64 x5_8 ∧ Aside0 (madrigalref1_Lsf.j1 kq a0 a1 x5_8 = some r) ∧ Aside0 (kq ≤ kj2) ∧ Aside0 (Below w.heap.size w wc))
    case first =>
     have H := HC9.out; clear HC9
     by_cases c10 : a0 = 16
     ·
      rw [if_pos c10] at H; have c10b0 : (a0 == 16) = true := beq_iff_eq.mpr c10; have c10b1 : (a0 != 16) = false := bne_eq_false_iff_eq.mpr c10; clear c10
      (first | rw [c10b0] | (simp only [i64_w, i32_w]; rw [c10b0]) | skip)
      have H' := Aside0.mk H; clear H
      go_wp2
      go_meet
      case rel => exact ⟨_, (14), (by first | rfl | (simp; done) | (simp [*]; done)), H', ⟨by have := HJ2.out; first | omega | exact Nat.le_refl _⟩, ⟨by repeat (with_reducible first | exact HB.out | apply below_alloc | apply pw_below_drewN | apply below_drew1)⟩⟩
     ·
      rw [if_neg c10] at H; have c10b0 : (a0 == 16) = false := beq_eq_false_iff_ne.mpr c10; have c10b1 : (a0 != 16) = true := bne_iff_ne.mpr c10
      (first | rw [c10b0] | (simp only [i64_w, i32_w]; rw [c10b0]) | skip)
      have H' := Aside0.mk H; clear H
      go_wp2
      go_meet
      case rel => exact ⟨_, (24), (by first | rfl | (simp; done) | (simp [*]; done)), H', ⟨by have := HJ2.out; first | omega | exact Nat.le_refl _⟩, ⟨by repeat (with_reducible first | exact HB.out | apply below_alloc | apply pw_below_drewN | apply below_drew1)⟩⟩
    case rest =>
     clear HC9; (try clear c1); (try clear p2); (try clear c4); (try clear c4b0); (try clear c4b0z0); (try clear c4b1); (try clear c4b1z0); (try clear c5); (try clear c5b0); (try clear c5b0z0); (try clear c6); (try clear c6b0); (try clear c6b0z0); (try clear c6b1); (try clear c6b1z0); (try clear c7); (try clear c7b0); (try clear c7b0z0); (try clear c8); (try clear c10); (try clear c10b0); (try clear c10b0z0); (try clear c10b1); (try clear c10b1z0); (try clear p2)
     obtain ⟨kq, x5_8, rfl, HA, HJ8, HB⟩ := hcut
     cases kq with
     | zero => exact absurd HA.out (by simp [madrigalref1_Lsf.j1])
     | succ kj8 =>
      have H := HA.out; clear HA
      simp only [madrigalref1_Lsf.j1] at H
      have H' := Aside0.mk H; clear H
      go_wp2
      go_loopg [6, 7] kj8 (fun kq v6 v7 w' => ∃ (x6_3 : List Int) (x7_3 : Int), v7 = .int .i64 x7_3 ∧ Aside0 (madrigalref1_Lsf.l0 kq a0 a1 x5_8 x6_3 x7_3 = some r) ∧ Aside0 (kq ≤ kj8) ∧ Aside0 (Kd.R (Kd.int .i64) 2 w' w.heap.size (fun _ => True) v6 x6_3) ∧ Aside0 (Below w.heap.size w w'))
      case atStart => exact ⟨(([] : List Int)), (0), (by first | rfl | (simp; done) | (simp [*]; done)), H', ⟨Nat.le_refl _⟩, ⟨by first | exact Kd.R_nil _ _ _ _ _ | exact Kd.N_nil _ _ _ _ _ | exact Kd.V_nil _ _ _ _ _ | exact Kd.Q_nil _ _ _ _ _ | exact Kd.S_nil _ _ _ _ _⟩, ⟨by repeat (with_reducible first | exact HB.out | apply below_alloc | apply pw_below_drewN | apply below_drew1)⟩⟩
      case round =>
       clear H'
       (try clear c1); (try clear p2); (try clear c4); (try clear c4b0); (try clear c4b0z0); (try clear c4b1); (try clear c4b1z0); (try clear c5); (try clear c5b0); (try clear c5b0z0); (try clear c6); (try clear c6b0); (try clear c6b0z0); (try clear c6b1); (try clear c6b1z0); (try clear c7); (try clear c7b0); (try clear c7b0z0); (try clear c8); (try clear c10); (try clear c10b0); (try clear c10b0z0); (try clear c10b1); (try clear c10b1z0); (try clear p2)
       obtain ⟨x6_3, x7_3, rfl, HA, HK3, HO_6, HB⟩ := hrel
       cases gk with
       | zero => exact absurd HA.out (by simp [madrigalref1_Lsf.l0])
       | succ k3 =>
        have H := HA.out; clear HA
        simp only [madrigalref1_Lsf.l0] at H
        by_cases c11 : x7_3 < a0
        ·
         rw [if_pos c11] at H; have c11b0 : decide (x7_3 < a0) = true := decide_eq_true c11; clear c11
         by_cases c12 : (wrap64 (a0 + 1)) = 0
         ·
          rw [if_pos c12] at H; exact absurd H (by simp)
         ·
          rw [if_neg c12] at H; have c12b0 : ((wrap64 (a0 + 1)) == 0) = false := beq_eq_false_iff_ne.mpr c12; have c12b1 : ((wrap64 (a0 + 1)) != 0) = true := bne_iff_ne.mpr c12
          by_cases c13 : x6_3.length < 17592186044416; rotate_left
          · rw [if_neg c13] at H; exact absurd H (by simp)
          rw [if_pos c13] at H; have LMc13 := Aside0.mk c13; clear c13
          obtain ⟨y296, hy296⟩ : ∃ y_ : List Int, y_ = (x6_3 ++ [wrap64 ((wrap64 (Int.tdiv (wrap64 (32768 * (wrap64 (x7_3 + 1)))) (wrap64 (a0 + 1)))) + (wrap64 (x5_8 * (wrap64 ((Int.tmod (wrap64 ((wrap64 (37 * a1)) + (wrap64 (53 * x7_3)))) 64) - 32)))))]) := ⟨_, rfl⟩
          replace H : (madrigalref1_Lsf.l0 k3 a0 a1 x5_8 y296 (wrap64 (x7_3 + 1))) = some r := by first | (rw [hy296]; with_reducible exact H) | (have H2_ := (Option.bind_some _ _).symm.trans H; rw [hy296]; with_reducible exact H2_) | (have H2_ := (Option.bind_some _ _).symm.trans H; with_reducible exact H2_) | with_reducible exact H | (rw [hy296]; exact H) | exact H
          have Ny296 := Aside0.mk hy296; clear hy296; have H' := Aside0.mk H; clear H
          go_wp2_with (first | ((with_reducible refine gate_builtin (b := .append) (xs := #[.tmp 29, .tmp 46]) rfl ?_); at_builtin; refine Kd.R_append (Kd.int .i64) (w0 := w) w.heap.size rfl (.tmp 29) (.tmp 46) 30 2 (.int .i64 0) 8 rfl Try.underlying30 info2 rfl (by decide) (by omega) u6 x6_3 (wrap64 ((wrap64 (Int.tdiv (wrap64 (32768 * (wrap64 (x7_3 + 1)))) (wrap64 (a0 + 1)))) + (wrap64 (x5_8 * (wrap64 ((Int.tmod (wrap64 ((wrap64 (37 * a1)) + (wrap64 (53 * x7_3)))) 64) - 32)))))) [.int .i64 (wrap64 ((wrap64 (Int.tdiv (wrap64 (32768 * (wrap64 (x7_3 + 1)))) (wrap64 (a0 + 1)))) + (wrap64 (x5_8 * (wrap64 ((Int.tmod (wrap64 ((wrap64 (37 * a1)) + (wrap64 (53 * x7_3)))) 64) - 32))))))] (fun _ => True) (fun _ => False) rfl rfl ?aP (fun _ hk => hk.elim) ?aF ?aO ?aB ?aS ?aL ?_; (case aP => exact rfl); (case aB => exact (by repeat (with_reducible first | exact HB.out | apply below_alloc | apply pw_below_drewN | apply below_drew1))); (case aF => exact (fun _ _ => trivial)); (case aO => exact (by (with_reducible repeat first | apply Kd.R_alloc | apply Kd.R_drewN | apply Kd.R_drew); exact HO_6.out)); (case aS => exact (below_size (by repeat (with_reducible first | exact HB.out | apply below_alloc | apply pw_below_drewN | apply below_drew1)))); (case aL => have := LMc13.out; omega); intro v297 w14 ho hb hg hat; rw [← Ny296.out] at ho; have n0_ := Aside0.mk (hb); have n1_ := Aside0.mk (ho); clear HB; clear HO_6; have HB := n0_; have HO298 := n1_; clear n0_ n1_; clear ho hb hg hat))
          go_roundg k3
          case measure => have := HJ2.out; have := HJ8.out; have := HK3.out; omega
          case rel => exact ⟨(y296), (wrap64 (x7_3 + 1)), (by first | rfl | (simp; done) | (simp [*]; done)), H', ⟨by have := HJ2.out; have := HJ8.out; have := HK3.out; omega⟩, ⟨by (with_reducible repeat first | apply Kd.R_alloc | apply Kd.R_drewN | apply Kd.R_drew); exact HO298.out⟩, ⟨by repeat (with_reducible first | exact HB.out | apply below_alloc | apply pw_below_drewN | apply below_drew1)⟩⟩
        ·
         rw [if_neg c11] at H; have c11b0 : decide (x7_3 < a0) = false := decide_eq_false c11; clear c11
         obtain rfl := Option.some.inj H
         go_wp2
         go_ret
         exact ⟨_, by first | rfl | (simp [errW_none, errW_some] <;> rfl) | (simp [*, errW_none, errW_some] <;> rfl), by (with_reducible repeat first | apply Kd.R_alloc | apply Kd.R_drewN | apply Kd.R_drew); exact HO_6.out, by repeat (with_reducible first | exact HB.out | apply below_alloc | apply pw_below_drewN | apply below_drew1)⟩

/-! ### madrigalref1_Taps: function 21 -/
def tabCells : Array Value := #[.int .i64 13, .int .i64 22, .int .i64 39, .int .i64 23, .int .i64 12, .int .i64 (-1), .int .i64 36, .int .i64 64, .int .i64 27, .int .i64 (-6), .int .i64 4, .int .i64 6, .int .i64 24, .int .i64 7, .int .i64 5, .int .i64 (-2), .int .i64 6, .int .i64 118, .int .i64 7, .int .i64 (-3), .int .i64 2, .int .i64 10, .int .i64 70, .int .i64 15, .int .i64 0, .int .i64 (-9), .int .i64 30, .int .i64 80, .int .i64 34, .int .i64 (-10), .int .i64 0, .int .i64 0, .int .i64 96, .int .i64 0, .int .i64 0, .int .i64 5, .int .i64 29, .int .i64 50, .int .i64 29, .int .i64 5]
def tabZero : Array Value := #[.int .i64 0, .int .i64 0, .int .i64 0, .int .i64 0, .int .i64 0]
def tabRow (i : Nat) : Array Value := tabCells.extract (i * 5) (i * 5 + 5)
theorem tabRow_size (i : Nat) (hi : i < 8) : (tabRow i).size = 5 := by
 unfold tabRow
 rw [Array.size_extract]
 have : tabCells.size = 40 := rfl
 omega
theorem tabRow_one (i : Nat) (hi : i < 8) : (tabRow i).all (·.oneCell') = true := by
 rcases (by omega : i = 0 ∨ i = 1 ∨ i = 2 ∨ i = 3 ∨ i = 4 ∨ i = 5 ∨ i = 6 ∨ i = 7) with rfl | rfl | rfl | rfl | rfl | rfl | rfl | rfl <;> kernel_rfl
set_option maxHeartbeats 1000000 in
set_option maxRecDepth 100000 in
theorem taps_in (i : Nat) (hi : i < 8) (w : World) :
 Calls Try.prog 21 #[.int .i64 i] w fun e w' => e = .returned (.agg (tabRow i)) ∧ Below w.heap.size w w' := by
 have hu33 := Try.underlying33
 have HS := Aside0.mk (tabRow_size i hi)
 have HO := Aside0.mk (tabRow_one i hi)
 go_enter Try.func21, Try.ntmps21
 go_wp2_with (first
  | ((with_reducible refine gate_dst (N := 2) rfl ?_); refine box_event ?hg (N := 2) ?hd (cs := #[.int .i64 0, .int .i64 0, .int .i64 0, .int .i64 0, .int .i64 0]) (t := 33) ?hr ?_; (case hd => rfl); (case hg => rfl); (case hr => first | (go_simp; done) | (go_simp; rfl)); intro gb2 hg2 w3 hbox2 hb2; have HG2 := Aside0.mk hg2; have HX2 := Aside0.mk hbox2; have HB2 := Aside0.mk hb2; clear hg2 hbox2 hb2)
  | ((with_reducible refine gate_store (t := 40) (p := 3) (v := .tmp 12) rfl ?_); refine wpList_store_row rfl 40 (.tmp 3) (.tmp 12) rfl gb3 tabCells ?hx ?hy 40 _ HX3.out (by kernel_rfl) ?hs (by kernel_rfl) ?_; (case hx => rfl); (case hy => (first | rfl | (go_simp; rfl))); (case hs => rfl); generalize hw5 : w4.setRow gb3 tabCells = w5; have HW5 := Aside0.mk hw5; clear hw5)
  | ((with_reducible refine gate_dst (N := 3) rfl ?_); refine box_event ?hg (N := 3) ?hd (cs := Array.replicate 40 (.int .i64 0)) (t := 40) ?hr ?_; (case hd => rfl); (case hg => rfl); (case hr => first | (go_simp; done) | (go_simp; rfl)); intro gb3 hg3 w4 hbox3 hb3; have HG3 := Aside0.mk hg3; have HX3 := Aside0.mk hbox3; have HB3 := Aside0.mk hb3; clear hg3 hbox3 hb3)
  | ((with_reducible refine gate_dst (N := 22) rfl ?_); refine wpList_load_mid rfl 33 (.tmp 21) rfl gb3 (i * 5) ?hx (tabRow i).toList (.array 5 2) ?hc hu33 rfl ?hi ?_; (case hx => first | rfl | (go_simp; rfl)); (case hc => rw [← HW5.out]; exact World.rangeAt_of_block (setRow_heap _ _ _ _ _ _ HX3.out) (i * 5) 5); (case hi => rw [Array.length_toList, HS.out]; kernel_rfl))
  | ((with_reducible refine gate_store (t := 33) (p := 2) (v := .tmp 22) rfl ?_); refine wpList_store_row rfl 33 (.tmp 2) (.tmp 22) rfl gb2 (tabRow i) ?hx ?hy 33 #[.int .i64 0, .int .i64 0, .int .i64 0, .int .i64 0, .int .i64 0] ?hg ?hi ?hs HO.out ?_; (case hx => rfl); (case hy => (first | rfl | (simp [Act.eval, Act.put]; done))); (case hg => rw [← HW5.out, setRow_other _ _ _ _ (by rw [HG3.out]; exact Nat.ne_of_lt (blk_lt HX2.out))]; exact blk_below HX2.out HB3.out); (case hi => rw [HS.out]; kernel_rfl); (case hs => rw [HS.out]; rfl); generalize hw6 : w5.setRow gb2 (tabRow i) = w6; have HW6 := Aside0.mk hw6; clear hw6))
 have HX6 : w6.heap[gb2]? = some (.cells (tabRow i) 33 (0, 0)) := by
  rw [← HW6.out]
  refine setRow_heap _ _ #[.int .i64 0, .int .i64 0, .int .i64 0, .int .i64 0, .int .i64 0] _ _ _ ?_
  rw [← HW5.out, setRow_other _ _ _ _ (by rw [HG3.out]; exact Nat.ne_of_lt (blk_lt HX2.out))]
  exact blk_below HX2.out HB3.out
 refine bodyPost_ret (results_cell_row rfl _ _ gb2 33 (tabRow i) (0, 0) _ rfl HX6 Try.underlying33 rfl (by rw [HS.out]; kernel_rfl)) rfl ⟨rfl, ?_⟩
 have h1 : Below w.heap.size w w4 := below_step HB2.out HB3.out
 have h2 : Below w.heap.size w w5 := by
  rw [← HW5.out]
  exact below_setRow h1 (by rw [HG3.out]; exact HB2.out.size) _
 rw [← HW6.out]
 exact below_setRow h2 (by rw [HG2.out]; exact Nat.le_refl _) _

theorem tabs_at (a0 r1 r2 r3 r4 r5 : Int) (i : Nat) (hi : i < 8) (ha : a0 = i) (h : tabs_Taps.f a0 = some (r1, r2, r3, r4, r5)) : tabRow i = #[.int .i64 r1, .int .i64 r2, .int .i64 r3, .int .i64 r4, .int .i64 r5] := by
 subst ha
 rcases (by omega : i = 0 ∨ i = 1 ∨ i = 2 ∨ i = 3 ∨ i = 4 ∨ i = 5 ∨ i = 6 ∨ i = 7) with rfl | rfl | rfl | rfl | rfl | rfl | rfl | rfl <;>
 ·
  simp [tabs_Taps.f] at h
  obtain ⟨rfl, rfl, rfl, rfl, rfl⟩ := h
  kernel_rfl
set_option maxHeartbeats 1000000 in
set_option maxRecDepth 100000 in
theorem taps_out (a0 : Int) (ha : a0 < 0 ∨ 7 < a0) (w : World) :
 Calls Try.prog 21 #[.int .i64 a0] w fun e w' => e = .returned (.agg #[.int .i64 0, .int .i64 0, .int .i64 0, .int .i64 0, .int .i64 0]) ∧ Below w.heap.size w w' := by
 have hu33 := Try.underlying33
 have ha' : ¬ (0 ≤ a0 ∧ a0 ≤ 7) := by omega
 go_enter Try.func21, Try.ntmps21
 go_wp2_with (first
  | ((with_reducible refine gate_dst (N := 2) rfl ?_); refine box_event ?hg (N := 2) ?hd (cs := #[.int .i64 0, .int .i64 0, .int .i64 0, .int .i64 0, .int .i64 0]) (t := 33) ?hr ?_; (case hd => rfl); (case hg => rfl); (case hr => first | (go_simp; done) | (go_simp; rfl)); intro gb2 hg2 w3 hbox2 hb2; have HG2 := Aside0.mk hg2; have HX2 := Aside0.mk hbox2; have HB2 := Aside0.mk hb2; clear hg2 hbox2 hb2)
  | ((with_reducible refine gate_store (t := 40) (p := 3) (v := .tmp 12) rfl ?_); refine wpList_store_row rfl 40 (.tmp 3) (.tmp 12) rfl gb3 tabCells ?hx ?hy 40 _ HX3.out (by kernel_rfl) ?hs (by kernel_rfl) ?_; (case hx => rfl); (case hy => (first | rfl | (go_simp; rfl))); (case hs => rfl); generalize hw5 : w4.setRow gb3 tabCells = w5; have HW5 := Aside0.mk hw5; clear hw5)
  | ((with_reducible refine gate_dst (N := 3) rfl ?_); refine box_event ?hg (N := 3) ?hd (cs := Array.replicate 40 (.int .i64 0)) (t := 40) ?hr ?_; (case hd => rfl); (case hg => rfl); (case hr => first | (go_simp; done) | (go_simp; rfl)); intro gb3 hg3 w4 hbox3 hb3; have HG3 := Aside0.mk hg3; have HX3 := Aside0.mk hbox3; have HB3 := Aside0.mk hb3; clear hg3 hbox3 hb3)
  | ((with_reducible refine gate_store (t := 33) (p := 2) (v := .tmp 19) rfl ?_); refine wpList_store_row rfl 33 (.tmp 2) (.tmp 19) rfl gb2 tabZero ?hx ?hy 33 #[.int .i64 0, .int .i64 0, .int .i64 0, .int .i64 0, .int .i64 0] ?hg ?hi ?hs (by kernel_rfl) ?_; (case hx => rfl); (case hy => (first | rfl | (simp [Act.eval, Act.put]; done))); (case hg => rw [← HW5.out, setRow_other _ _ _ _ (by rw [HG3.out]; exact Nat.ne_of_lt (blk_lt HX2.out))]; exact blk_below HX2.out HB3.out); (case hi => kernel_rfl); (case hs => rfl); generalize hw6 : w5.setRow gb2 tabZero = w6; have HW6 := Aside0.mk hw6; clear hw6))
 all_goals
  have HX6 : w6.heap[gb2]? = some (.cells tabZero 33 (0, 0)) := by
   rw [← HW6.out]
   refine setRow_heap _ _ #[.int .i64 0, .int .i64 0, .int .i64 0, .int .i64 0, .int .i64 0] _ _ _ ?_
   rw [← HW5.out, setRow_other _ _ _ _ (by rw [HG3.out]; exact Nat.ne_of_lt (blk_lt HX2.out))]
   exact blk_below HX2.out HB3.out
  refine bodyPost_ret (results_cell_row rfl _ _ gb2 33 tabZero (0, 0) _ rfl HX6 Try.underlying33 rfl (by kernel_rfl)) rfl ⟨rfl, ?_⟩
  have h1 : Below w.heap.size w w4 := below_step HB2.out HB3.out
  have h2 : Below w.heap.size w w5 := by
   rw [← HW5.out]
   exact below_setRow h1 (by rw [HG3.out]; exact HB2.out.size) _
  rw [← HW6.out]
  exact below_setRow h2 (by rw [HG2.out]; exact Nat.le_refl _) _
def madrigalref1_Taps.f (a0 : Int) : Option (Int × Int × Int × Int × Int) := tabs_Taps.f a0
theorem madrigalref1_Taps.calls (a0 : Int) (r1 : Int) (r2 : Int) (r3 : Int) (r4 : Int) (r5 : Int) (w : World) (h : madrigalref1_Taps.f a0 = some (r1, r2, r3, r4, r5)) :
  Calls Try.prog 21 #[.int .i64 a0] w fun e w' => e = .returned (.agg #[.int .i64 r1, .int .i64 r2, .int .i64 r3, .int .i64 r4, .int .i64 r5]) ∧ Below w.heap.size w w' := by
 by_cases hin : 0 ≤ a0 ∧ a0 < 8
 ·
  have e : a0 = (a0.toNat : Int) := by omega
  have hr := tabs_at a0 r1 r2 r3 r4 r5 a0.toNat (by omega) e h
  have hc := taps_in a0.toNat (by omega) w
  rw [← e, hr] at hc
  exact hc
 ·
  have hz : tabs_Taps.f a0 = some (0, 0, 0, 0, 0) := by
   unfold tabs_Taps.f
   rw [if_neg (by omega), if_neg (by omega), if_neg (by omega), if_neg (by omega), if_neg (by omega), if_neg (by omega), if_neg (by omega), if_neg (by omega)]
  have h' : tabs_Taps.f a0 = some (r1, r2, r3, r4, r5) := h
  rw [hz] at h'
  simp only [Option.some.injEq, Prod.mk.injEq] at h'
  obtain ⟨rfl, rfl, rfl, rfl, rfl⟩ := h'
  exact taps_out a0 (by omega) w

end Go.Proofs.Ytmfjmbdicjeooaa.MA
