/- Functions of the program as plain Lean functions, and that the code comes to their answers. No condition. -/
import Derived.Test.YtgbdkefglmjdoaaMAx0
import Derived.Test.YtgbdkefglmjdoaaMAx15
namespace Go.Proofs.Ytgbdkefglmjdoaa.MA
open Go.RowKit Go.Proofs.YtgbdkefglmjdoaaW.PrintWords Go.Proofs.YtgbdkefglmjdoaaW.PrintLast Go.Proofs.YtgbdkefglmjdoaaW.PrintMore
attribute [local go_sem] max2_int min2_int max_two min_two max_three min_three max_four min_four
set_option linter.unusedVariables false
set_option linter.unusedSimpArgs false

/-! ### madrigalref1_series: function 58 -/
def madrigalref1_series.l0 : Nat → Int → Int → List Int → Int → Option (Int)
 | 0, _, _, _, _ => none
 | k + 1, x0, x1, x2, x7 => if x7 < (x2.length : Int) then (if 0 ≤ x7 then ((madrigalref1_Mul.f k x0 x1 30).bind fun t595 => (madrigalref1_series.l0 k x0 (wrap64 ((rd x2 x7) + t595)) x2 (wrap64 (x7 + 1)))) else (none)) else (some x1)
def madrigalref1_series.f (k : Nat) (a0 : Int) (a1 : Int) (l2 : List Int) : Option (Int) := madrigalref1_series.l0 k a0 a1 l2 0
set_option maxHeartbeats 8000000 in
set_option maxRecDepth 100000 in
theorem madrigalref1_series.calls (k : Nat) (a0 : Int) (a1 : Int) (A2 : Option Addr) (c2 : Nat) (l2 : List Int) (r : Int) (w : World) (hr2 : Kd.C (Kd.int .i64) w A2 l2.length l2) (hc2 : l2.length ≤ c2) (h : madrigalref1_series.f k a0 a1 l2 = some r) :
  Calls Try.prog 58 #[.int .i64 a0, .int .i64 a1, .slice A2 l2.length c2] w fun e w' => e = .returned (.int .i64 r) ∧ Drawn0 w w' := by
 have HR2 := Aside0.mk hr2; have HC2 := Aside0.mk hc2; clear hr2 hc2
 have H : (madrigalref1_series.l0 k a0 a1 l2 0) = some r := h
 clear h; have H' := Aside0.mk H; clear H
 go_enter Try.func58, Try.ntmps58
 go_wp2
 repeat (go_quiet (fail); try go_wp2)
 go_loopg [1, 7] k (fun kq v1 v7 w' => ∃ (x1_1 : Int) (x7_1 : Int), v1 = .int .i64 x1_1 ∧ v7 = .int .i64 x7_1 ∧ Aside0 (madrigalref1_series.l0 kq a0 x1_1 l2 x7_1 = some r) ∧ Aside0 (kq ≤ k) ∧ Drawn0 w w')
 case atStart => exact ⟨(a1), (0), (by first | rfl | (simp; done) | (simp [*]; done)), (by first | rfl | (simp; done) | (simp [*]; done)), H', ⟨Nat.le_refl _⟩, by repeat (first | exact Drawn0.refl _ | apply Drawn0.step)⟩
 case round =>
  clear H'
  (try clear c2); (try clear p2)
  obtain ⟨x1_1, x7_1, rfl, rfl, HA, HK1, ⟨m1, rfl⟩⟩ := hrel
  cases gk with
  | zero => exact absurd HA.out (by simp [madrigalref1_series.l0])
  | succ k1 =>
   have H := HA.out; clear HA
   simp only [madrigalref1_series.l0] at H
   by_cases c4 : x7_1 < (l2.length : Int)
   ·
    rw [if_pos c4] at H; have c4b0 : decide (x7_1 < (l2.length : Int)) = true := decide_eq_true c4; clear c4
    by_cases c5 : 0 ≤ x7_1; rotate_left
    · rw [if_neg c5] at H; exact absurd H (by simp)
    rw [if_pos c5] at H; have c5b0 : decide (0 ≤ x7_1) = true := decide_eq_true c5; clear c5; replace H := Option.bind_eq_some_iff.mp H; obtain ⟨t595, A60, H⟩ := H
    replace H : (madrigalref1_series.l0 k1 a0 (wrap64 ((rd l2 x7_1) + t595)) l2 (wrap64 (x7_1 + 1))) = some r := H
    have A6 := Aside0.mk A60; clear A60; have H' := Aside0.mk H; clear H; have p594 : 0 ≤ (x7_1 : Int) := of_decide_eq_true (by first | (with_reducible assumption) | assumption); have q594 : x7_1 < (l2.length : Int) := of_decide_eq_true (by first | (with_reducible assumption) | assumption)
    obtain ⟨ad594, e594, hx594_0⟩ := Kd.at_int HR2.out x7_1 p594 q594
    cases e594; replace p594 := eq_true p594; replace q594 := eq_true q594
    go_wp2_with (first | (go_at_call 34; (with_reducible refine (madrigalref1_Mul.calls k1 a0 x1_1 30 t595 _ A6.out).mono ?_); rintro e w' ⟨rfl, ⟨nd, rfl⟩⟩; (try first | exact ⟨rfl, _, World.drewN_drewN _ _ _⟩ | exact ⟨rfl, _, Eq.trans (World.drewN_drewN _ _ _) (congrArg (World.drewN _) (Nat.add_assoc _ _ _))⟩)))
    repeat (go_quiet (first | (go_at_call 34; (with_reducible refine (madrigalref1_Mul.calls k1 a0 x1_1 30 t595 _ A6.out).mono ?_); rintro e w' ⟨rfl, ⟨nd, rfl⟩⟩; (try first | exact ⟨rfl, _, World.drewN_drewN _ _ _⟩ | exact ⟨rfl, _, Eq.trans (World.drewN_drewN _ _ _) (congrArg (World.drewN _) (Nat.add_assoc _ _ _))⟩))); try go_wp2_with (first | (go_at_call 34; (with_reducible refine (madrigalref1_Mul.calls k1 a0 x1_1 30 t595 _ A6.out).mono ?_); rintro e w' ⟨rfl, ⟨nd, rfl⟩⟩; (try first | exact ⟨rfl, _, World.drewN_drewN _ _ _⟩ | exact ⟨rfl, _, Eq.trans (World.drewN_drewN _ _ _) (congrArg (World.drewN _) (Nat.add_assoc _ _ _))⟩))))
    go_roundg k1
    case measure => have := HK1.out; omega
    case rel => exact ⟨(wrap64 ((rd l2 x7_1) + t595)), (wrap64 (x7_1 + 1)), (by first | rfl | (simp; done) | (simp [*]; done)), (by first | rfl | (simp; done) | (simp [*]; done)), H', ⟨by have := HK1.out; omega⟩, by repeat (first | exact Drawn0.refl _ | apply Drawn0.step)⟩
   ·
    rw [if_neg c4] at H; have c4b0 : decide (x7_1 < (l2.length : Int)) = false := decide_eq_false c4; clear c4
    obtain rfl := Option.some.inj H
    go_wp2
    repeat (go_quiet (fail); try go_wp2)
    go_ret
    exact ⟨by first | rfl | (simp; done) | (simp [*]; done), by repeat (first | exact Drawn0.refl _ | apply Drawn0.step)⟩

/-! ### madrigalref1_quarter: function 57 -/
def madrigalref1_quarter.f (k : Nat) (a0 : Int) : Option (Int) := if a0 ≤ 8192 then ((madrigalref1_Mul.f k a0 1686629713 14).bind fun t596 => ((madrigalref1_Mul.f k t596 t596 30).bind fun t597 => ((madrigalref1_series.f k t597 (-296) (([26631, (-1491308), 44739243, (-536870912), 1073741824] : List Int))).bind fun t601 => ((madrigalref1_Mul.f k t601 1 15).bind fun t602 => (some t602))))) else ((madrigalref1_Mul.f k (wrap64 (16384 - a0)) 1686629713 14).bind fun t603 => ((madrigalref1_Mul.f k t603 t603 30).bind fun t604 => ((madrigalref1_series.f k t604 2959 (([(-213044), 8947849, (-178956971), 1073741824] : List Int))).bind fun t608 => ((madrigalref1_Mul.f k t603 t608 30).bind fun t609 => ((madrigalref1_Mul.f k t609 1 15).bind fun t610 => (some t610))))))
set_option maxHeartbeats 8000000 in
set_option maxRecDepth 100000 in
theorem madrigalref1_quarter.calls (k : Nat) (a0 : Int) (r : Int) (w : World) (h : madrigalref1_quarter.f k a0 = some r) :
  Calls Try.prog 57 #[.int .i64 a0] w fun e w' => e = .returned (.int .i64 r) ∧ Below w.heap.size w w' := by
 have HB := Aside0.mk (Below.refl w.heap.size w)
 have H : (if a0 ≤ 8192 then ((madrigalref1_Mul.f k a0 1686629713 14).bind fun t596 => ((madrigalref1_Mul.f k t596 t596 30).bind fun t597 => ((madrigalref1_series.f k t597 (-296) (([26631, (-1491308), 44739243, (-536870912), 1073741824] : List Int))).bind fun t601 => ((madrigalref1_Mul.f k t601 1 15).bind fun t602 => (some t602))))) else ((madrigalref1_Mul.f k (wrap64 (16384 - a0)) 1686629713 14).bind fun t603 => ((madrigalref1_Mul.f k t603 t603 30).bind fun t604 => ((madrigalref1_series.f k t604 2959 (([(-213044), 8947849, (-178956971), 1073741824] : List Int))).bind fun t608 => ((madrigalref1_Mul.f k t603 t608 30).bind fun t609 => ((madrigalref1_Mul.f k t609 1 15).bind fun t610 => (some t610))))))) = some r := h
 clear h
 by_cases c2 : a0 ≤ 8192
 ·
  rw [if_pos c2] at H; have c2b0 : decide (a0 ≤ 8192) = true := decide_eq_true c2; clear c2; replace H := Option.bind_eq_some_iff.mp H; obtain ⟨t596, A30, H⟩ := H
  replace H : ((madrigalref1_Mul.f k t596 t596 30).bind fun t597 => ((madrigalref1_series.f k t597 (-296) (([26631, (-1491308), 44739243, (-536870912), 1073741824] : List Int))).bind fun t601 => ((madrigalref1_Mul.f k t601 1 15).bind fun t602 => (some t602)))) = some r := H
  have A3 := Aside0.mk A30; clear A30; replace H := Option.bind_eq_some_iff.mp H; obtain ⟨t597, A40, H⟩ := H
  replace H : ((madrigalref1_series.f k t597 (-296) (([26631, (-1491308), 44739243, (-536870912), 1073741824] : List Int))).bind fun t601 => ((madrigalref1_Mul.f k t601 1 15).bind fun t602 => (some t602))) = some r := H
  have A4 := Aside0.mk A40; clear A40
  obtain ⟨y598, hy598⟩ : ∃ y_ : List Int, y_ = (([26631, (-1491308), 44739243, (-536870912), 1073741824] : List Int)) := ⟨_, rfl⟩
  replace H : ((madrigalref1_series.f k t597 (-296) y598).bind fun t601 => ((madrigalref1_Mul.f k t601 1 15).bind fun t602 => (some t602))) = some r := by first | (rw [hy598]; with_reducible exact H) | (have H2_ := (Option.bind_some _ _).symm.trans H; rw [hy598]; with_reducible exact H2_) | (have H2_ := (Option.bind_some _ _).symm.trans H; with_reducible exact H2_) | with_reducible exact H | (rw [hy598]; exact H) | exact H
  have Ny598 := Aside0.mk hy598; clear hy598; replace H := Option.bind_eq_some_iff.mp H; obtain ⟨t601, A50, H⟩ := H
  replace H : ((madrigalref1_Mul.f k t601 1 15).bind fun t602 => (some t602)) = some r := H
  have A5 := Aside0.mk A50; clear A50; replace H := Option.bind_eq_some_iff.mp H; obtain ⟨t602, A60, H⟩ := H
  replace H : (some t602) = some r := H
  have A6 := Aside0.mk A60; clear A60
  obtain rfl := Option.some.inj H
  go_enter Try.func57, Try.ntmps57
  go_wp2_with (first | ((with_reducible refine gate_callee (f := 34) rfl ?_); refine goesL_ (some 10) rfl rfl Try.func34 (by kernel_rfl) rfl #[.int .i64 a0, .int .i64 1686629713, .int .i64 14] rfl (by (try simp only [List.map_toArray, List.map_cons, List.map_nil]); first | done | rfl | (simp only [List.length_drop, List.length_take]; rfl)) ?_; (with_reducible refine (madrigalref1_Mul.calls k a0 1686629713 14 t596 _ A3.out).mono ?_); rintro e w' ⟨rfl, ⟨nd, rfl⟩⟩; refine ⟨_, rfl, ?_⟩) | ((with_reducible refine gate_callee (f := 34) rfl ?_); refine goesL_ (some 13) rfl rfl Try.func34 (by kernel_rfl) rfl #[.int .i64 t596, .int .i64 t596, .int .i64 30] rfl (by (try simp only [List.map_toArray, List.map_cons, List.map_nil]); first | done | rfl | (simp only [List.length_drop, List.length_take]; rfl)) ?_; (with_reducible refine (madrigalref1_Mul.calls k t596 t596 30 t597 _ A4.out).mono ?_); rintro e w' ⟨rfl, ⟨nd, rfl⟩⟩; refine ⟨_, rfl, ?_⟩) | ((with_reducible refine gate_dst (N := 15) rfl ?_); refine Kd.R_lit (Kd.int .i64) _ 2 ?hg (N := 15) ?hd (xs := ([26631, (-1491308), 44739243, (-536870912), 1073741824] : List Int)) (inner := [.int .i64 26631, .int .i64 (-1491308), .int .i64 44739243, .int .i64 (-536870912), .int .i64 1073741824]) (ok := fun _ => True) (okp := fun _ => True) ?hr ?hp (fun _ hk => hk) trivial (Below.refl _ _) (Nat.le_refl _) (by simp) ?_; (case hd => rfl); (case hg => rfl); (case hr => first | (go_simp; done) | (go_simp; rfl)); (case hp => exact (Reps.one (show Kd.M (Kd.int .i64) _ _ _ 26631 [.int .i64 26631] from rfl) (Reps.one (show Kd.M (Kd.int .i64) _ _ _ (-1491308) [.int .i64 (-1491308)] from rfl) (Reps.one (show Kd.M (Kd.int .i64) _ _ _ 44739243 [.int .i64 44739243] from rfl) (Reps.one (show Kd.M (Kd.int .i64) _ _ _ (-536870912) [.int .i64 (-536870912)] from rfl) (Reps.one (show Kd.M (Kd.int .i64) _ _ _ 1073741824 [.int .i64 1073741824] from rfl) (Reps.none _ _))))))); intro v599 w7 ho8 hb hg_ hnew_; clear hg_ hnew_; (first | rw [← Ny598.out] at ho8 | (simp only [Int.reduceToNat] at ho8; rw [← Ny598.out] at ho8)); have n0_ := Aside0.mk (Kd.R_lower ho8 (below_size (by repeat (with_reducible first | exact HB.out | apply below_alloc | apply pw_below_drewN | apply below_drew1)))); have n1_ := Aside0.mk (below_step (by repeat (with_reducible first | exact HB.out | apply below_alloc | apply pw_below_drewN | apply below_drew1)) hb); clear HB; have HO600 := n0_; have HB := n1_; clear n0_ n1_; clear hb ho8; obtain ⟨Ao9, co9, eo9⟩ := Kd.R_slice HO600.out; subst eo9) | ((with_reducible refine gate_callee (f := 58) rfl ?_); refine goesL_ (some 16) rfl rfl Try.func58 (by kernel_rfl) rfl #[.int .i64 t597, .int .i64 (-296), .slice Ao9 y598.length co9] rfl (by (try simp only [List.map_toArray, List.map_cons, List.map_nil]); first | done | rfl | (simp only [List.length_drop, List.length_take]; rfl)) ?_; (with_reducible refine (madrigalref1_series.calls k t597 (-296) _ _ y598 t601 _ ?side1 ?side2 A5.out).mono ?_); (case side1 => repeat (first | exact (Kd.R_reads' HO600.out).2.2 | (with_reducible refine Kd.C_alloc ?_ _) | (with_reducible refine Kd.C_drewN ?_ _) | (with_reducible refine Kd.C_drew ?_))); (case side2 => exact (Kd.R_reads' HO600.out).2.1); rintro e w' ⟨rfl, ⟨nd, rfl⟩⟩; refine ⟨_, rfl, ?_⟩) | ((with_reducible refine gate_callee (f := 34) rfl ?_); refine goesL_ (some 17) rfl rfl Try.func34 (by kernel_rfl) rfl #[.int .i64 t601, .int .i64 1, .int .i64 15] rfl (by (try simp only [List.map_toArray, List.map_cons, List.map_nil]); first | done | rfl | (simp only [List.length_drop, List.length_take]; rfl)) ?_; (with_reducible refine (madrigalref1_Mul.calls k t601 1 15 t602 _ A6.out).mono ?_); rintro e w' ⟨rfl, ⟨nd, rfl⟩⟩; refine ⟨_, rfl, ?_⟩))
  go_ret
  exact ⟨by first | rfl | (simp [errW_none, errW_some] <;> rfl) | (simp [*, errW_none, errW_some] <;> rfl), by repeat (with_reducible first | exact HB.out | apply below_alloc | apply pw_below_drewN | apply below_drew1)⟩
 ·
  rw [if_neg c2] at H; have c2b0 : decide (a0 ≤ 8192) = false := decide_eq_false c2; clear c2; replace H := Option.bind_eq_some_iff.mp H; obtain ⟨t603, A100, H⟩ := H
  replace H : ((madrigalref1_Mul.f k t603 t603 30).bind fun t604 => ((madrigalref1_series.f k t604 2959 (([(-213044), 8947849, (-178956971), 1073741824] : List Int))).bind fun t608 => ((madrigalref1_Mul.f k t603 t608 30).bind fun t609 => ((madrigalref1_Mul.f k t609 1 15).bind fun t610 => (some t610))))) = some r := H
  have A10 := Aside0.mk A100; clear A100; replace H := Option.bind_eq_some_iff.mp H; obtain ⟨t604, A110, H⟩ := H
  replace H : ((madrigalref1_series.f k t604 2959 (([(-213044), 8947849, (-178956971), 1073741824] : List Int))).bind fun t608 => ((madrigalref1_Mul.f k t603 t608 30).bind fun t609 => ((madrigalref1_Mul.f k t609 1 15).bind fun t610 => (some t610)))) = some r := H
  have A11 := Aside0.mk A110; clear A110
  obtain ⟨y605, hy605⟩ : ∃ y_ : List Int, y_ = (([(-213044), 8947849, (-178956971), 1073741824] : List Int)) := ⟨_, rfl⟩
  replace H : ((madrigalref1_series.f k t604 2959 y605).bind fun t608 => ((madrigalref1_Mul.f k t603 t608 30).bind fun t609 => ((madrigalref1_Mul.f k t609 1 15).bind fun t610 => (some t610)))) = some r := by first | (rw [hy605]; with_reducible exact H) | (have H2_ := (Option.bind_some _ _).symm.trans H; rw [hy605]; with_reducible exact H2_) | (have H2_ := (Option.bind_some _ _).symm.trans H; with_reducible exact H2_) | with_reducible exact H | (rw [hy605]; exact H) | exact H
  have Ny605 := Aside0.mk hy605; clear hy605; replace H := Option.bind_eq_some_iff.mp H; obtain ⟨t608, A120, H⟩ := H
  replace H : ((madrigalref1_Mul.f k t603 t608 30).bind fun t609 => ((madrigalref1_Mul.f k t609 1 15).bind fun t610 => (some t610))) = some r := H
  have A12 := Aside0.mk A120; clear A120; replace H := Option.bind_eq_some_iff.mp H; obtain ⟨t609, A130, H⟩ := H
  replace H : ((madrigalref1_Mul.f k t609 1 15).bind fun t610 => (some t610)) = some r := H
  have A13 := Aside0.mk A130; clear A130; replace H := Option.bind_eq_some_iff.mp H; obtain ⟨t610, A140, H⟩ := H
  replace H : (some t610) = some r := H
  have A14 := Aside0.mk A140; clear A140
  obtain rfl := Option.some.inj H
  go_enter Try.func57, Try.ntmps57
  go_wp2_with (first | ((with_reducible refine gate_callee (f := 34) rfl ?_); refine goesL_ (some 20) rfl rfl Try.func34 (by kernel_rfl) rfl #[.int .i64 (wrap64 (16384 - a0)), .int .i64 1686629713, .int .i64 14] rfl (by (try simp only [List.map_toArray, List.map_cons, List.map_nil]); first | done | rfl | (simp only [List.length_drop, List.length_take]; rfl)) ?_; (with_reducible refine (madrigalref1_Mul.calls k (wrap64 (16384 - a0)) 1686629713 14 t603 _ A10.out).mono ?_); rintro e w' ⟨rfl, ⟨nd, rfl⟩⟩; refine ⟨_, rfl, ?_⟩) | ((with_reducible refine gate_callee (f := 34) rfl ?_); refine goesL_ (some 23) rfl rfl Try.func34 (by kernel_rfl) rfl #[.int .i64 t603, .int .i64 t603, .int .i64 30] rfl (by (try simp only [List.map_toArray, List.map_cons, List.map_nil]); first | done | rfl | (simp only [List.length_drop, List.length_take]; rfl)) ?_; (with_reducible refine (madrigalref1_Mul.calls k t603 t603 30 t604 _ A11.out).mono ?_); rintro e w' ⟨rfl, ⟨nd, rfl⟩⟩; refine ⟨_, rfl, ?_⟩) | ((with_reducible refine gate_dst (N := 26) rfl ?_); refine Kd.R_lit (Kd.int .i64) _ 2 ?hg (N := 26) ?hd (xs := ([(-213044), 8947849, (-178956971), 1073741824] : List Int)) (inner := [.int .i64 (-213044), .int .i64 8947849, .int .i64 (-178956971), .int .i64 1073741824]) (ok := fun _ => True) (okp := fun _ => True) ?hr ?hp (fun _ hk => hk) trivial (Below.refl _ _) (Nat.le_refl _) (by simp) ?_; (case hd => rfl); (case hg => rfl); (case hr => first | (go_simp; done) | (go_simp; rfl)); (case hp => exact (Reps.one (show Kd.M (Kd.int .i64) _ _ _ (-213044) [.int .i64 (-213044)] from rfl) (Reps.one (show Kd.M (Kd.int .i64) _ _ _ 8947849 [.int .i64 8947849] from rfl) (Reps.one (show Kd.M (Kd.int .i64) _ _ _ (-178956971) [.int .i64 (-178956971)] from rfl) (Reps.one (show Kd.M (Kd.int .i64) _ _ _ 1073741824 [.int .i64 1073741824] from rfl) (Reps.none _ _)))))); intro v606 w15 ho16 hb hg_ hnew_; clear hg_ hnew_; (first | rw [← Ny605.out] at ho16 | (simp only [Int.reduceToNat] at ho16; rw [← Ny605.out] at ho16)); have n0_ := Aside0.mk (Kd.R_lower ho16 (below_size (by repeat (with_reducible first | exact HB.out | apply below_alloc | apply pw_below_drewN | apply below_drew1)))); have n1_ := Aside0.mk (below_step (by repeat (with_reducible first | exact HB.out | apply below_alloc | apply pw_below_drewN | apply below_drew1)) hb); clear HB; have HO607 := n0_; have HB := n1_; clear n0_ n1_; clear hb ho16; obtain ⟨Ao17, co17, eo17⟩ := Kd.R_slice HO607.out; subst eo17) | ((with_reducible refine gate_callee (f := 58) rfl ?_); refine goesL_ (some 27) rfl rfl Try.func58 (by kernel_rfl) rfl #[.int .i64 t604, .int .i64 2959, .slice Ao17 y605.length co17] rfl (by (try simp only [List.map_toArray, List.map_cons, List.map_nil]); first | done | rfl | (simp only [List.length_drop, List.length_take]; rfl)) ?_; (with_reducible refine (madrigalref1_series.calls k t604 2959 _ _ y605 t608 _ ?side1 ?side2 A12.out).mono ?_); (case side1 => repeat (first | exact (Kd.R_reads' HO607.out).2.2 | (with_reducible refine Kd.C_alloc ?_ _) | (with_reducible refine Kd.C_drewN ?_ _) | (with_reducible refine Kd.C_drew ?_))); (case side2 => exact (Kd.R_reads' HO607.out).2.1); rintro e w' ⟨rfl, ⟨nd, rfl⟩⟩; refine ⟨_, rfl, ?_⟩) | ((with_reducible refine gate_callee (f := 34) rfl ?_); refine goesL_ (some 28) rfl rfl Try.func34 (by kernel_rfl) rfl #[.int .i64 t603, .int .i64 t608, .int .i64 30] rfl (by (try simp only [List.map_toArray, List.map_cons, List.map_nil]); first | done | rfl | (simp only [List.length_drop, List.length_take]; rfl)) ?_; (with_reducible refine (madrigalref1_Mul.calls k t603 t608 30 t609 _ A13.out).mono ?_); rintro e w' ⟨rfl, ⟨nd, rfl⟩⟩; refine ⟨_, rfl, ?_⟩) | ((with_reducible refine gate_callee (f := 34) rfl ?_); refine goesL_ (some 29) rfl rfl Try.func34 (by kernel_rfl) rfl #[.int .i64 t609, .int .i64 1, .int .i64 15] rfl (by (try simp only [List.map_toArray, List.map_cons, List.map_nil]); first | done | rfl | (simp only [List.length_drop, List.length_take]; rfl)) ?_; (with_reducible refine (madrigalref1_Mul.calls k t609 1 15 t610 _ A14.out).mono ?_); rintro e w' ⟨rfl, ⟨nd, rfl⟩⟩; refine ⟨_, rfl, ?_⟩))
  go_ret
  exact ⟨by first | rfl | (simp [errW_none, errW_some] <;> rfl) | (simp [*, errW_none, errW_some] <;> rfl), by repeat (with_reducible first | exact HB.out | apply below_alloc | apply pw_below_drewN | apply below_drew1)⟩

/-! ### madrigalref1_Cos: function 50 -/
def madrigalref1_Cos.j0 : Nat → Int → Option (Int)
 | 0, _ => none
 | k + 1, x0 => if x0 > 16384 then ((madrigalref1_quarter.f k (wrap64 (32768 - x0))).bind fun t611 => (some (wrap64 (-t611)))) else ((madrigalref1_quarter.f k x0).bind fun t612 => (some t612))
def madrigalref1_Cos.f (k : Nat) (a0 : Int) : Option (Int) := if (Go.bits .and .i64 a0 65535) > 32768 then (madrigalref1_Cos.j0 k (wrap64 (65536 - (Go.bits .and .i64 a0 65535)))) else (madrigalref1_Cos.j0 k (Go.bits .and .i64 a0 65535))
set_option maxHeartbeats 8000000 in
set_option maxRecDepth 100000 in
theorem madrigalref1_Cos.calls (k : Nat) (a0 : Int) (r : Int) (w : World) (h : madrigalref1_Cos.f k a0 = some r) :
  Calls Try.prog 50 #[.int .i64 a0] w fun e w' => e = .returned (.int .i64 r) ∧ Below w.heap.size w w' := by
 have HB := Aside0.mk (Below.refl w.heap.size w)
 have H : (if (Go.bits .and .i64 a0 65535) > 32768 then (madrigalref1_Cos.j0 k (wrap64 (65536 - (Go.bits .and .i64 a0 65535)))) else (madrigalref1_Cos.j0 k (Go.bits .and .i64 a0 65535))) = some r := h
 clear h; have HC2 := Aside0.mk H; clear H
 go_enter Try.func50, Try.ntmps50
 go_upto_if 6 with (fail)
 go_cut [0] (fun v0 wc => ∃ (kq : Nat) (x0_1 : Int), v0 = .int .i64 x0_1 ∧ Aside0 (madrigalref1_Cos.j0 kq x0_1 = some r) ∧ Aside0 (kq ≤ k) ∧ Aside0 (Below w.heap.size w wc))
 case first =>
  have H := HC2.out; clear HC2
  by_cases c3 : (Go.bits .and .i64 a0 65535) > 32768
  ·
   rw [if_pos c3] at H; have c3b0 : decide (32768 < (Go.bits .and .i64 a0 65535)) = true := decide_eq_true c3; clear c3
   (first | rw [c3b0] | (simp only [i64_w, i32_w]; rw [c3b0]) | skip)
   have H' := Aside0.mk H; clear H
   go_wp2
   go_meet
   case rel => exact ⟨_, (wrap64 (65536 - (Go.bits .and .i64 a0 65535))), (by first | rfl | (simp; done) | (simp [*]; done)), H', ⟨by first | omega | exact Nat.le_refl _⟩, ⟨by repeat (with_reducible first | exact HB.out | apply below_alloc | apply pw_below_drewN | apply below_drew1)⟩⟩
  ·
   rw [if_neg c3] at H; have c3b0 : decide (32768 < (Go.bits .and .i64 a0 65535)) = false := decide_eq_false c3; clear c3
   (first | rw [c3b0] | (simp only [i64_w, i32_w]; rw [c3b0]) | skip)
   have H' := Aside0.mk H; clear H
   go_wp2
   go_meet
   case rel => exact ⟨_, (Go.bits .and .i64 a0 65535), (by first | rfl | (simp; done) | (simp [*]; done)), H', ⟨by first | omega | exact Nat.le_refl _⟩, ⟨by repeat (with_reducible first | exact HB.out | apply below_alloc | apply pw_below_drewN | apply below_drew1)⟩⟩
 case rest =>
  clear HC2; (try clear p2); (try clear c3); (try clear c3b0); (try clear c3b0z0)
  obtain ⟨kq, x0_1, rfl, HA, HJ1, HB⟩ := hcut
  cases kq with
  | zero => exact absurd HA.out (by simp [madrigalref1_Cos.j0])
  | succ kj1 =>
   have H := HA.out; clear HA
   simp only [madrigalref1_Cos.j0] at H
   by_cases c4 : x0_1 > 16384
   ·
    rw [if_pos c4] at H; have c4b0 : decide (16384 < x0_1) = true := decide_eq_true c4; clear c4; replace H := Option.bind_eq_some_iff.mp H; obtain ⟨t611, A50, H⟩ := H
    replace H : (some (wrap64 (-t611))) = some r := H
    have A5 := Aside0.mk A50; clear A50
    obtain rfl := Option.some.inj H
    go_wp2_with (first | ((with_reducible refine gate_callee (f := 57) rfl ?_); refine goesL_ (some 13) rfl rfl Try.func57 (by kernel_rfl) rfl #[.int .i64 (wrap64 (32768 - x0_1))] rfl (by (try simp only [List.map_toArray, List.map_cons, List.map_nil]); first | done | rfl | (simp only [List.length_drop, List.length_take]; rfl)) ?_; (with_reducible refine (madrigalref1_quarter.calls kj1 (wrap64 (32768 - x0_1)) t611 _ A5.out).mono ?_); rintro e w6 ⟨rfl, hb⟩; refine ⟨_, rfl, ?_⟩; have n0_ := Aside0.mk (below_step (by repeat (with_reducible first | exact HB.out | apply below_alloc | apply pw_below_drewN | apply below_drew1)) hb); clear HB; have HB := n0_; clear n0_; (try clear hb); (try clear hb2); (try clear hk); (try clear hi)))
    go_ret
    exact ⟨by first | rfl | (simp [errW_none, errW_some] <;> rfl) | (simp [*, errW_none, errW_some] <;> rfl), by repeat (with_reducible first | exact HB.out | apply below_alloc | apply pw_below_drewN | apply below_drew1)⟩
   ·
    rw [if_neg c4] at H; have c4b0 : decide (16384 < x0_1) = false := decide_eq_false c4; clear c4; replace H := Option.bind_eq_some_iff.mp H; obtain ⟨t612, A70, H⟩ := H
    replace H : (some t612) = some r := H
    have A7 := Aside0.mk A70; clear A70
    obtain rfl := Option.some.inj H
    go_wp2_with (first | ((with_reducible refine gate_callee (f := 57) rfl ?_); refine goesL_ (some 16) rfl rfl Try.func57 (by kernel_rfl) rfl #[.int .i64 x0_1] rfl (by (try simp only [List.map_toArray, List.map_cons, List.map_nil]); first | done | rfl | (simp only [List.length_drop, List.length_take]; rfl)) ?_; (with_reducible refine (madrigalref1_quarter.calls kj1 x0_1 t612 _ A7.out).mono ?_); rintro e w8 ⟨rfl, hb⟩; refine ⟨_, rfl, ?_⟩; have n0_ := Aside0.mk (below_step (by repeat (with_reducible first | exact HB.out | apply below_alloc | apply pw_below_drewN | apply below_drew1)) hb); clear HB; have HB := n0_; clear n0_; (try clear hb); (try clear hb2); (try clear hk); (try clear hi)))
    go_ret
    exact ⟨by first | rfl | (simp [errW_none, errW_some] <;> rfl) | (simp [*, errW_none, errW_some] <;> rfl), by repeat (with_reducible first | exact HB.out | apply below_alloc | apply pw_below_drewN | apply below_drew1)⟩

end Go.Proofs.Ytgbdkefglmjdoaa.MA
